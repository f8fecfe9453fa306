/-
  DERIVED. GIVEN WITH THE SEED: THE CARDS: each row of YtgdpoankaojklaaGreatDoorRows.lean that lists a variable, with what it lists TIED to the program's text (the seventh form; the later family's looks); each row that meets fmt, with fmt's text TOLD by the authors' own Lean function (tested against real Go, not proved from fmt's source: count such statements apart). THE CARD IS WHAT COUNTS. Prove the row's statement (the work); the ties are given (YtgdpoankaojklaaGreatDoorTie.lean); close each card by the builder's one call (the guide's Derived/Test/ToyasCard.lean, 'card_holds'). Laid BY PROGRAM, IN A SANDBOX (cutbox-door.mjs). By AI agents, Wed Nov 11 2026. No macro, syntax, notation, axiom, sorry.
-/
import Derived.Test.YtgdpoankaojklaaGreatDoorRows
import GoSem.ClaimSeven
namespace Go.Proofs.YtgdpoankaojklaaGreatDoor
namespace Rows

/-- THE TIED CARD OF 'klippelaw28.StackEquals'. -/
def stackEqualsCard : Claim7 := { stood := { row := stackEqualsRow, standIns := [], harness := (true, "fbb597712fbd61a21d7ef20ce1aec79c94b23e2446a1fc0b9e13591478440830"), looks := true }, kinds := [], alts := [], laidByText := true, laidKinds := [.data, .data, .data, .sentinel, .sentinel], laidTests := true, laidLooks := .later }
def StackEqualsCardSaid : Prop := Claim7.holds Tryz.pinned (.plain (OpenSpec.ofChange stackEqualsSpec)) stackEqualsCard

/-- THE TIED CARD OF 'klippelaw28.StackInserts'. -/
def stackInsertsCard : Claim7 := { stood := { row := stackInsertsRow, standIns := [], harness := (true, "fbb597712fbd61a21d7ef20ce1aec79c94b23e2446a1fc0b9e13591478440830"), looks := true }, kinds := [], alts := [], laidByText := true, laidKinds := [.data, .data, .data, .sentinel, .sentinel], laidTests := true, laidLooks := .later }
def StackInsertsCardSaid : Prop := Claim7.holds Tryz.pinned (.plain (OpenSpec.ofChange stackInsertsSpec)) stackInsertsCard

/-- THE TIED CARD OF 'klippelaw28.StackAddsUp'. -/
def stackAddsUpCard : Claim7 := { stood := { row := stackAddsUpRow, standIns := [], harness := (true, "fbb597712fbd61a21d7ef20ce1aec79c94b23e2446a1fc0b9e13591478440830"), looks := true }, kinds := [], alts := [], laidByText := true, laidKinds := [.data, .data, .data, .sentinel, .sentinel], laidTests := true, laidLooks := .later }
def StackAddsUpCardSaid : Prop := Claim7.holds Tryz.pinned (.plain (OpenSpec.ofChange stackAddsUpSpec)) stackAddsUpCard

/-- THE TIED CARD OF 'klippelaw28.StackPlaces'. -/
def stackPlacesCard : Claim7 := { stood := { row := stackPlacesRow, standIns := [], harness := (true, "fbb597712fbd61a21d7ef20ce1aec79c94b23e2446a1fc0b9e13591478440830"), looks := true }, kinds := [], alts := [], laidByText := true, laidKinds := [.data, .data, .data, .sentinel, .sentinel], laidTests := true, laidLooks := .later }
def StackPlacesCardSaid : Prop := Claim7.holds Tryz.pinned (.plain (OpenSpec.ofChange stackPlacesSpec)) stackPlacesCard

/-- THE TIED CARD OF 'klippelaw28.StackLogs'. -/
def stackLogsCard : Claim7 := { stood := { row := stackLogsRow, standIns := [], harness := (true, "fbb597712fbd61a21d7ef20ce1aec79c94b23e2446a1fc0b9e13591478440830"), looks := true }, kinds := [], alts := [], laidByText := true, laidKinds := [.data, .data, .data, .sentinel, .sentinel], laidTests := true, laidLooks := .later }
def StackLogsCardSaid : Prop := Claim7.holds Tryz.pinned (.plain (OpenSpec.ofChange stackLogsSpec)) stackLogsCard

/-- THE TIED CARD OF 'klippelaw28.StackRemoves'. -/
def stackRemovesCard : Claim7 := { stood := { row := stackRemovesRow, standIns := [], harness := (true, "fbb597712fbd61a21d7ef20ce1aec79c94b23e2446a1fc0b9e13591478440830"), looks := true }, kinds := [], alts := [], laidByText := true, laidKinds := [.data, .data, .data, .sentinel, .sentinel], laidTests := true, laidLooks := .later }
def StackRemovesCardSaid : Prop := Claim7.holds Tryz.pinned (.plain (OpenSpec.ofChange stackRemovesSpec)) stackRemovesCard

/-- THE TIED CARD OF 'klippelaw28.StackSurfaces'. -/
def stackSurfacesCard : Claim7 := { stood := { row := stackSurfacesRow, standIns := [], harness := (true, "fbb597712fbd61a21d7ef20ce1aec79c94b23e2446a1fc0b9e13591478440830"), looks := true }, kinds := [], alts := [], laidByText := true, laidKinds := [.data, .data, .data, .sentinel, .sentinel], laidTests := true, laidLooks := .later }
def StackSurfacesCardSaid : Prop := Claim7.holds Tryz.pinned (.plain (OpenSpec.ofChange stackSurfacesSpec)) stackSurfacesCard

/-- THE TIED CARD OF 'klippelaw28.StackReturns'. -/
def stackReturnsCard : Claim7 := { stood := { row := stackReturnsRow, standIns := [], harness := (true, "fbb597712fbd61a21d7ef20ce1aec79c94b23e2446a1fc0b9e13591478440830"), looks := true }, kinds := [], alts := [], laidByText := true, laidKinds := [.data, .data, .data, .sentinel, .sentinel], laidTests := true, laidLooks := .later }
def StackReturnsCardSaid : Prop := Claim7.holds Tryz.pinned (.plain (OpenSpec.ofChange stackReturnsSpec)) stackReturnsCard

/-- THE TIED CARD OF 'klippelaw28.StackChecks'. -/
def stackChecksCard : Claim7 := { stood := { row := stackChecksRow, standIns := [], harness := (true, "fbb597712fbd61a21d7ef20ce1aec79c94b23e2446a1fc0b9e13591478440830"), looks := true }, kinds := [], alts := [], laidByText := true, laidKinds := [.data, .data, .data, .sentinel, .sentinel], laidTests := true, laidLooks := .later }
def StackChecksCardSaid : Prop := Claim7.holds Tryz.pinned (.plain (OpenSpec.ofChange stackChecksSpec)) stackChecksCard

/-- THE TIED CARD OF 'klippelaw28.StackColumns'. -/
def stackColumnsCard : Claim7 := { stood := { row := stackColumnsRow, standIns := [], harness := (true, "fbb597712fbd61a21d7ef20ce1aec79c94b23e2446a1fc0b9e13591478440830"), looks := true }, kinds := [], alts := [], laidByText := true, laidKinds := [.data, .data, .data, .sentinel, .sentinel], laidTests := true, laidLooks := .later }
def StackColumnsCardSaid : Prop := Claim7.holds Tryz.pinned (.plain (OpenSpec.ofChange stackColumnsSpec)) stackColumnsCard

/-- THE SECOND FORM's CARD OF 'klippelaw28.StackEquals'. -/
def stackEqualsUptoCard : Claim7 := { stood := { row := stackEqualsUptoRow, standIns := [], harness := (true, "fbb597712fbd61a21d7ef20ce1aec79c94b23e2446a1fc0b9e13591478440830"), looks := true }, kinds := [], alts := [], laidByText := true, laidKinds := [.data, .data, .data, .sentinel, .sentinel], laidTests := true, laidLooks := .later }
def StackEqualsUptoCardSaid : Prop := Claim7.holds Tryz.pinned (.plain (OpenSpec.upto stackEqualsSpec)) stackEqualsUptoCard

/-- THE SECOND FORM's CARD OF 'klippelaw28.StackInserts'. -/
def stackInsertsUptoCard : Claim7 := { stood := { row := stackInsertsUptoRow, standIns := [], harness := (true, "fbb597712fbd61a21d7ef20ce1aec79c94b23e2446a1fc0b9e13591478440830"), looks := true }, kinds := [], alts := [], laidByText := true, laidKinds := [.data, .data, .data, .sentinel, .sentinel], laidTests := true, laidLooks := .later }
def StackInsertsUptoCardSaid : Prop := Claim7.holds Tryz.pinned (.plain (OpenSpec.upto stackInsertsSpec)) stackInsertsUptoCard

/-- THE SECOND FORM's CARD OF 'klippelaw28.StackAddsUp'. -/
def stackAddsUpUptoCard : Claim7 := { stood := { row := stackAddsUpUptoRow, standIns := [], harness := (true, "fbb597712fbd61a21d7ef20ce1aec79c94b23e2446a1fc0b9e13591478440830"), looks := true }, kinds := [], alts := [], laidByText := true, laidKinds := [.data, .data, .data, .sentinel, .sentinel], laidTests := true, laidLooks := .later }
def StackAddsUpUptoCardSaid : Prop := Claim7.holds Tryz.pinned (.plain (OpenSpec.upto stackAddsUpSpec)) stackAddsUpUptoCard

/-- THE SECOND FORM's CARD OF 'klippelaw28.StackPlaces'. -/
def stackPlacesUptoCard : Claim7 := { stood := { row := stackPlacesUptoRow, standIns := [], harness := (true, "fbb597712fbd61a21d7ef20ce1aec79c94b23e2446a1fc0b9e13591478440830"), looks := true }, kinds := [], alts := [], laidByText := true, laidKinds := [.data, .data, .data, .sentinel, .sentinel], laidTests := true, laidLooks := .later }
def StackPlacesUptoCardSaid : Prop := Claim7.holds Tryz.pinned (.plain (OpenSpec.upto stackPlacesSpec)) stackPlacesUptoCard

/-- THE SECOND FORM's CARD OF 'klippelaw28.StackLogs'. -/
def stackLogsUptoCard : Claim7 := { stood := { row := stackLogsUptoRow, standIns := [], harness := (true, "fbb597712fbd61a21d7ef20ce1aec79c94b23e2446a1fc0b9e13591478440830"), looks := true }, kinds := [], alts := [], laidByText := true, laidKinds := [.data, .data, .data, .sentinel, .sentinel], laidTests := true, laidLooks := .later }
def StackLogsUptoCardSaid : Prop := Claim7.holds Tryz.pinned (.plain (OpenSpec.upto stackLogsSpec)) stackLogsUptoCard

/-- THE SECOND FORM's CARD OF 'klippelaw28.StackRemoves'. -/
def stackRemovesUptoCard : Claim7 := { stood := { row := stackRemovesUptoRow, standIns := [], harness := (true, "fbb597712fbd61a21d7ef20ce1aec79c94b23e2446a1fc0b9e13591478440830"), looks := true }, kinds := [], alts := [], laidByText := true, laidKinds := [.data, .data, .data, .sentinel, .sentinel], laidTests := true, laidLooks := .later }
def StackRemovesUptoCardSaid : Prop := Claim7.holds Tryz.pinned (.plain (OpenSpec.upto stackRemovesSpec)) stackRemovesUptoCard

/-- THE SECOND FORM's CARD OF 'klippelaw28.StackSurfaces'. -/
def stackSurfacesUptoCard : Claim7 := { stood := { row := stackSurfacesUptoRow, standIns := [], harness := (true, "fbb597712fbd61a21d7ef20ce1aec79c94b23e2446a1fc0b9e13591478440830"), looks := true }, kinds := [], alts := [], laidByText := true, laidKinds := [.data, .data, .data, .sentinel, .sentinel], laidTests := true, laidLooks := .later }
def StackSurfacesUptoCardSaid : Prop := Claim7.holds Tryz.pinned (.plain (OpenSpec.upto stackSurfacesSpec)) stackSurfacesUptoCard

/-- THE SECOND FORM's CARD OF 'klippelaw28.StackReturns'. -/
def stackReturnsUptoCard : Claim7 := { stood := { row := stackReturnsUptoRow, standIns := [], harness := (true, "fbb597712fbd61a21d7ef20ce1aec79c94b23e2446a1fc0b9e13591478440830"), looks := true }, kinds := [], alts := [], laidByText := true, laidKinds := [.data, .data, .data, .sentinel, .sentinel], laidTests := true, laidLooks := .later }
def StackReturnsUptoCardSaid : Prop := Claim7.holds Tryz.pinned (.plain (OpenSpec.upto stackReturnsSpec)) stackReturnsUptoCard

/-- THE SECOND FORM's CARD OF 'klippelaw28.StackChecks'. -/
def stackChecksUptoCard : Claim7 := { stood := { row := stackChecksUptoRow, standIns := [], harness := (true, "fbb597712fbd61a21d7ef20ce1aec79c94b23e2446a1fc0b9e13591478440830"), looks := true }, kinds := [], alts := [], laidByText := true, laidKinds := [.data, .data, .data, .sentinel, .sentinel], laidTests := true, laidLooks := .later }
def StackChecksUptoCardSaid : Prop := Claim7.holds Tryz.pinned (.plain (OpenSpec.upto stackChecksSpec)) stackChecksUptoCard

/-- THE SECOND FORM's CARD OF 'klippelaw28.StackColumns'. -/
def stackColumnsUptoCard : Claim7 := { stood := { row := stackColumnsUptoRow, standIns := [], harness := (true, "fbb597712fbd61a21d7ef20ce1aec79c94b23e2446a1fc0b9e13591478440830"), looks := true }, kinds := [], alts := [], laidByText := true, laidKinds := [.data, .data, .data, .sentinel, .sentinel], laidTests := true, laidLooks := .later }
def StackColumnsUptoCardSaid : Prop := Claim7.holds Tryz.pinned (.plain (OpenSpec.upto stackColumnsSpec)) stackColumnsUptoCard
end Rows
end Go.Proofs.YtgdpoankaojklaaGreatDoor
