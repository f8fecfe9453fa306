/-
  DERIVED. GIVEN WITH THE SEED: THE CARDS: each row of YtmcbeajdloaliaaGreatDoorRows.lean that lists a variable, with what it lists TIED to the program's text (the seventh form; the later family's looks); each row that meets fmt, with fmt's text TOLD by the authors' own Lean function (tested against real Go, not proved from fmt's source: count such statements apart). THE CARD IS WHAT COUNTS. Prove the row's statement (the work); the ties are given (YtmcbeajdloaliaaGreatDoorTie.lean); close each card by the builder's one call (the guide's Derived/Test/ToyasCard.lean, 'card_holds'). Laid BY PROGRAM, IN A SANDBOX (cutbox-door.mjs). By AI agents, Wed Nov 11 2026. No macro, syntax, notation, axiom, sorry.
-/
import Derived.Test.YtmcbeajdloaliaaGreatDoorRows
import GoSem.ClaimSeven
namespace Go.Proofs.YtmcbeajdloaliaaGreatDoor
namespace Rows

/-- THE TIED CARD OF 'klippelaw28.StackInserts'. -/
def stackInsertsCard : Claim7 := { stood := { row := stackInsertsRow, standIns := [], harness := (true, "307fa0db4bfc5fa45970bd203199b92ccddf9a4aad718187a0eda42f552de1ac"), looks := true }, kinds := [], alts := [], laidByText := true, laidKinds := [.data, .data, .data, .sentinel, .sentinel], laidTests := true, laidLooks := .later }
def StackInsertsCardSaid : Prop := Claim7.holds Tryz.pinned (.plain (OpenSpec.ofChange stackInsertsSpec)) stackInsertsCard

/-- THE TIED CARD OF 'klippelaw28.StackSurfaces'. -/
def stackSurfacesCard : Claim7 := { stood := { row := stackSurfacesRow, standIns := [], harness := (true, "307fa0db4bfc5fa45970bd203199b92ccddf9a4aad718187a0eda42f552de1ac"), looks := true }, kinds := [], alts := [], laidByText := true, laidKinds := [.data, .data, .data, .sentinel, .sentinel], laidTests := true, laidLooks := .later }
def StackSurfacesCardSaid : Prop := Claim7.holds Tryz.pinned (.plain (OpenSpec.ofChange stackSurfacesSpec)) stackSurfacesCard

/-- THE TIED CARD OF 'klippelaw28.StackChecks'. -/
def stackChecksCard : Claim7 := { stood := { row := stackChecksRow, standIns := [], harness := (true, "307fa0db4bfc5fa45970bd203199b92ccddf9a4aad718187a0eda42f552de1ac"), looks := true }, kinds := [], alts := [], laidByText := true, laidKinds := [.data, .data, .data, .sentinel, .sentinel], laidTests := true, laidLooks := .later }
def StackChecksCardSaid : Prop := Claim7.holds Tryz.pinned (.plain (OpenSpec.ofChange stackChecksSpec)) stackChecksCard

/-- THE TIED CARD OF 'klippelaw28.StackColumns'. -/
def stackColumnsCard : Claim7 := { stood := { row := stackColumnsRow, standIns := [], harness := (true, "307fa0db4bfc5fa45970bd203199b92ccddf9a4aad718187a0eda42f552de1ac"), looks := true }, kinds := [], alts := [], laidByText := true, laidKinds := [.data, .data, .data, .sentinel, .sentinel], laidTests := true, laidLooks := .later }
def StackColumnsCardSaid : Prop := Claim7.holds Tryz.pinned (.plain (OpenSpec.ofChange stackColumnsSpec)) stackColumnsCard

/-- THE SECOND FORM's CARD OF 'klippelaw28.StackInserts'. -/
def stackInsertsUptoCard : Claim7 := { stood := { row := stackInsertsUptoRow, standIns := [], harness := (true, "307fa0db4bfc5fa45970bd203199b92ccddf9a4aad718187a0eda42f552de1ac"), looks := true }, kinds := [], alts := [], laidByText := true, laidKinds := [.data, .data, .data, .sentinel, .sentinel], laidTests := true, laidLooks := .later }
def StackInsertsUptoCardSaid : Prop := Claim7.holds Tryz.pinned (.plain (OpenSpec.upto stackInsertsSpec)) stackInsertsUptoCard

/-- THE SECOND FORM's CARD OF 'klippelaw28.StackSurfaces'. -/
def stackSurfacesUptoCard : Claim7 := { stood := { row := stackSurfacesUptoRow, standIns := [], harness := (true, "307fa0db4bfc5fa45970bd203199b92ccddf9a4aad718187a0eda42f552de1ac"), looks := true }, kinds := [], alts := [], laidByText := true, laidKinds := [.data, .data, .data, .sentinel, .sentinel], laidTests := true, laidLooks := .later }
def StackSurfacesUptoCardSaid : Prop := Claim7.holds Tryz.pinned (.plain (OpenSpec.upto stackSurfacesSpec)) stackSurfacesUptoCard

/-- THE SECOND FORM's CARD OF 'klippelaw28.StackChecks'. -/
def stackChecksUptoCard : Claim7 := { stood := { row := stackChecksUptoRow, standIns := [], harness := (true, "307fa0db4bfc5fa45970bd203199b92ccddf9a4aad718187a0eda42f552de1ac"), looks := true }, kinds := [], alts := [], laidByText := true, laidKinds := [.data, .data, .data, .sentinel, .sentinel], laidTests := true, laidLooks := .later }
def StackChecksUptoCardSaid : Prop := Claim7.holds Tryz.pinned (.plain (OpenSpec.upto stackChecksSpec)) stackChecksUptoCard

/-- THE SECOND FORM's CARD OF 'klippelaw28.StackColumns'. -/
def stackColumnsUptoCard : Claim7 := { stood := { row := stackColumnsUptoRow, standIns := [], harness := (true, "307fa0db4bfc5fa45970bd203199b92ccddf9a4aad718187a0eda42f552de1ac"), looks := true }, kinds := [], alts := [], laidByText := true, laidKinds := [.data, .data, .data, .sentinel, .sentinel], laidTests := true, laidLooks := .later }
def StackColumnsUptoCardSaid : Prop := Claim7.holds Tryz.pinned (.plain (OpenSpec.upto stackColumnsSpec)) stackColumnsUptoCard
end Rows
end Go.Proofs.YtmcbeajdloaliaaGreatDoor
