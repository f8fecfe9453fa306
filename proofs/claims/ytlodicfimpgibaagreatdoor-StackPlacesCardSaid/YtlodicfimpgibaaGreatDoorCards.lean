/-
  DERIVED. GIVEN WITH THE SEED: THE CARDS: each row of YtlodicfimpgibaaGreatDoorRows.lean that lists a variable, with what it lists TIED to the program's text (the seventh form; the later family's looks); each row that meets fmt, with fmt's text TOLD by the authors' own Lean function (tested against real Go, not proved from fmt's source: count such statements apart). THE CARD IS WHAT COUNTS. Prove the row's statement (the work); the ties are given (YtlodicfimpgibaaGreatDoorTie.lean); close each card by the builder's one call (the guide's Derived/Test/ToyasCard.lean, 'card_holds'). Laid BY PROGRAM, IN A SANDBOX (cutbox-door.mjs). By AI agents, Wed Nov 11 2026. No macro, syntax, notation, axiom, sorry.
-/
import Derived.Test.YtlodicfimpgibaaGreatDoorRows
import GoSem.ClaimSeven
namespace Go.Proofs.YtlodicfimpgibaaGreatDoor
namespace Rows

/-- THE TIED CARD OF 'klippelaw28.StackAddsUp'. -/
def stackAddsUpCard : Claim7 := { stood := { row := stackAddsUpRow, standIns := [], harness := (true, "909c10ecddad49c51de470df987156b5518d3fdd75ba7d6d85e49c83cd61c187"), looks := true }, kinds := [], alts := [], laidByText := true, laidKinds := [.data, .data, .data, .sentinel, .sentinel], laidTests := true, laidLooks := .later }
def StackAddsUpCardSaid : Prop := Claim7.holds Tryz.pinned (.plain (OpenSpec.ofChange stackAddsUpSpec)) stackAddsUpCard

/-- THE TIED CARD OF 'klippelaw28.StackPlaces'. -/
def stackPlacesCard : Claim7 := { stood := { row := stackPlacesRow, standIns := [], harness := (true, "909c10ecddad49c51de470df987156b5518d3fdd75ba7d6d85e49c83cd61c187"), looks := true }, kinds := [], alts := [], laidByText := true, laidKinds := [.data, .data, .data, .sentinel, .sentinel], laidTests := true, laidLooks := .later }
def StackPlacesCardSaid : Prop := Claim7.holds Tryz.pinned (.plain (OpenSpec.ofChange stackPlacesSpec)) stackPlacesCard

/-- THE TIED CARD OF 'klippelaw28.StackLogs'. -/
def stackLogsCard : Claim7 := { stood := { row := stackLogsRow, standIns := [], harness := (true, "909c10ecddad49c51de470df987156b5518d3fdd75ba7d6d85e49c83cd61c187"), looks := true }, kinds := [], alts := [], laidByText := true, laidKinds := [.data, .data, .data, .sentinel, .sentinel], laidTests := true, laidLooks := .later }
def StackLogsCardSaid : Prop := Claim7.holds Tryz.pinned (.plain (OpenSpec.ofChange stackLogsSpec)) stackLogsCard

/-- THE SECOND FORM's CARD OF 'klippelaw28.StackAddsUp'. -/
def stackAddsUpUptoCard : Claim7 := { stood := { row := stackAddsUpUptoRow, standIns := [], harness := (true, "909c10ecddad49c51de470df987156b5518d3fdd75ba7d6d85e49c83cd61c187"), looks := true }, kinds := [], alts := [], laidByText := true, laidKinds := [.data, .data, .data, .sentinel, .sentinel], laidTests := true, laidLooks := .later }
def StackAddsUpUptoCardSaid : Prop := Claim7.holds Tryz.pinned (.plain (OpenSpec.upto stackAddsUpSpec)) stackAddsUpUptoCard

/-- THE SECOND FORM's CARD OF 'klippelaw28.StackPlaces'. -/
def stackPlacesUptoCard : Claim7 := { stood := { row := stackPlacesUptoRow, standIns := [], harness := (true, "909c10ecddad49c51de470df987156b5518d3fdd75ba7d6d85e49c83cd61c187"), looks := true }, kinds := [], alts := [], laidByText := true, laidKinds := [.data, .data, .data, .sentinel, .sentinel], laidTests := true, laidLooks := .later }
def StackPlacesUptoCardSaid : Prop := Claim7.holds Tryz.pinned (.plain (OpenSpec.upto stackPlacesSpec)) stackPlacesUptoCard

/-- THE SECOND FORM's CARD OF 'klippelaw28.StackLogs'. -/
def stackLogsUptoCard : Claim7 := { stood := { row := stackLogsUptoRow, standIns := [], harness := (true, "909c10ecddad49c51de470df987156b5518d3fdd75ba7d6d85e49c83cd61c187"), looks := true }, kinds := [], alts := [], laidByText := true, laidKinds := [.data, .data, .data, .sentinel, .sentinel], laidTests := true, laidLooks := .later }
def StackLogsUptoCardSaid : Prop := Claim7.holds Tryz.pinned (.plain (OpenSpec.upto stackLogsSpec)) stackLogsUptoCard
end Rows
end Go.Proofs.YtlodicfimpgibaaGreatDoor
