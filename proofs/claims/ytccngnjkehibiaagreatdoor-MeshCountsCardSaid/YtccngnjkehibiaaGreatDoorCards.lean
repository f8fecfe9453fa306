/-
  DERIVED. GIVEN WITH THE SEED: THE CARDS: each row of YtccngnjkehibiaaGreatDoorRows.lean that lists a variable, with what it lists TIED to the program's text (the seventh form; the later family's looks); each row that meets fmt, with fmt's text TOLD by the authors' own Lean function (tested against real Go, not proved from fmt's source: count such statements apart). THE CARD IS WHAT COUNTS. Prove the row's statement (the work); the ties are given (YtccngnjkehibiaaGreatDoorTie.lean); close each card by the builder's one call (the guide's Derived/Test/ToyasCard.lean, 'card_holds'). Laid BY PROGRAM, IN A SANDBOX (cutbox-door.mjs). By AI agents, Wed Nov 11 2026. No macro, syntax, notation, axiom, sorry.
-/
import Derived.Test.YtccngnjkehibiaaGreatDoorRows
import GoSem.ClaimSeven
namespace Go.Proofs.YtccngnjkehibiaaGreatDoor
namespace Rows

/-- THE TIED CARD OF 'klippelaw12.MeshGrids'. -/
def meshGridsCard : Claim7 := { stood := { row := meshGridsRow, standIns := [], harness := (true, "3b7b7ba428c0e308d7c6856966ba4b8107515931d3b6d95eacead1c7e4c7cf91"), looks := true }, kinds := [], alts := [], laidByText := true, laidKinds := [.data, .data, .data, .sentinel, .sentinel], laidTests := true, laidLooks := .later }
def MeshGridsCardSaid : Prop := Claim7.holds Tryz.pinned (.plain (OpenSpec.ofChange meshGridsSpec)) meshGridsCard

/-- THE TIED CARD OF 'klippelaw12.MeshAlongs'. -/
def meshAlongsCard : Claim7 := { stood := { row := meshAlongsRow, standIns := [], harness := (true, "3b7b7ba428c0e308d7c6856966ba4b8107515931d3b6d95eacead1c7e4c7cf91"), looks := true }, kinds := [], alts := [], laidByText := true, laidKinds := [.data, .data, .data, .sentinel, .sentinel], laidTests := true, laidLooks := .later }
def MeshAlongsCardSaid : Prop := Claim7.holds Tryz.pinned (.plain (OpenSpec.ofChange meshAlongsSpec)) meshAlongsCard

/-- THE TIED CARD OF 'klippelaw12.MeshShares'. -/
def meshSharesCard : Claim7 := { stood := { row := meshSharesRow, standIns := [], harness := (true, "3b7b7ba428c0e308d7c6856966ba4b8107515931d3b6d95eacead1c7e4c7cf91"), looks := true }, kinds := [], alts := [], laidByText := true, laidKinds := [.data, .data, .data, .sentinel, .sentinel], laidTests := true, laidLooks := .later }
def MeshSharesCardSaid : Prop := Claim7.holds Tryz.pinned (.plain (OpenSpec.ofChange meshSharesSpec)) meshSharesCard

/-- THE TIED CARD OF 'klippelaw12.MeshLocates'. -/
def meshLocatesCard : Claim7 := { stood := { row := meshLocatesRow, standIns := [], harness := (true, "3b7b7ba428c0e308d7c6856966ba4b8107515931d3b6d95eacead1c7e4c7cf91"), looks := true }, kinds := [], alts := [], laidByText := true, laidKinds := [.data, .data, .data, .sentinel, .sentinel], laidTests := true, laidLooks := .later }
def MeshLocatesCardSaid : Prop := Claim7.holds Tryz.pinned (.plain (OpenSpec.ofChange meshLocatesSpec)) meshLocatesCard

/-- THE TIED CARD OF 'klippelaw12.MeshSpans'. -/
def meshSpansCard : Claim7 := { stood := { row := meshSpansRow, standIns := [], harness := (true, "3b7b7ba428c0e308d7c6856966ba4b8107515931d3b6d95eacead1c7e4c7cf91"), looks := true }, kinds := [], alts := [], laidByText := true, laidKinds := [.data, .data, .data, .sentinel, .sentinel], laidTests := true, laidLooks := .later }
def MeshSpansCardSaid : Prop := Claim7.holds Tryz.pinned (.plain (OpenSpec.ofChange meshSpansSpec)) meshSpansCard

/-- THE TIED CARD OF 'klippelaw12.MeshTurns'. -/
def meshTurnsCard : Claim7 := { stood := { row := meshTurnsRow, standIns := [], harness := (true, "3b7b7ba428c0e308d7c6856966ba4b8107515931d3b6d95eacead1c7e4c7cf91"), looks := true }, kinds := [], alts := [], laidByText := true, laidKinds := [.data, .data, .data, .sentinel, .sentinel], laidTests := true, laidLooks := .later }
def MeshTurnsCardSaid : Prop := Claim7.holds Tryz.pinned (.plain (OpenSpec.ofChange meshTurnsSpec)) meshTurnsCard

/-- THE TIED CARD OF 'klippelaw12.MeshEdges'. -/
def meshEdgesCard : Claim7 := { stood := { row := meshEdgesRow, standIns := [], harness := (true, "3b7b7ba428c0e308d7c6856966ba4b8107515931d3b6d95eacead1c7e4c7cf91"), looks := true }, kinds := [], alts := [], laidByText := true, laidKinds := [.data, .data, .data, .sentinel, .sentinel], laidTests := true, laidLooks := .later }
def MeshEdgesCardSaid : Prop := Claim7.holds Tryz.pinned (.plain (OpenSpec.ofChange meshEdgesSpec)) meshEdgesCard

/-- THE TIED CARD OF 'klippelaw12.MeshCounts'. -/
def meshCountsCard : Claim7 := { stood := { row := meshCountsRow, standIns := [], harness := (true, "3b7b7ba428c0e308d7c6856966ba4b8107515931d3b6d95eacead1c7e4c7cf91"), looks := true }, kinds := [], alts := [], laidByText := true, laidKinds := [.data, .data, .data, .sentinel, .sentinel], laidTests := true, laidLooks := .later }
def MeshCountsCardSaid : Prop := Claim7.holds Tryz.pinned (.plain (OpenSpec.ofChange meshCountsSpec)) meshCountsCard

/-- THE TIED CARD OF 'klippelaw12.MeshChecks'. -/
def meshChecksCard : Claim7 := { stood := { row := meshChecksRow, standIns := [], harness := (true, "3b7b7ba428c0e308d7c6856966ba4b8107515931d3b6d95eacead1c7e4c7cf91"), looks := true }, kinds := [], alts := [], laidByText := true, laidKinds := [.data, .data, .data, .sentinel, .sentinel], laidTests := true, laidLooks := .later }
def MeshChecksCardSaid : Prop := Claim7.holds Tryz.pinned (.plain (OpenSpec.ofChange meshChecksSpec)) meshChecksCard

/-- THE SECOND FORM's CARD OF 'klippelaw12.MeshGrids'. -/
def meshGridsUptoCard : Claim7 := { stood := { row := meshGridsUptoRow, standIns := [], harness := (true, "3b7b7ba428c0e308d7c6856966ba4b8107515931d3b6d95eacead1c7e4c7cf91"), looks := true }, kinds := [], alts := [], laidByText := true, laidKinds := [.data, .data, .data, .sentinel, .sentinel], laidTests := true, laidLooks := .later }
def MeshGridsUptoCardSaid : Prop := Claim7.holds Tryz.pinned (.plain (OpenSpec.upto meshGridsSpec)) meshGridsUptoCard

/-- THE SECOND FORM's CARD OF 'klippelaw12.MeshAlongs'. -/
def meshAlongsUptoCard : Claim7 := { stood := { row := meshAlongsUptoRow, standIns := [], harness := (true, "3b7b7ba428c0e308d7c6856966ba4b8107515931d3b6d95eacead1c7e4c7cf91"), looks := true }, kinds := [], alts := [], laidByText := true, laidKinds := [.data, .data, .data, .sentinel, .sentinel], laidTests := true, laidLooks := .later }
def MeshAlongsUptoCardSaid : Prop := Claim7.holds Tryz.pinned (.plain (OpenSpec.upto meshAlongsSpec)) meshAlongsUptoCard

/-- THE SECOND FORM's CARD OF 'klippelaw12.MeshShares'. -/
def meshSharesUptoCard : Claim7 := { stood := { row := meshSharesUptoRow, standIns := [], harness := (true, "3b7b7ba428c0e308d7c6856966ba4b8107515931d3b6d95eacead1c7e4c7cf91"), looks := true }, kinds := [], alts := [], laidByText := true, laidKinds := [.data, .data, .data, .sentinel, .sentinel], laidTests := true, laidLooks := .later }
def MeshSharesUptoCardSaid : Prop := Claim7.holds Tryz.pinned (.plain (OpenSpec.upto meshSharesSpec)) meshSharesUptoCard

/-- THE SECOND FORM's CARD OF 'klippelaw12.MeshLocates'. -/
def meshLocatesUptoCard : Claim7 := { stood := { row := meshLocatesUptoRow, standIns := [], harness := (true, "3b7b7ba428c0e308d7c6856966ba4b8107515931d3b6d95eacead1c7e4c7cf91"), looks := true }, kinds := [], alts := [], laidByText := true, laidKinds := [.data, .data, .data, .sentinel, .sentinel], laidTests := true, laidLooks := .later }
def MeshLocatesUptoCardSaid : Prop := Claim7.holds Tryz.pinned (.plain (OpenSpec.upto meshLocatesSpec)) meshLocatesUptoCard

/-- THE SECOND FORM's CARD OF 'klippelaw12.MeshSpans'. -/
def meshSpansUptoCard : Claim7 := { stood := { row := meshSpansUptoRow, standIns := [], harness := (true, "3b7b7ba428c0e308d7c6856966ba4b8107515931d3b6d95eacead1c7e4c7cf91"), looks := true }, kinds := [], alts := [], laidByText := true, laidKinds := [.data, .data, .data, .sentinel, .sentinel], laidTests := true, laidLooks := .later }
def MeshSpansUptoCardSaid : Prop := Claim7.holds Tryz.pinned (.plain (OpenSpec.upto meshSpansSpec)) meshSpansUptoCard

/-- THE SECOND FORM's CARD OF 'klippelaw12.MeshTurns'. -/
def meshTurnsUptoCard : Claim7 := { stood := { row := meshTurnsUptoRow, standIns := [], harness := (true, "3b7b7ba428c0e308d7c6856966ba4b8107515931d3b6d95eacead1c7e4c7cf91"), looks := true }, kinds := [], alts := [], laidByText := true, laidKinds := [.data, .data, .data, .sentinel, .sentinel], laidTests := true, laidLooks := .later }
def MeshTurnsUptoCardSaid : Prop := Claim7.holds Tryz.pinned (.plain (OpenSpec.upto meshTurnsSpec)) meshTurnsUptoCard

/-- THE SECOND FORM's CARD OF 'klippelaw12.MeshEdges'. -/
def meshEdgesUptoCard : Claim7 := { stood := { row := meshEdgesUptoRow, standIns := [], harness := (true, "3b7b7ba428c0e308d7c6856966ba4b8107515931d3b6d95eacead1c7e4c7cf91"), looks := true }, kinds := [], alts := [], laidByText := true, laidKinds := [.data, .data, .data, .sentinel, .sentinel], laidTests := true, laidLooks := .later }
def MeshEdgesUptoCardSaid : Prop := Claim7.holds Tryz.pinned (.plain (OpenSpec.upto meshEdgesSpec)) meshEdgesUptoCard

/-- THE SECOND FORM's CARD OF 'klippelaw12.MeshCounts'. -/
def meshCountsUptoCard : Claim7 := { stood := { row := meshCountsUptoRow, standIns := [], harness := (true, "3b7b7ba428c0e308d7c6856966ba4b8107515931d3b6d95eacead1c7e4c7cf91"), looks := true }, kinds := [], alts := [], laidByText := true, laidKinds := [.data, .data, .data, .sentinel, .sentinel], laidTests := true, laidLooks := .later }
def MeshCountsUptoCardSaid : Prop := Claim7.holds Tryz.pinned (.plain (OpenSpec.upto meshCountsSpec)) meshCountsUptoCard

/-- THE SECOND FORM's CARD OF 'klippelaw12.MeshChecks'. -/
def meshChecksUptoCard : Claim7 := { stood := { row := meshChecksUptoRow, standIns := [], harness := (true, "3b7b7ba428c0e308d7c6856966ba4b8107515931d3b6d95eacead1c7e4c7cf91"), looks := true }, kinds := [], alts := [], laidByText := true, laidKinds := [.data, .data, .data, .sentinel, .sentinel], laidTests := true, laidLooks := .later }
def MeshChecksUptoCardSaid : Prop := Claim7.holds Tryz.pinned (.plain (OpenSpec.upto meshChecksSpec)) meshChecksUptoCard
end Rows
end Go.Proofs.YtccngnjkehibiaaGreatDoor
