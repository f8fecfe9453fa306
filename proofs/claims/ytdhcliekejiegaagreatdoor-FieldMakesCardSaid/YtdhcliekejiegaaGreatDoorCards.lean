/-
  DERIVED. GIVEN WITH THE SEED: THE CARDS: each row of YtdhcliekejiegaaGreatDoorRows.lean that lists a variable, with what it lists TIED to the program's text (the seventh form; the later family's looks); each row that meets fmt, with fmt's text TOLD by the authors' own Lean function (tested against real Go, not proved from fmt's source: count such statements apart). THE CARD IS WHAT COUNTS. Prove the row's statement (the work); the ties are given (YtdhcliekejiegaaGreatDoorTie.lean); close each card by the builder's one call (the guide's Derived/Test/ToyasCard.lean, 'card_holds'). Laid BY PROGRAM, IN A SANDBOX (cutbox-door.mjs). By AI agents, Wed Nov 11 2026. No macro, syntax, notation, axiom, sorry.
-/
import Derived.Test.YtdhcliekejiegaaGreatDoorRows
import GoSem.ClaimSeven
namespace Go.Proofs.YtdhcliekejiegaaGreatDoor
namespace Rows

/-- THE TIED CARD OF 'klippelaw12.MeshEdges'. -/
def meshEdgesCard : Claim7 := { stood := { row := meshEdgesRow, standIns := [], harness := (true, "b782b148beebc653af0d27d599a00bc89cf732fbf1ed042dadaa3426dd3ab75a"), looks := true }, kinds := [], alts := [], laidByText := true, laidKinds := [.data, .data, .data, .sentinel, .sentinel], laidTests := true, laidLooks := .later }
def MeshEdgesCardSaid : Prop := Claim7.holds Tryz.pinned (.plain (OpenSpec.ofChange meshEdgesSpec)) meshEdgesCard

/-- THE TIED CARD OF 'klippelaw13.FieldValues'. -/
def fieldValuesCard : Claim7 := { stood := { row := fieldValuesRow, standIns := [], harness := (true, "b782b148beebc653af0d27d599a00bc89cf732fbf1ed042dadaa3426dd3ab75a"), looks := true }, kinds := [], alts := [], laidByText := true, laidKinds := [.data, .data, .data, .sentinel, .sentinel], laidTests := true, laidLooks := .later }
def FieldValuesCardSaid : Prop := Claim7.holds Tryz.pinned (.plain (OpenSpec.ofChange fieldValuesSpec)) fieldValuesCard

/-- THE TIED CARD OF 'klippelaw13.FieldSlopes'. -/
def fieldSlopesCard : Claim7 := { stood := { row := fieldSlopesRow, standIns := [], harness := (true, "b782b148beebc653af0d27d599a00bc89cf732fbf1ed042dadaa3426dd3ab75a"), looks := true }, kinds := [], alts := [], laidByText := true, laidKinds := [.data, .data, .data, .sentinel, .sentinel], laidTests := true, laidLooks := .later }
def FieldSlopesCardSaid : Prop := Claim7.holds Tryz.pinned (.plain (OpenSpec.ofChange fieldSlopesSpec)) fieldSlopesCard

/-- THE TIED CARD OF 'klippelaw13.FieldMakes'. -/
def fieldMakesCard : Claim7 := { stood := { row := fieldMakesRow, standIns := [], harness := (true, "b782b148beebc653af0d27d599a00bc89cf732fbf1ed042dadaa3426dd3ab75a"), looks := true }, kinds := [], alts := [], laidByText := true, laidKinds := [.data, .data, .data, .sentinel, .sentinel], laidTests := true, laidLooks := .later }
def FieldMakesCardSaid : Prop := Claim7.holds Tryz.pinned (.plain (OpenSpec.ofChange fieldMakesSpec)) fieldMakesCard

/-- THE TIED CARD OF 'klippelaw13.FieldSums'. -/
def fieldSumsCard : Claim7 := { stood := { row := fieldSumsRow, standIns := [], harness := (true, "b782b148beebc653af0d27d599a00bc89cf732fbf1ed042dadaa3426dd3ab75a"), looks := true }, kinds := [], alts := [], laidByText := true, laidKinds := [.data, .data, .data, .sentinel, .sentinel], laidTests := true, laidLooks := .later }
def FieldSumsCardSaid : Prop := Claim7.holds Tryz.pinned (.plain (OpenSpec.ofChange fieldSumsSpec)) fieldSumsCard

/-- THE SECOND FORM's CARD OF 'klippelaw12.MeshEdges'. -/
def meshEdgesUptoCard : Claim7 := { stood := { row := meshEdgesUptoRow, standIns := [], harness := (true, "b782b148beebc653af0d27d599a00bc89cf732fbf1ed042dadaa3426dd3ab75a"), looks := true }, kinds := [], alts := [], laidByText := true, laidKinds := [.data, .data, .data, .sentinel, .sentinel], laidTests := true, laidLooks := .later }
def MeshEdgesUptoCardSaid : Prop := Claim7.holds Tryz.pinned (.plain (OpenSpec.upto meshEdgesSpec)) meshEdgesUptoCard

/-- THE SECOND FORM's CARD OF 'klippelaw13.FieldValues'. -/
def fieldValuesUptoCard : Claim7 := { stood := { row := fieldValuesUptoRow, standIns := [], harness := (true, "b782b148beebc653af0d27d599a00bc89cf732fbf1ed042dadaa3426dd3ab75a"), looks := true }, kinds := [], alts := [], laidByText := true, laidKinds := [.data, .data, .data, .sentinel, .sentinel], laidTests := true, laidLooks := .later }
def FieldValuesUptoCardSaid : Prop := Claim7.holds Tryz.pinned (.plain (OpenSpec.upto fieldValuesSpec)) fieldValuesUptoCard

/-- THE SECOND FORM's CARD OF 'klippelaw13.FieldSlopes'. -/
def fieldSlopesUptoCard : Claim7 := { stood := { row := fieldSlopesUptoRow, standIns := [], harness := (true, "b782b148beebc653af0d27d599a00bc89cf732fbf1ed042dadaa3426dd3ab75a"), looks := true }, kinds := [], alts := [], laidByText := true, laidKinds := [.data, .data, .data, .sentinel, .sentinel], laidTests := true, laidLooks := .later }
def FieldSlopesUptoCardSaid : Prop := Claim7.holds Tryz.pinned (.plain (OpenSpec.upto fieldSlopesSpec)) fieldSlopesUptoCard

/-- THE SECOND FORM's CARD OF 'klippelaw13.FieldMakes'. -/
def fieldMakesUptoCard : Claim7 := { stood := { row := fieldMakesUptoRow, standIns := [], harness := (true, "b782b148beebc653af0d27d599a00bc89cf732fbf1ed042dadaa3426dd3ab75a"), looks := true }, kinds := [], alts := [], laidByText := true, laidKinds := [.data, .data, .data, .sentinel, .sentinel], laidTests := true, laidLooks := .later }
def FieldMakesUptoCardSaid : Prop := Claim7.holds Tryz.pinned (.plain (OpenSpec.upto fieldMakesSpec)) fieldMakesUptoCard

/-- THE SECOND FORM's CARD OF 'klippelaw13.FieldSums'. -/
def fieldSumsUptoCard : Claim7 := { stood := { row := fieldSumsUptoRow, standIns := [], harness := (true, "b782b148beebc653af0d27d599a00bc89cf732fbf1ed042dadaa3426dd3ab75a"), looks := true }, kinds := [], alts := [], laidByText := true, laidKinds := [.data, .data, .data, .sentinel, .sentinel], laidTests := true, laidLooks := .later }
def FieldSumsUptoCardSaid : Prop := Claim7.holds Tryz.pinned (.plain (OpenSpec.upto fieldSumsSpec)) fieldSumsUptoCard
end Rows
end Go.Proofs.YtdhcliekejiegaaGreatDoor
