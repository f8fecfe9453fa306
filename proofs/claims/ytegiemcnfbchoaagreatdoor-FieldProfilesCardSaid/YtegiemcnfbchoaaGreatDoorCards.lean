/-
  DERIVED. GIVEN WITH THE SEED: THE CARDS: each row of YtegiemcnfbchoaaGreatDoorRows.lean that lists a variable, with what it lists TIED to the program's text (the seventh form; the later family's looks); each row that meets fmt, with fmt's text TOLD by the authors' own Lean function (tested against real Go, not proved from fmt's source: count such statements apart). THE CARD IS WHAT COUNTS. Prove the row's statement (the work); the ties are given (YtegiemcnfbchoaaGreatDoorTie.lean); close each card by the builder's one call (the guide's Derived/Test/ToyasCard.lean, 'card_holds'). Laid BY PROGRAM, IN A SANDBOX (cutbox-door.mjs). By AI agents, Wed Nov 11 2026. No macro, syntax, notation, axiom, sorry.
-/
import Derived.Test.YtegiemcnfbchoaaGreatDoorRows
import GoSem.ClaimSeven
namespace Go.Proofs.YtegiemcnfbchoaaGreatDoor
namespace Rows

/-- THE TIED CARD OF 'klippelaw13.FieldProfiles'. -/
def fieldProfilesCard : Claim7 := { stood := { row := fieldProfilesRow, standIns := [], harness := (true, "60aa91f056f4f076dcb90a1078fcdfe3b6a2a66fb077df7cbc7fa180fbc9c866"), looks := true }, kinds := [], alts := [], laidByText := true, laidKinds := [.data, .data, .data, .sentinel, .sentinel], laidTests := true, laidLooks := .later }
def FieldProfilesCardSaid : Prop := Claim7.holds Tryz.pinned (.plain (OpenSpec.ofChange fieldProfilesSpec)) fieldProfilesCard

/-- THE TIED CARD OF 'klippelaw13.FieldVolumes'. -/
def fieldVolumesCard : Claim7 := { stood := { row := fieldVolumesRow, standIns := [], harness := (true, "60aa91f056f4f076dcb90a1078fcdfe3b6a2a66fb077df7cbc7fa180fbc9c866"), looks := true }, kinds := [], alts := [], laidByText := true, laidKinds := [.data, .data, .data, .sentinel, .sentinel], laidTests := true, laidLooks := .later }
def FieldVolumesCardSaid : Prop := Claim7.holds Tryz.pinned (.plain (OpenSpec.ofChange fieldVolumesSpec)) fieldVolumesCard

/-- THE TIED CARD OF 'klippelaw13.FieldLaws'. -/
def fieldLawsCard : Claim7 := { stood := { row := fieldLawsRow, standIns := [], harness := (true, "60aa91f056f4f076dcb90a1078fcdfe3b6a2a66fb077df7cbc7fa180fbc9c866"), looks := true }, kinds := [], alts := [], laidByText := true, laidKinds := [.data, .data, .data, .sentinel, .sentinel], laidTests := true, laidLooks := .later }
def FieldLawsCardSaid : Prop := Claim7.holds Tryz.pinned (.plain (OpenSpec.ofChange fieldLawsSpec)) fieldLawsCard

/-- THE SECOND FORM's CARD OF 'klippelaw13.FieldProfiles'. -/
def fieldProfilesUptoCard : Claim7 := { stood := { row := fieldProfilesUptoRow, standIns := [], harness := (true, "60aa91f056f4f076dcb90a1078fcdfe3b6a2a66fb077df7cbc7fa180fbc9c866"), looks := true }, kinds := [], alts := [], laidByText := true, laidKinds := [.data, .data, .data, .sentinel, .sentinel], laidTests := true, laidLooks := .later }
def FieldProfilesUptoCardSaid : Prop := Claim7.holds Tryz.pinned (.plain (OpenSpec.upto fieldProfilesSpec)) fieldProfilesUptoCard

/-- THE SECOND FORM's CARD OF 'klippelaw13.FieldVolumes'. -/
def fieldVolumesUptoCard : Claim7 := { stood := { row := fieldVolumesUptoRow, standIns := [], harness := (true, "60aa91f056f4f076dcb90a1078fcdfe3b6a2a66fb077df7cbc7fa180fbc9c866"), looks := true }, kinds := [], alts := [], laidByText := true, laidKinds := [.data, .data, .data, .sentinel, .sentinel], laidTests := true, laidLooks := .later }
def FieldVolumesUptoCardSaid : Prop := Claim7.holds Tryz.pinned (.plain (OpenSpec.upto fieldVolumesSpec)) fieldVolumesUptoCard

/-- THE SECOND FORM's CARD OF 'klippelaw13.FieldLaws'. -/
def fieldLawsUptoCard : Claim7 := { stood := { row := fieldLawsUptoRow, standIns := [], harness := (true, "60aa91f056f4f076dcb90a1078fcdfe3b6a2a66fb077df7cbc7fa180fbc9c866"), looks := true }, kinds := [], alts := [], laidByText := true, laidKinds := [.data, .data, .data, .sentinel, .sentinel], laidTests := true, laidLooks := .later }
def FieldLawsUptoCardSaid : Prop := Claim7.holds Tryz.pinned (.plain (OpenSpec.upto fieldLawsSpec)) fieldLawsUptoCard
end Rows
end Go.Proofs.YtegiemcnfbchoaaGreatDoor
