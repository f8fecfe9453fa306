/-
  DERIVED. GIVEN WITH THE SEED: THE CARDS: each row of YtbfcmipplhkkeaaGreatDoorRows.lean that lists a variable, with what it lists TIED to the program's text (the seventh form; the later family's looks); each row that meets fmt, with fmt's text TOLD by the authors' own Lean function (tested against real Go, not proved from fmt's source: count such statements apart). THE CARD IS WHAT COUNTS. Prove the row's statement (the work); the ties are given (YtbfcmipplhkkeaaGreatDoorTie.lean); close each card by the builder's one call (the guide's Derived/Test/ToyasCard.lean, 'card_holds'). Laid BY PROGRAM, IN A SANDBOX (cutbox-door.mjs). By AI agents, Wed Nov 11 2026. No macro, syntax, notation, axiom, sorry.
-/
import Derived.Test.YtbfcmipplhkkeaaGreatDoorRows
import GoSem.ClaimSeven
namespace Go.Proofs.YtbfcmipplhkkeaaGreatDoor
namespace Rows

/-- THE TIED CARD OF 'klippelaw13.FieldRounds'. -/
def fieldRoundsCard : Claim7 := { stood := { row := fieldRoundsRow, standIns := [], harness := (true, "cf386bee13b6fe995e49cccf5a0c0439a5b293b2302bf4fb8eb11db67b897018"), looks := true }, kinds := [], alts := [], laidByText := true, laidKinds := [.data, .data, .data, .sentinel, .sentinel], laidTests := true, laidLooks := .later }
def FieldRoundsCardSaid : Prop := Claim7.holds Tryz.pinned (.plain (OpenSpec.ofChange fieldRoundsSpec)) fieldRoundsCard

/-- THE TIED CARD OF 'klippelaw13.FieldLevels'. -/
def fieldLevelsCard : Claim7 := { stood := { row := fieldLevelsRow, standIns := [], harness := (true, "cf386bee13b6fe995e49cccf5a0c0439a5b293b2302bf4fb8eb11db67b897018"), looks := true }, kinds := [], alts := [], laidByText := true, laidKinds := [.data, .data, .data, .sentinel, .sentinel], laidTests := true, laidLooks := .later }
def FieldLevelsCardSaid : Prop := Claim7.holds Tryz.pinned (.plain (OpenSpec.ofChange fieldLevelsSpec)) fieldLevelsCard

/-- THE SECOND FORM's CARD OF 'klippelaw13.FieldRounds'. -/
def fieldRoundsUptoCard : Claim7 := { stood := { row := fieldRoundsUptoRow, standIns := [], harness := (true, "cf386bee13b6fe995e49cccf5a0c0439a5b293b2302bf4fb8eb11db67b897018"), looks := true }, kinds := [], alts := [], laidByText := true, laidKinds := [.data, .data, .data, .sentinel, .sentinel], laidTests := true, laidLooks := .later }
def FieldRoundsUptoCardSaid : Prop := Claim7.holds Tryz.pinned (.plain (OpenSpec.upto fieldRoundsSpec)) fieldRoundsUptoCard

/-- THE SECOND FORM's CARD OF 'klippelaw13.FieldLevels'. -/
def fieldLevelsUptoCard : Claim7 := { stood := { row := fieldLevelsUptoRow, standIns := [], harness := (true, "cf386bee13b6fe995e49cccf5a0c0439a5b293b2302bf4fb8eb11db67b897018"), looks := true }, kinds := [], alts := [], laidByText := true, laidKinds := [.data, .data, .data, .sentinel, .sentinel], laidTests := true, laidLooks := .later }
def FieldLevelsUptoCardSaid : Prop := Claim7.holds Tryz.pinned (.plain (OpenSpec.upto fieldLevelsSpec)) fieldLevelsUptoCard
end Rows
end Go.Proofs.YtbfcmipplhkkeaaGreatDoor
