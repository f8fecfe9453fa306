/-
  DERIVED. GIVEN WITH THE SEED: THE CARDS: each row of YtjfjkiibmfgplaaGreatDoorRows.lean that lists a variable, with what it lists TIED to the program's text (the seventh form; the later family's looks); each row that meets fmt, with fmt's text TOLD by the authors' own Lean function (tested against real Go, not proved from fmt's source: count such statements apart). THE CARD IS WHAT COUNTS. Prove the row's statement (the work); the ties are given (YtjfjkiibmfgplaaGreatDoorTie.lean); close each card by the builder's one call (the guide's Derived/Test/ToyasCard.lean, 'card_holds'). Laid BY PROGRAM, IN A SANDBOX (cutbox-door.mjs). By AI agents, Wed Nov 11 2026. No macro, syntax, notation, axiom, sorry.
-/
import Derived.Test.YtjfjkiibmfgplaaGreatDoorRows
import GoSem.ClaimSeven
namespace Go.Proofs.YtjfjkiibmfgplaaGreatDoor
namespace Rows

/-- THE TIED CARD OF 'klippelaw38.ThicknessPlanes'. -/
def thicknessPlanesCard : Claim7 := { stood := { row := thicknessPlanesRow, standIns := [], harness := (true, "f55a1be73791726001dfa8fd93a4eee3dbb8d69ed14bbd9eeee58405a62e06c8"), looks := true }, kinds := [], alts := [], laidByText := true, laidKinds := [.data, .data, .data, .sentinel, .sentinel], laidTests := true, laidLooks := .later }
def ThicknessPlanesCardSaid : Prop := Claim7.holds Tryz.pinned (.plain (OpenSpec.ofChange thicknessPlanesSpec)) thicknessPlanesCard

/-- THE TIED CARD OF 'klippelaw38.ThicknessTurns'. -/
def thicknessTurnsCard : Claim7 := { stood := { row := thicknessTurnsRow, standIns := [], harness := (true, "f55a1be73791726001dfa8fd93a4eee3dbb8d69ed14bbd9eeee58405a62e06c8"), looks := true }, kinds := [], alts := [], laidByText := true, laidKinds := [.data, .data, .data, .sentinel, .sentinel], laidTests := true, laidLooks := .later }
def ThicknessTurnsCardSaid : Prop := Claim7.holds Tryz.pinned (.plain (OpenSpec.ofChange thicknessTurnsSpec)) thicknessTurnsCard

/-- THE TIED CARD OF 'klippelaw38.ThicknessIsopachs'. -/
def thicknessIsopachsCard : Claim7 := { stood := { row := thicknessIsopachsRow, standIns := [], harness := (true, "f55a1be73791726001dfa8fd93a4eee3dbb8d69ed14bbd9eeee58405a62e06c8"), looks := true }, kinds := [], alts := [], laidByText := true, laidKinds := [.data, .data, .data, .sentinel, .sentinel], laidTests := true, laidLooks := .later }
def ThicknessIsopachsCardSaid : Prop := Claim7.holds Tryz.pinned (.plain (OpenSpec.ofChange thicknessIsopachsSpec)) thicknessIsopachsCard

/-- THE TIED CARD OF 'klippelaw38.ThicknessVertical'. -/
def thicknessVerticalCard : Claim7 := { stood := { row := thicknessVerticalRow, standIns := [], harness := (true, "f55a1be73791726001dfa8fd93a4eee3dbb8d69ed14bbd9eeee58405a62e06c8"), looks := true }, kinds := [], alts := [], laidByText := true, laidKinds := [.data, .data, .data, .sentinel, .sentinel], laidTests := true, laidLooks := .later }
def ThicknessVerticalCardSaid : Prop := Claim7.holds Tryz.pinned (.plain (OpenSpec.ofChange thicknessVerticalSpec)) thicknessVerticalCard

/-- THE TIED CARD OF 'klippelaw38.ThicknessFields'. -/
def thicknessFieldsCard : Claim7 := { stood := { row := thicknessFieldsRow, standIns := [], harness := (true, "f55a1be73791726001dfa8fd93a4eee3dbb8d69ed14bbd9eeee58405a62e06c8"), looks := true }, kinds := [], alts := [], laidByText := true, laidKinds := [.data, .data, .data, .sentinel, .sentinel], laidTests := true, laidLooks := .later }
def ThicknessFieldsCardSaid : Prop := Claim7.holds Tryz.pinned (.plain (OpenSpec.ofChange thicknessFieldsSpec)) thicknessFieldsCard

/-- THE TIED CARD OF 'klippelaw38.ThicknessContours'. -/
def thicknessContoursCard : Claim7 := { stood := { row := thicknessContoursRow, standIns := [], harness := (true, "f55a1be73791726001dfa8fd93a4eee3dbb8d69ed14bbd9eeee58405a62e06c8"), looks := true }, kinds := [], alts := [], laidByText := true, laidKinds := [.data, .data, .data, .sentinel, .sentinel], laidTests := true, laidLooks := .later }
def ThicknessContoursCardSaid : Prop := Claim7.holds Tryz.pinned (.plain (OpenSpec.ofChange thicknessContoursSpec)) thicknessContoursCard

/-- THE TIED CARD OF 'klippelaw38.ThicknessChecks'. -/
def thicknessChecksCard : Claim7 := { stood := { row := thicknessChecksRow, standIns := [], harness := (true, "f55a1be73791726001dfa8fd93a4eee3dbb8d69ed14bbd9eeee58405a62e06c8"), looks := true }, kinds := [], alts := [], laidByText := true, laidKinds := [.data, .data, .data, .sentinel, .sentinel], laidTests := true, laidLooks := .later }
def ThicknessChecksCardSaid : Prop := Claim7.holds Tryz.pinned (.plain (OpenSpec.ofChange thicknessChecksSpec)) thicknessChecksCard

/-- THE SECOND FORM's CARD OF 'klippelaw38.ThicknessPlanes'. -/
def thicknessPlanesUptoCard : Claim7 := { stood := { row := thicknessPlanesUptoRow, standIns := [], harness := (true, "f55a1be73791726001dfa8fd93a4eee3dbb8d69ed14bbd9eeee58405a62e06c8"), looks := true }, kinds := [], alts := [], laidByText := true, laidKinds := [.data, .data, .data, .sentinel, .sentinel], laidTests := true, laidLooks := .later }
def ThicknessPlanesUptoCardSaid : Prop := Claim7.holds Tryz.pinned (.plain (OpenSpec.upto thicknessPlanesSpec)) thicknessPlanesUptoCard

/-- THE SECOND FORM's CARD OF 'klippelaw38.ThicknessTurns'. -/
def thicknessTurnsUptoCard : Claim7 := { stood := { row := thicknessTurnsUptoRow, standIns := [], harness := (true, "f55a1be73791726001dfa8fd93a4eee3dbb8d69ed14bbd9eeee58405a62e06c8"), looks := true }, kinds := [], alts := [], laidByText := true, laidKinds := [.data, .data, .data, .sentinel, .sentinel], laidTests := true, laidLooks := .later }
def ThicknessTurnsUptoCardSaid : Prop := Claim7.holds Tryz.pinned (.plain (OpenSpec.upto thicknessTurnsSpec)) thicknessTurnsUptoCard

/-- THE SECOND FORM's CARD OF 'klippelaw38.ThicknessIsopachs'. -/
def thicknessIsopachsUptoCard : Claim7 := { stood := { row := thicknessIsopachsUptoRow, standIns := [], harness := (true, "f55a1be73791726001dfa8fd93a4eee3dbb8d69ed14bbd9eeee58405a62e06c8"), looks := true }, kinds := [], alts := [], laidByText := true, laidKinds := [.data, .data, .data, .sentinel, .sentinel], laidTests := true, laidLooks := .later }
def ThicknessIsopachsUptoCardSaid : Prop := Claim7.holds Tryz.pinned (.plain (OpenSpec.upto thicknessIsopachsSpec)) thicknessIsopachsUptoCard

/-- THE SECOND FORM's CARD OF 'klippelaw38.ThicknessVertical'. -/
def thicknessVerticalUptoCard : Claim7 := { stood := { row := thicknessVerticalUptoRow, standIns := [], harness := (true, "f55a1be73791726001dfa8fd93a4eee3dbb8d69ed14bbd9eeee58405a62e06c8"), looks := true }, kinds := [], alts := [], laidByText := true, laidKinds := [.data, .data, .data, .sentinel, .sentinel], laidTests := true, laidLooks := .later }
def ThicknessVerticalUptoCardSaid : Prop := Claim7.holds Tryz.pinned (.plain (OpenSpec.upto thicknessVerticalSpec)) thicknessVerticalUptoCard

/-- THE SECOND FORM's CARD OF 'klippelaw38.ThicknessFields'. -/
def thicknessFieldsUptoCard : Claim7 := { stood := { row := thicknessFieldsUptoRow, standIns := [], harness := (true, "f55a1be73791726001dfa8fd93a4eee3dbb8d69ed14bbd9eeee58405a62e06c8"), looks := true }, kinds := [], alts := [], laidByText := true, laidKinds := [.data, .data, .data, .sentinel, .sentinel], laidTests := true, laidLooks := .later }
def ThicknessFieldsUptoCardSaid : Prop := Claim7.holds Tryz.pinned (.plain (OpenSpec.upto thicknessFieldsSpec)) thicknessFieldsUptoCard

/-- THE SECOND FORM's CARD OF 'klippelaw38.ThicknessContours'. -/
def thicknessContoursUptoCard : Claim7 := { stood := { row := thicknessContoursUptoRow, standIns := [], harness := (true, "f55a1be73791726001dfa8fd93a4eee3dbb8d69ed14bbd9eeee58405a62e06c8"), looks := true }, kinds := [], alts := [], laidByText := true, laidKinds := [.data, .data, .data, .sentinel, .sentinel], laidTests := true, laidLooks := .later }
def ThicknessContoursUptoCardSaid : Prop := Claim7.holds Tryz.pinned (.plain (OpenSpec.upto thicknessContoursSpec)) thicknessContoursUptoCard

/-- THE SECOND FORM's CARD OF 'klippelaw38.ThicknessChecks'. -/
def thicknessChecksUptoCard : Claim7 := { stood := { row := thicknessChecksUptoRow, standIns := [], harness := (true, "f55a1be73791726001dfa8fd93a4eee3dbb8d69ed14bbd9eeee58405a62e06c8"), looks := true }, kinds := [], alts := [], laidByText := true, laidKinds := [.data, .data, .data, .sentinel, .sentinel], laidTests := true, laidLooks := .later }
def ThicknessChecksUptoCardSaid : Prop := Claim7.holds Tryz.pinned (.plain (OpenSpec.upto thicknessChecksSpec)) thicknessChecksUptoCard
end Rows
end Go.Proofs.YtjfjkiibmfgplaaGreatDoor
