/-
  DERIVED. GIVEN WITH THE SEED: THE CARDS: each row of YtagbldogmjhdpaaGreatDoorRows.lean that lists a variable, with what it lists TIED to the program's text (the seventh form; the later family's looks); each row that meets fmt, with fmt's text TOLD by the authors' own Lean function (tested against real Go, not proved from fmt's source: count such statements apart). THE CARD IS WHAT COUNTS. Prove the row's statement (the work); the ties are given (YtagbldogmjhdpaaGreatDoorTie.lean); close each card by the builder's one call (the guide's Derived/Test/ToyasCard.lean, 'card_holds'). Laid BY PROGRAM, IN A SANDBOX (cutbox-door.mjs). By AI agents, Wed Nov 11 2026. No macro, syntax, notation, axiom, sorry.
-/
import Derived.Test.YtagbldogmjhdpaaGreatDoorRows
import GoSem.ClaimSeven
namespace Go.Proofs.YtagbldogmjhdpaaGreatDoor
namespace Rows

/-- THE TIED CARD OF 'flatlandlaw01.FieldArithmetic'. -/
def fieldArithmeticCard : Claim7 := { stood := { row := fieldArithmeticRow, standIns := [], harness := (true, "83699f405a26c2676b05294734665f8a15c5223989d7542ce009de976aaedc3f"), looks := false }, kinds := [], alts := [], laidByText := true, laidKinds := [.data, .data, .data], laidTests := true, laidLooks := .later }
def FieldArithmeticCardSaid : Prop := Claim7.holds Tryz.pinned (.plain (OpenSpec.ofChange fieldArithmeticSpec)) fieldArithmeticCard

/-- THE TIED CARD OF 'flatlandlaw01.FieldLaws'. -/
def fieldLawsCard : Claim7 := { stood := { row := fieldLawsRow, standIns := [], harness := (true, "83699f405a26c2676b05294734665f8a15c5223989d7542ce009de976aaedc3f"), looks := false }, kinds := [], alts := [], laidByText := true, laidKinds := [.data, .data, .data], laidTests := true, laidLooks := .later }
def FieldLawsCardSaid : Prop := Claim7.holds Tryz.pinned (.plain (OpenSpec.ofChange fieldLawsSpec)) fieldLawsCard

/-- THE TIED CARD OF 'flatlandlaw01.FieldOrder'. -/
def fieldOrderCard : Claim7 := { stood := { row := fieldOrderRow, standIns := [], harness := (true, "83699f405a26c2676b05294734665f8a15c5223989d7542ce009de976aaedc3f"), looks := false }, kinds := [], alts := [], laidByText := true, laidKinds := [.data, .data, .data], laidTests := true, laidLooks := .later }
def FieldOrderCardSaid : Prop := Claim7.holds Tryz.pinned (.plain (OpenSpec.ofChange fieldOrderSpec)) fieldOrderCard

/-- THE TIED CARD OF 'flatlandlaw01.FieldFields'. -/
def fieldFieldsCard : Claim7 := { stood := { row := fieldFieldsRow, standIns := [], harness := (true, "83699f405a26c2676b05294734665f8a15c5223989d7542ce009de976aaedc3f"), looks := false }, kinds := [], alts := [], laidByText := true, laidKinds := [.data, .data, .data], laidTests := true, laidLooks := .later }
def FieldFieldsCardSaid : Prop := Claim7.holds Tryz.pinned (.plain (OpenSpec.ofChange fieldFieldsSpec)) fieldFieldsCard

/-- THE TIED CARD OF 'flatlandlaw01.FieldVectors'. -/
def fieldVectorsCard : Claim7 := { stood := { row := fieldVectorsRow, standIns := [], harness := (true, "83699f405a26c2676b05294734665f8a15c5223989d7542ce009de976aaedc3f"), looks := false }, kinds := [], alts := [], laidByText := true, laidKinds := [.data, .data, .data], laidTests := true, laidLooks := .later }
def FieldVectorsCardSaid : Prop := Claim7.holds Tryz.pinned (.plain (OpenSpec.ofChange fieldVectorsSpec)) fieldVectorsCard

/-- THE TIED CARD OF 'flatlandlaw01.FieldNorms'. -/
def fieldNormsCard : Claim7 := { stood := { row := fieldNormsRow, standIns := [], harness := (true, "83699f405a26c2676b05294734665f8a15c5223989d7542ce009de976aaedc3f"), looks := false }, kinds := [], alts := [], laidByText := true, laidKinds := [.data, .data, .data], laidTests := true, laidLooks := .later }
def FieldNormsCardSaid : Prop := Claim7.holds Tryz.pinned (.plain (OpenSpec.ofChange fieldNormsSpec)) fieldNormsCard

/-- THE TIED CARD OF 'flatlandlaw01.FieldSigns'. -/
def fieldSignsCard : Claim7 := { stood := { row := fieldSignsRow, standIns := [], harness := (true, "83699f405a26c2676b05294734665f8a15c5223989d7542ce009de976aaedc3f"), looks := false }, kinds := [], alts := [], laidByText := true, laidKinds := [.data, .data, .data], laidTests := true, laidLooks := .later }
def FieldSignsCardSaid : Prop := Claim7.holds Tryz.pinned (.plain (OpenSpec.ofChange fieldSignsSpec)) fieldSignsCard

/-- THE TIED CARD OF 'flatlandlaw01.FieldEncloses'. -/
def fieldEnclosesCard : Claim7 := { stood := { row := fieldEnclosesRow, standIns := [], harness := (true, "83699f405a26c2676b05294734665f8a15c5223989d7542ce009de976aaedc3f"), looks := false }, kinds := [], alts := [], laidByText := true, laidKinds := [.data, .data, .data], laidTests := true, laidLooks := .later }
def FieldEnclosesCardSaid : Prop := Claim7.holds Tryz.pinned (.plain (OpenSpec.ofChange fieldEnclosesSpec)) fieldEnclosesCard

/-- THE TIED CARD OF 'flatlandlaw01.FieldCosines'. -/
def fieldCosinesCard : Claim7 := { stood := { row := fieldCosinesRow, standIns := [], harness := (true, "83699f405a26c2676b05294734665f8a15c5223989d7542ce009de976aaedc3f"), looks := false }, kinds := [], alts := [], laidByText := true, laidKinds := [.data, .data, .data], laidTests := true, laidLooks := .later }
def FieldCosinesCardSaid : Prop := Claim7.holds Tryz.pinned (.plain (OpenSpec.ofChange fieldCosinesSpec)) fieldCosinesCard

/-- THE TIED CARD OF 'flatlandlaw01.FieldGiven'. -/
def fieldGivenCard : Claim7 := { stood := { row := fieldGivenRow, standIns := [], harness := (true, "83699f405a26c2676b05294734665f8a15c5223989d7542ce009de976aaedc3f"), looks := false }, kinds := [], alts := [], laidByText := true, laidKinds := [.data, .data, .data], laidTests := true, laidLooks := .later }
def FieldGivenCardSaid : Prop := Claim7.holds Tryz.pinned (.plain (OpenSpec.ofChange fieldGivenSpec)) fieldGivenCard

/-- THE SECOND FORM's CARD OF 'flatlandlaw01.FieldArithmetic'. -/
def fieldArithmeticUptoCard : Claim7 := { stood := { row := fieldArithmeticUptoRow, standIns := [], harness := (true, "83699f405a26c2676b05294734665f8a15c5223989d7542ce009de976aaedc3f"), looks := false }, kinds := [], alts := [], laidByText := true, laidKinds := [.data, .data, .data], laidTests := true, laidLooks := .later }
def FieldArithmeticUptoCardSaid : Prop := Claim7.holds Tryz.pinned (.plain (OpenSpec.upto fieldArithmeticSpec)) fieldArithmeticUptoCard

/-- THE SECOND FORM's CARD OF 'flatlandlaw01.FieldLaws'. -/
def fieldLawsUptoCard : Claim7 := { stood := { row := fieldLawsUptoRow, standIns := [], harness := (true, "83699f405a26c2676b05294734665f8a15c5223989d7542ce009de976aaedc3f"), looks := false }, kinds := [], alts := [], laidByText := true, laidKinds := [.data, .data, .data], laidTests := true, laidLooks := .later }
def FieldLawsUptoCardSaid : Prop := Claim7.holds Tryz.pinned (.plain (OpenSpec.upto fieldLawsSpec)) fieldLawsUptoCard

/-- THE SECOND FORM's CARD OF 'flatlandlaw01.FieldOrder'. -/
def fieldOrderUptoCard : Claim7 := { stood := { row := fieldOrderUptoRow, standIns := [], harness := (true, "83699f405a26c2676b05294734665f8a15c5223989d7542ce009de976aaedc3f"), looks := false }, kinds := [], alts := [], laidByText := true, laidKinds := [.data, .data, .data], laidTests := true, laidLooks := .later }
def FieldOrderUptoCardSaid : Prop := Claim7.holds Tryz.pinned (.plain (OpenSpec.upto fieldOrderSpec)) fieldOrderUptoCard

/-- THE SECOND FORM's CARD OF 'flatlandlaw01.FieldFields'. -/
def fieldFieldsUptoCard : Claim7 := { stood := { row := fieldFieldsUptoRow, standIns := [], harness := (true, "83699f405a26c2676b05294734665f8a15c5223989d7542ce009de976aaedc3f"), looks := false }, kinds := [], alts := [], laidByText := true, laidKinds := [.data, .data, .data], laidTests := true, laidLooks := .later }
def FieldFieldsUptoCardSaid : Prop := Claim7.holds Tryz.pinned (.plain (OpenSpec.upto fieldFieldsSpec)) fieldFieldsUptoCard

/-- THE SECOND FORM's CARD OF 'flatlandlaw01.FieldVectors'. -/
def fieldVectorsUptoCard : Claim7 := { stood := { row := fieldVectorsUptoRow, standIns := [], harness := (true, "83699f405a26c2676b05294734665f8a15c5223989d7542ce009de976aaedc3f"), looks := false }, kinds := [], alts := [], laidByText := true, laidKinds := [.data, .data, .data], laidTests := true, laidLooks := .later }
def FieldVectorsUptoCardSaid : Prop := Claim7.holds Tryz.pinned (.plain (OpenSpec.upto fieldVectorsSpec)) fieldVectorsUptoCard

/-- THE SECOND FORM's CARD OF 'flatlandlaw01.FieldNorms'. -/
def fieldNormsUptoCard : Claim7 := { stood := { row := fieldNormsUptoRow, standIns := [], harness := (true, "83699f405a26c2676b05294734665f8a15c5223989d7542ce009de976aaedc3f"), looks := false }, kinds := [], alts := [], laidByText := true, laidKinds := [.data, .data, .data], laidTests := true, laidLooks := .later }
def FieldNormsUptoCardSaid : Prop := Claim7.holds Tryz.pinned (.plain (OpenSpec.upto fieldNormsSpec)) fieldNormsUptoCard

/-- THE SECOND FORM's CARD OF 'flatlandlaw01.FieldSigns'. -/
def fieldSignsUptoCard : Claim7 := { stood := { row := fieldSignsUptoRow, standIns := [], harness := (true, "83699f405a26c2676b05294734665f8a15c5223989d7542ce009de976aaedc3f"), looks := false }, kinds := [], alts := [], laidByText := true, laidKinds := [.data, .data, .data], laidTests := true, laidLooks := .later }
def FieldSignsUptoCardSaid : Prop := Claim7.holds Tryz.pinned (.plain (OpenSpec.upto fieldSignsSpec)) fieldSignsUptoCard

/-- THE SECOND FORM's CARD OF 'flatlandlaw01.FieldEncloses'. -/
def fieldEnclosesUptoCard : Claim7 := { stood := { row := fieldEnclosesUptoRow, standIns := [], harness := (true, "83699f405a26c2676b05294734665f8a15c5223989d7542ce009de976aaedc3f"), looks := false }, kinds := [], alts := [], laidByText := true, laidKinds := [.data, .data, .data], laidTests := true, laidLooks := .later }
def FieldEnclosesUptoCardSaid : Prop := Claim7.holds Tryz.pinned (.plain (OpenSpec.upto fieldEnclosesSpec)) fieldEnclosesUptoCard

/-- THE SECOND FORM's CARD OF 'flatlandlaw01.FieldCosines'. -/
def fieldCosinesUptoCard : Claim7 := { stood := { row := fieldCosinesUptoRow, standIns := [], harness := (true, "83699f405a26c2676b05294734665f8a15c5223989d7542ce009de976aaedc3f"), looks := false }, kinds := [], alts := [], laidByText := true, laidKinds := [.data, .data, .data], laidTests := true, laidLooks := .later }
def FieldCosinesUptoCardSaid : Prop := Claim7.holds Tryz.pinned (.plain (OpenSpec.upto fieldCosinesSpec)) fieldCosinesUptoCard

/-- THE SECOND FORM's CARD OF 'flatlandlaw01.FieldGiven'. -/
def fieldGivenUptoCard : Claim7 := { stood := { row := fieldGivenUptoRow, standIns := [], harness := (true, "83699f405a26c2676b05294734665f8a15c5223989d7542ce009de976aaedc3f"), looks := false }, kinds := [], alts := [], laidByText := true, laidKinds := [.data, .data, .data], laidTests := true, laidLooks := .later }
def FieldGivenUptoCardSaid : Prop := Claim7.holds Tryz.pinned (.plain (OpenSpec.upto fieldGivenSpec)) fieldGivenUptoCard
end Rows
end Go.Proofs.YtagbldogmjhdpaaGreatDoor
