/-
  NARROWER THAN 'FOR EVERY INPUT', by the rows' own cells (each row's printed sentence says how): FieldArithmetic: laid · FieldLaws: laid · FieldOrder: laid · FieldFields: laid · FieldVectors: laid · FieldNorms: laid · FieldSigns: laid · FieldEncloses: laid · FieldCosines: laid · FieldGiven: laid.
  DERIVED. THE GIVEN ROWS OF THIS SEAT. 10 by the template 'for every input the law returns true; each argument reads behind the call as it read before'; 0 by the template 'total and deterministic' (their statements: YtagbldogmjhdpaaGreatDoorTotals.lean).
  GIVEN WITH THE SEED: the statements are not yours to turn. If you find one false, say at which input.
  Laid BY PROGRAM, IN A SANDBOX (cutbox-rows.mjs): the forced cells as the released guide's own fill.sh prints them over the translation 9ce79421f6f7565b… (all of the seat's roots in one cut). By AI agents, Wed Nov 11 2026. No macro, syntax, notation, axiom, sorry.
-/
import Derived.Test.YtagbldogmjhdpaaGreatDoorChecked
import GoSem.Claim
import GoSem.ClaimJoined
import GoSem.ClaimMapViews
import Derived.JoinedTies
import Derived.KernelRfl
namespace Go.Proofs.YtagbldogmjhdpaaGreatDoor
/- THE CELL 'sum', in the pinned program and in every row, IS THE sha256 OF THE DUMP (.gsa) THAT YtagbldogmjhdpaaGreatDoorProg.lean LOADS. Nothing in Lean hashes anything: it is a label: what it is worth is what the hold of that sum in a sandbox is worth. -/
noncomputable def Tryz.pinned : Pinned := { name := "ytagbldogmjhdpaagreatdoor", sum := "9ce79421f6f7565bc5758093047548715cb46329e0bc3545868d1be400df757f", checked := Tryz.checked }
namespace Rows
def none {H : Type} : Left H := { results := [], args := [] }

/- WHAT THE LISTED PACKAGE-LEVEL VARIABLES READ AS WHEN THE CALL BEGINS. Each datum BY PROGRAM (the guide's laid-datum.mjs) off the statement by which the dump's own 'gosem.cut.vars' lays the variable. In a bare row this is a premise. The card (YtagbldogmjhdpaaGreatDoorCards.lean) ties it to the program's text. -/
def laid_math_bits_deBruijn32tab {H : Type} : DataW H := .agg [.lit (.int .u8 0), .lit (.int .u8 1), .lit (.int .u8 28), .lit (.int .u8 2), .lit (.int .u8 29), .lit (.int .u8 14), .lit (.int .u8 24), .lit (.int .u8 3), .lit (.int .u8 30), .lit (.int .u8 22), .lit (.int .u8 20), .lit (.int .u8 15), .lit (.int .u8 25), .lit (.int .u8 17), .lit (.int .u8 4), .lit (.int .u8 8), .lit (.int .u8 31), .lit (.int .u8 27), .lit (.int .u8 13), .lit (.int .u8 23), .lit (.int .u8 21), .lit (.int .u8 19), .lit (.int .u8 16), .lit (.int .u8 7), .lit (.int .u8 26), .lit (.int .u8 12), .lit (.int .u8 18), .lit (.int .u8 6), .lit (.int .u8 11), .lit (.int .u8 5), .lit (.int .u8 10), .lit (.int .u8 9)]
def laid_math_bits_deBruijn64tab {H : Type} : DataW H := .agg [.lit (.int .u8 0), .lit (.int .u8 1), .lit (.int .u8 56), .lit (.int .u8 2), .lit (.int .u8 57), .lit (.int .u8 49), .lit (.int .u8 28), .lit (.int .u8 3), .lit (.int .u8 61), .lit (.int .u8 58), .lit (.int .u8 42), .lit (.int .u8 50), .lit (.int .u8 38), .lit (.int .u8 29), .lit (.int .u8 17), .lit (.int .u8 4), .lit (.int .u8 62), .lit (.int .u8 47), .lit (.int .u8 59), .lit (.int .u8 36), .lit (.int .u8 45), .lit (.int .u8 43), .lit (.int .u8 51), .lit (.int .u8 22), .lit (.int .u8 53), .lit (.int .u8 39), .lit (.int .u8 33), .lit (.int .u8 30), .lit (.int .u8 24), .lit (.int .u8 18), .lit (.int .u8 12), .lit (.int .u8 5), .lit (.int .u8 63), .lit (.int .u8 55), .lit (.int .u8 48), .lit (.int .u8 27), .lit (.int .u8 60), .lit (.int .u8 41), .lit (.int .u8 37), .lit (.int .u8 16), .lit (.int .u8 46), .lit (.int .u8 35), .lit (.int .u8 44), .lit (.int .u8 21), .lit (.int .u8 52), .lit (.int .u8 32), .lit (.int .u8 23), .lit (.int .u8 11), .lit (.int .u8 54), .lit (.int .u8 26), .lit (.int .u8 40), .lit (.int .u8 15), .lit (.int .u8 34), .lit (.int .u8 20), .lit (.int .u8 31), .lit (.int .u8 10), .lit (.int .u8 25), .lit (.int .u8 14), .lit (.int .u8 19), .lit (.int .u8 9), .lit (.int .u8 13), .lit (.int .u8 8), .lit (.int .u8 7), .lit (.int .u8 6)]
def laid_internal_strconv_uint64pow10 {H : Type} : DataW H := .agg [.lit (.int .u64 1), .lit (.int .u64 10), .lit (.int .u64 100), .lit (.int .u64 1000), .lit (.int .u64 10000), .lit (.int .u64 100000), .lit (.int .u64 1000000), .lit (.int .u64 10000000), .lit (.int .u64 100000000), .lit (.int .u64 1000000000), .lit (.int .u64 10000000000), .lit (.int .u64 100000000000), .lit (.int .u64 1000000000000), .lit (.int .u64 10000000000000), .lit (.int .u64 100000000000000), .lit (.int .u64 1000000000000000), .lit (.int .u64 10000000000000000), .lit (.int .u64 100000000000000000), .lit (.int .u64 1000000000000000000), .lit (.int .u64 10000000000000000000)]

/-- 'flatlandlaw01.FieldArithmetic': WHATEVER THE INPUT: true; the input reads as it did. -/
def fieldArithmeticSpec : ChangeSpec := { name := "fieldArithmetic", fn := fun _ => fun
  | [d1, d2, d3] => { results := [.lit (.bool true)], args := [d1, d2, d3] }
  | _ => none }
def fieldArithmeticRow : OpenClaim := { program := "ytagbldogmjhdpaagreatdoor", sum := "9ce79421f6f7565bc5758093047548715cb46329e0bc3545868d1be400df757f", func := "flatland/flatlandlaw01.FieldArithmetic", spec := "fieldArithmetic", inPlace := ["internal/abi.NoEscape", "internal/bytealg.MakeNoZero"], unfollowed := true, recurses := true, named := ["internal/strconv.uint64pow10", "math/bits.deBruijn32tab", "math/bits.deBruijn64tab"], apart := false, laid := [("math/bits.deBruijn32tab", laid_math_bits_deBruijn32tab), ("math/bits.deBruijn64tab", laid_math_bits_deBruijn64tab), ("internal/strconv.uint64pow10", laid_internal_strconv_uint64pow10)] }
def FieldArithmeticSaid : Prop := fieldArithmeticRow.holds Tryz.pinned (OpenSpec.ofChange fieldArithmeticSpec)

/-- ITS FALSE NEIGHBOUR: 'it returns false'. Refute it at one input. -/
def fieldArithmeticWrong : ChangeSpec := { name := "fieldArithmetic", fn := fun _ => fun
  | [d1, d2, d3] => { results := [.lit (.bool false)], args := [d1, d2, d3] }
  | _ => none }
def FieldArithmeticWrongFalsely : Prop := fieldArithmeticRow.holds Tryz.pinned (OpenSpec.ofChange fieldArithmeticWrong)

/-- 'flatlandlaw01.FieldLaws': WHATEVER THE INPUT: true; the input reads as it did. -/
def fieldLawsSpec : ChangeSpec := { name := "fieldLaws", fn := fun _ => fun
  | [d1, d2] => { results := [.lit (.bool true)], args := [d1, d2] }
  | _ => none }
def fieldLawsRow : OpenClaim := { program := "ytagbldogmjhdpaagreatdoor", sum := "9ce79421f6f7565bc5758093047548715cb46329e0bc3545868d1be400df757f", func := "flatland/flatlandlaw01.FieldLaws", spec := "fieldLaws", inPlace := ["internal/abi.NoEscape", "internal/bytealg.MakeNoZero"], unfollowed := true, recurses := true, named := ["internal/strconv.uint64pow10", "math/bits.deBruijn32tab", "math/bits.deBruijn64tab"], apart := false, laid := [("math/bits.deBruijn32tab", laid_math_bits_deBruijn32tab), ("math/bits.deBruijn64tab", laid_math_bits_deBruijn64tab), ("internal/strconv.uint64pow10", laid_internal_strconv_uint64pow10)] }
def FieldLawsSaid : Prop := fieldLawsRow.holds Tryz.pinned (OpenSpec.ofChange fieldLawsSpec)

/-- ITS FALSE NEIGHBOUR: 'it returns false'. Refute it at one input. -/
def fieldLawsWrong : ChangeSpec := { name := "fieldLaws", fn := fun _ => fun
  | [d1, d2] => { results := [.lit (.bool false)], args := [d1, d2] }
  | _ => none }
def FieldLawsWrongFalsely : Prop := fieldLawsRow.holds Tryz.pinned (OpenSpec.ofChange fieldLawsWrong)

/-- 'flatlandlaw01.FieldOrder': WHATEVER THE INPUT: true; the input reads as it did. -/
def fieldOrderSpec : ChangeSpec := { name := "fieldOrder", fn := fun _ => fun
  | [d1, d2] => { results := [.lit (.bool true)], args := [d1, d2] }
  | _ => none }
def fieldOrderRow : OpenClaim := { program := "ytagbldogmjhdpaagreatdoor", sum := "9ce79421f6f7565bc5758093047548715cb46329e0bc3545868d1be400df757f", func := "flatland/flatlandlaw01.FieldOrder", spec := "fieldOrder", inPlace := ["internal/abi.NoEscape", "internal/bytealg.MakeNoZero"], unfollowed := true, recurses := true, named := ["internal/strconv.uint64pow10", "math/bits.deBruijn32tab", "math/bits.deBruijn64tab"], apart := false, laid := [("math/bits.deBruijn32tab", laid_math_bits_deBruijn32tab), ("math/bits.deBruijn64tab", laid_math_bits_deBruijn64tab), ("internal/strconv.uint64pow10", laid_internal_strconv_uint64pow10)] }
def FieldOrderSaid : Prop := fieldOrderRow.holds Tryz.pinned (OpenSpec.ofChange fieldOrderSpec)

/-- ITS FALSE NEIGHBOUR: 'it returns false'. Refute it at one input. -/
def fieldOrderWrong : ChangeSpec := { name := "fieldOrder", fn := fun _ => fun
  | [d1, d2] => { results := [.lit (.bool false)], args := [d1, d2] }
  | _ => none }
def FieldOrderWrongFalsely : Prop := fieldOrderRow.holds Tryz.pinned (OpenSpec.ofChange fieldOrderWrong)

/-- 'flatlandlaw01.FieldFields': WHATEVER THE INPUT: true; the input reads as it did. -/
def fieldFieldsSpec : ChangeSpec := { name := "fieldFields", fn := fun _ => fun
  | [d] => { results := [.lit (.bool true)], args := [d] }
  | _ => none }
def fieldFieldsRow : OpenClaim := { program := "ytagbldogmjhdpaagreatdoor", sum := "9ce79421f6f7565bc5758093047548715cb46329e0bc3545868d1be400df757f", func := "flatland/flatlandlaw01.FieldFields", spec := "fieldFields", inPlace := ["internal/abi.NoEscape", "internal/bytealg.MakeNoZero"], unfollowed := true, recurses := true, named := ["internal/strconv.uint64pow10", "math/bits.deBruijn32tab", "math/bits.deBruijn64tab"], apart := false, laid := [("math/bits.deBruijn32tab", laid_math_bits_deBruijn32tab), ("math/bits.deBruijn64tab", laid_math_bits_deBruijn64tab), ("internal/strconv.uint64pow10", laid_internal_strconv_uint64pow10)] }
def FieldFieldsSaid : Prop := fieldFieldsRow.holds Tryz.pinned (OpenSpec.ofChange fieldFieldsSpec)

/-- ITS FALSE NEIGHBOUR: 'it returns false'. Refute it at one input. -/
def fieldFieldsWrong : ChangeSpec := { name := "fieldFields", fn := fun _ => fun
  | [d] => { results := [.lit (.bool false)], args := [d] }
  | _ => none }
def FieldFieldsWrongFalsely : Prop := fieldFieldsRow.holds Tryz.pinned (OpenSpec.ofChange fieldFieldsWrong)

/-- 'flatlandlaw01.FieldVectors': WHATEVER THE INPUT: true; the input reads as it did. -/
def fieldVectorsSpec : ChangeSpec := { name := "fieldVectors", fn := fun _ => fun
  | [d1, d2] => { results := [.lit (.bool true)], args := [d1, d2] }
  | _ => none }
def fieldVectorsRow : OpenClaim := { program := "ytagbldogmjhdpaagreatdoor", sum := "9ce79421f6f7565bc5758093047548715cb46329e0bc3545868d1be400df757f", func := "flatland/flatlandlaw01.FieldVectors", spec := "fieldVectors", inPlace := ["internal/abi.NoEscape", "internal/bytealg.MakeNoZero"], unfollowed := true, recurses := true, named := ["internal/strconv.uint64pow10", "math/bits.deBruijn32tab", "math/bits.deBruijn64tab"], apart := false, laid := [("math/bits.deBruijn32tab", laid_math_bits_deBruijn32tab), ("math/bits.deBruijn64tab", laid_math_bits_deBruijn64tab), ("internal/strconv.uint64pow10", laid_internal_strconv_uint64pow10)] }
def FieldVectorsSaid : Prop := fieldVectorsRow.holds Tryz.pinned (OpenSpec.ofChange fieldVectorsSpec)

/-- ITS FALSE NEIGHBOUR: 'it returns false'. Refute it at one input. -/
def fieldVectorsWrong : ChangeSpec := { name := "fieldVectors", fn := fun _ => fun
  | [d1, d2] => { results := [.lit (.bool false)], args := [d1, d2] }
  | _ => none }
def FieldVectorsWrongFalsely : Prop := fieldVectorsRow.holds Tryz.pinned (OpenSpec.ofChange fieldVectorsWrong)

/-- 'flatlandlaw01.FieldNorms': WHATEVER THE INPUT: true; the input reads as it did. -/
def fieldNormsSpec : ChangeSpec := { name := "fieldNorms", fn := fun _ => fun
  | [d1, d2, d3] => { results := [.lit (.bool true)], args := [d1, d2, d3] }
  | _ => none }
def fieldNormsRow : OpenClaim := { program := "ytagbldogmjhdpaagreatdoor", sum := "9ce79421f6f7565bc5758093047548715cb46329e0bc3545868d1be400df757f", func := "flatland/flatlandlaw01.FieldNorms", spec := "fieldNorms", inPlace := ["internal/abi.NoEscape", "internal/bytealg.MakeNoZero"], unfollowed := true, recurses := true, named := ["internal/strconv.uint64pow10", "math/bits.deBruijn32tab", "math/bits.deBruijn64tab"], apart := false, laid := [("math/bits.deBruijn32tab", laid_math_bits_deBruijn32tab), ("math/bits.deBruijn64tab", laid_math_bits_deBruijn64tab), ("internal/strconv.uint64pow10", laid_internal_strconv_uint64pow10)] }
def FieldNormsSaid : Prop := fieldNormsRow.holds Tryz.pinned (OpenSpec.ofChange fieldNormsSpec)

/-- ITS FALSE NEIGHBOUR: 'it returns false'. Refute it at one input. -/
def fieldNormsWrong : ChangeSpec := { name := "fieldNorms", fn := fun _ => fun
  | [d1, d2, d3] => { results := [.lit (.bool false)], args := [d1, d2, d3] }
  | _ => none }
def FieldNormsWrongFalsely : Prop := fieldNormsRow.holds Tryz.pinned (OpenSpec.ofChange fieldNormsWrong)

/-- 'flatlandlaw01.FieldSigns': WHATEVER THE INPUT: true; the input reads as it did. -/
def fieldSignsSpec : ChangeSpec := { name := "fieldSigns", fn := fun _ => fun
  | [d1, d2, d3] => { results := [.lit (.bool true)], args := [d1, d2, d3] }
  | _ => none }
def fieldSignsRow : OpenClaim := { program := "ytagbldogmjhdpaagreatdoor", sum := "9ce79421f6f7565bc5758093047548715cb46329e0bc3545868d1be400df757f", func := "flatland/flatlandlaw01.FieldSigns", spec := "fieldSigns", inPlace := ["internal/abi.NoEscape", "internal/bytealg.MakeNoZero"], unfollowed := true, recurses := true, named := ["internal/strconv.uint64pow10", "math/bits.deBruijn32tab", "math/bits.deBruijn64tab"], apart := false, laid := [("math/bits.deBruijn32tab", laid_math_bits_deBruijn32tab), ("math/bits.deBruijn64tab", laid_math_bits_deBruijn64tab), ("internal/strconv.uint64pow10", laid_internal_strconv_uint64pow10)] }
def FieldSignsSaid : Prop := fieldSignsRow.holds Tryz.pinned (OpenSpec.ofChange fieldSignsSpec)

/-- ITS FALSE NEIGHBOUR: 'it returns false'. Refute it at one input. -/
def fieldSignsWrong : ChangeSpec := { name := "fieldSigns", fn := fun _ => fun
  | [d1, d2, d3] => { results := [.lit (.bool false)], args := [d1, d2, d3] }
  | _ => none }
def FieldSignsWrongFalsely : Prop := fieldSignsRow.holds Tryz.pinned (OpenSpec.ofChange fieldSignsWrong)

/-- 'flatlandlaw01.FieldEncloses': WHATEVER THE INPUT: true; the input reads as it did. -/
def fieldEnclosesSpec : ChangeSpec := { name := "fieldEncloses", fn := fun _ => fun
  | [d1, d2, d3] => { results := [.lit (.bool true)], args := [d1, d2, d3] }
  | _ => none }
def fieldEnclosesRow : OpenClaim := { program := "ytagbldogmjhdpaagreatdoor", sum := "9ce79421f6f7565bc5758093047548715cb46329e0bc3545868d1be400df757f", func := "flatland/flatlandlaw01.FieldEncloses", spec := "fieldEncloses", inPlace := ["internal/abi.NoEscape", "internal/bytealg.MakeNoZero"], unfollowed := true, recurses := true, named := ["internal/strconv.uint64pow10", "math/bits.deBruijn32tab", "math/bits.deBruijn64tab"], apart := false, laid := [("math/bits.deBruijn32tab", laid_math_bits_deBruijn32tab), ("math/bits.deBruijn64tab", laid_math_bits_deBruijn64tab), ("internal/strconv.uint64pow10", laid_internal_strconv_uint64pow10)] }
def FieldEnclosesSaid : Prop := fieldEnclosesRow.holds Tryz.pinned (OpenSpec.ofChange fieldEnclosesSpec)

/-- ITS FALSE NEIGHBOUR: 'it returns false'. Refute it at one input. -/
def fieldEnclosesWrong : ChangeSpec := { name := "fieldEncloses", fn := fun _ => fun
  | [d1, d2, d3] => { results := [.lit (.bool false)], args := [d1, d2, d3] }
  | _ => none }
def FieldEnclosesWrongFalsely : Prop := fieldEnclosesRow.holds Tryz.pinned (OpenSpec.ofChange fieldEnclosesWrong)

/-- 'flatlandlaw01.FieldCosines': WHATEVER THE INPUT: true; the input reads as it did. -/
def fieldCosinesSpec : ChangeSpec := { name := "fieldCosines", fn := fun _ => fun
  | [d] => { results := [.lit (.bool true)], args := [d] }
  | _ => none }
def fieldCosinesRow : OpenClaim := { program := "ytagbldogmjhdpaagreatdoor", sum := "9ce79421f6f7565bc5758093047548715cb46329e0bc3545868d1be400df757f", func := "flatland/flatlandlaw01.FieldCosines", spec := "fieldCosines", inPlace := ["internal/abi.NoEscape", "internal/bytealg.MakeNoZero"], unfollowed := true, recurses := true, named := ["internal/strconv.uint64pow10", "math/bits.deBruijn32tab", "math/bits.deBruijn64tab"], apart := false, laid := [("math/bits.deBruijn32tab", laid_math_bits_deBruijn32tab), ("math/bits.deBruijn64tab", laid_math_bits_deBruijn64tab), ("internal/strconv.uint64pow10", laid_internal_strconv_uint64pow10)] }
def FieldCosinesSaid : Prop := fieldCosinesRow.holds Tryz.pinned (OpenSpec.ofChange fieldCosinesSpec)

/-- ITS FALSE NEIGHBOUR: 'it returns false'. Refute it at one input. -/
def fieldCosinesWrong : ChangeSpec := { name := "fieldCosines", fn := fun _ => fun
  | [d] => { results := [.lit (.bool false)], args := [d] }
  | _ => none }
def FieldCosinesWrongFalsely : Prop := fieldCosinesRow.holds Tryz.pinned (OpenSpec.ofChange fieldCosinesWrong)

/-- 'flatlandlaw01.FieldGiven': WHATEVER THE INPUT: true; the input reads as it did. -/
def fieldGivenSpec : ChangeSpec := { name := "fieldGiven", fn := fun _ => fun
  | [d1, d2, d3] => { results := [.lit (.bool true)], args := [d1, d2, d3] }
  | _ => none }
def fieldGivenRow : OpenClaim := { program := "ytagbldogmjhdpaagreatdoor", sum := "9ce79421f6f7565bc5758093047548715cb46329e0bc3545868d1be400df757f", func := "flatland/flatlandlaw01.FieldGiven", spec := "fieldGiven", inPlace := ["internal/abi.NoEscape", "internal/bytealg.MakeNoZero"], unfollowed := true, recurses := true, named := ["internal/strconv.uint64pow10", "math/bits.deBruijn32tab", "math/bits.deBruijn64tab"], apart := false, laid := [("math/bits.deBruijn32tab", laid_math_bits_deBruijn32tab), ("math/bits.deBruijn64tab", laid_math_bits_deBruijn64tab), ("internal/strconv.uint64pow10", laid_internal_strconv_uint64pow10)] }
def FieldGivenSaid : Prop := fieldGivenRow.holds Tryz.pinned (OpenSpec.ofChange fieldGivenSpec)

/-- ITS FALSE NEIGHBOUR: 'it returns false'. Refute it at one input. -/
def fieldGivenWrong : ChangeSpec := { name := "fieldGiven", fn := fun _ => fun
  | [d1, d2, d3] => { results := [.lit (.bool false)], args := [d1, d2, d3] }
  | _ => none }
def FieldGivenWrongFalsely : Prop := fieldGivenRow.holds Tryz.pinned (OpenSpec.ofChange fieldGivenWrong)

/- THE SECOND FORM. 'bulk': how many values and letters a reading holds, each counted each time it is reached (what is shared counts as often as it is met; a slice's spare places count too). A statement '..UptoSaid' is the law's where the arguments, and the package variables that the reading takes, are together of bulk at most 1048576: NARROWER than '..Said'. Prove '..Said' where nothing that the law and all that it calls make is longer than what came in: it says more and counts as full. Else prove '..UptoSaid'. A law counts once. -/
mutual
def uptoBulk {H : Type} : DataW H → Nat
  | .lit (.string bytes) => bytes.length + 1
  | .lit _ => 1
  | .nil => 1
  | .ptr d => uptoBulk d + 1
  | .slice elems spare => uptoBulkAll elems + uptoBulkAll spare + 1
  | .agg parts => uptoBulkAll parts + 1
  | .iface _ d => uptoBulk d + 1
  | .map entries => uptoBulkEntries entries + 1
  | .held _ => 1
def uptoBulkAll {H : Type} : List (DataW H) → Nat
  | [] => 0
  | d :: r => uptoBulk d + uptoBulkAll r
def uptoBulkEntries {H : Type} : List (Lit × DataW H) → Nat
  | [] => 0
  | x :: r => uptoBulkEntry x + uptoBulkEntries r
def uptoBulkEntry {H : Type} : Lit × DataW H → Nat
  | (.string bytes, d) => bytes.length + uptoBulk d + 1
  | (_, d) => uptoBulk d + 1
 end
def uptoSmall : (H : Type) → List (DataW H) → Bool := fun _ ds => decide (uptoBulkAll ds ≤ 1048576)
def OpenSpec.upto (s : _root_.Go.ChangeSpec) : _root_.Go.OpenSpec := { _root_.Go.OpenSpec.ofChange s with cond := some uptoSmall }

/-- 'flatlandlaw01.FieldArithmetic', WHERE WHAT IT READS IS OF BULK AT MOST 1048576: true; the input reads as it did. -/
def fieldArithmeticUptoRow : OpenClaim := { program := "ytagbldogmjhdpaagreatdoor", sum := "9ce79421f6f7565bc5758093047548715cb46329e0bc3545868d1be400df757f", func := "flatland/flatlandlaw01.FieldArithmetic", spec := "fieldArithmetic", inPlace := ["internal/abi.NoEscape", "internal/bytealg.MakeNoZero"], unfollowed := true, recurses := true, named := ["internal/strconv.uint64pow10", "math/bits.deBruijn32tab", "math/bits.deBruijn64tab"], apart := false, laid := [("math/bits.deBruijn32tab", laid_math_bits_deBruijn32tab), ("math/bits.deBruijn64tab", laid_math_bits_deBruijn64tab), ("internal/strconv.uint64pow10", laid_internal_strconv_uint64pow10)], narrowed := true }
def FieldArithmeticUptoSaid : Prop := fieldArithmeticUptoRow.holds Tryz.pinned (OpenSpec.upto fieldArithmeticSpec)

/-- 'flatlandlaw01.FieldLaws', WHERE WHAT IT READS IS OF BULK AT MOST 1048576: true; the input reads as it did. -/
def fieldLawsUptoRow : OpenClaim := { program := "ytagbldogmjhdpaagreatdoor", sum := "9ce79421f6f7565bc5758093047548715cb46329e0bc3545868d1be400df757f", func := "flatland/flatlandlaw01.FieldLaws", spec := "fieldLaws", inPlace := ["internal/abi.NoEscape", "internal/bytealg.MakeNoZero"], unfollowed := true, recurses := true, named := ["internal/strconv.uint64pow10", "math/bits.deBruijn32tab", "math/bits.deBruijn64tab"], apart := false, laid := [("math/bits.deBruijn32tab", laid_math_bits_deBruijn32tab), ("math/bits.deBruijn64tab", laid_math_bits_deBruijn64tab), ("internal/strconv.uint64pow10", laid_internal_strconv_uint64pow10)], narrowed := true }
def FieldLawsUptoSaid : Prop := fieldLawsUptoRow.holds Tryz.pinned (OpenSpec.upto fieldLawsSpec)

/-- 'flatlandlaw01.FieldOrder', WHERE WHAT IT READS IS OF BULK AT MOST 1048576: true; the input reads as it did. -/
def fieldOrderUptoRow : OpenClaim := { program := "ytagbldogmjhdpaagreatdoor", sum := "9ce79421f6f7565bc5758093047548715cb46329e0bc3545868d1be400df757f", func := "flatland/flatlandlaw01.FieldOrder", spec := "fieldOrder", inPlace := ["internal/abi.NoEscape", "internal/bytealg.MakeNoZero"], unfollowed := true, recurses := true, named := ["internal/strconv.uint64pow10", "math/bits.deBruijn32tab", "math/bits.deBruijn64tab"], apart := false, laid := [("math/bits.deBruijn32tab", laid_math_bits_deBruijn32tab), ("math/bits.deBruijn64tab", laid_math_bits_deBruijn64tab), ("internal/strconv.uint64pow10", laid_internal_strconv_uint64pow10)], narrowed := true }
def FieldOrderUptoSaid : Prop := fieldOrderUptoRow.holds Tryz.pinned (OpenSpec.upto fieldOrderSpec)

/-- 'flatlandlaw01.FieldFields', WHERE WHAT IT READS IS OF BULK AT MOST 1048576: true; the input reads as it did. -/
def fieldFieldsUptoRow : OpenClaim := { program := "ytagbldogmjhdpaagreatdoor", sum := "9ce79421f6f7565bc5758093047548715cb46329e0bc3545868d1be400df757f", func := "flatland/flatlandlaw01.FieldFields", spec := "fieldFields", inPlace := ["internal/abi.NoEscape", "internal/bytealg.MakeNoZero"], unfollowed := true, recurses := true, named := ["internal/strconv.uint64pow10", "math/bits.deBruijn32tab", "math/bits.deBruijn64tab"], apart := false, laid := [("math/bits.deBruijn32tab", laid_math_bits_deBruijn32tab), ("math/bits.deBruijn64tab", laid_math_bits_deBruijn64tab), ("internal/strconv.uint64pow10", laid_internal_strconv_uint64pow10)], narrowed := true }
def FieldFieldsUptoSaid : Prop := fieldFieldsUptoRow.holds Tryz.pinned (OpenSpec.upto fieldFieldsSpec)

/-- 'flatlandlaw01.FieldVectors', WHERE WHAT IT READS IS OF BULK AT MOST 1048576: true; the input reads as it did. -/
def fieldVectorsUptoRow : OpenClaim := { program := "ytagbldogmjhdpaagreatdoor", sum := "9ce79421f6f7565bc5758093047548715cb46329e0bc3545868d1be400df757f", func := "flatland/flatlandlaw01.FieldVectors", spec := "fieldVectors", inPlace := ["internal/abi.NoEscape", "internal/bytealg.MakeNoZero"], unfollowed := true, recurses := true, named := ["internal/strconv.uint64pow10", "math/bits.deBruijn32tab", "math/bits.deBruijn64tab"], apart := false, laid := [("math/bits.deBruijn32tab", laid_math_bits_deBruijn32tab), ("math/bits.deBruijn64tab", laid_math_bits_deBruijn64tab), ("internal/strconv.uint64pow10", laid_internal_strconv_uint64pow10)], narrowed := true }
def FieldVectorsUptoSaid : Prop := fieldVectorsUptoRow.holds Tryz.pinned (OpenSpec.upto fieldVectorsSpec)

/-- 'flatlandlaw01.FieldNorms', WHERE WHAT IT READS IS OF BULK AT MOST 1048576: true; the input reads as it did. -/
def fieldNormsUptoRow : OpenClaim := { program := "ytagbldogmjhdpaagreatdoor", sum := "9ce79421f6f7565bc5758093047548715cb46329e0bc3545868d1be400df757f", func := "flatland/flatlandlaw01.FieldNorms", spec := "fieldNorms", inPlace := ["internal/abi.NoEscape", "internal/bytealg.MakeNoZero"], unfollowed := true, recurses := true, named := ["internal/strconv.uint64pow10", "math/bits.deBruijn32tab", "math/bits.deBruijn64tab"], apart := false, laid := [("math/bits.deBruijn32tab", laid_math_bits_deBruijn32tab), ("math/bits.deBruijn64tab", laid_math_bits_deBruijn64tab), ("internal/strconv.uint64pow10", laid_internal_strconv_uint64pow10)], narrowed := true }
def FieldNormsUptoSaid : Prop := fieldNormsUptoRow.holds Tryz.pinned (OpenSpec.upto fieldNormsSpec)

/-- 'flatlandlaw01.FieldSigns', WHERE WHAT IT READS IS OF BULK AT MOST 1048576: true; the input reads as it did. -/
def fieldSignsUptoRow : OpenClaim := { program := "ytagbldogmjhdpaagreatdoor", sum := "9ce79421f6f7565bc5758093047548715cb46329e0bc3545868d1be400df757f", func := "flatland/flatlandlaw01.FieldSigns", spec := "fieldSigns", inPlace := ["internal/abi.NoEscape", "internal/bytealg.MakeNoZero"], unfollowed := true, recurses := true, named := ["internal/strconv.uint64pow10", "math/bits.deBruijn32tab", "math/bits.deBruijn64tab"], apart := false, laid := [("math/bits.deBruijn32tab", laid_math_bits_deBruijn32tab), ("math/bits.deBruijn64tab", laid_math_bits_deBruijn64tab), ("internal/strconv.uint64pow10", laid_internal_strconv_uint64pow10)], narrowed := true }
def FieldSignsUptoSaid : Prop := fieldSignsUptoRow.holds Tryz.pinned (OpenSpec.upto fieldSignsSpec)

/-- 'flatlandlaw01.FieldEncloses', WHERE WHAT IT READS IS OF BULK AT MOST 1048576: true; the input reads as it did. -/
def fieldEnclosesUptoRow : OpenClaim := { program := "ytagbldogmjhdpaagreatdoor", sum := "9ce79421f6f7565bc5758093047548715cb46329e0bc3545868d1be400df757f", func := "flatland/flatlandlaw01.FieldEncloses", spec := "fieldEncloses", inPlace := ["internal/abi.NoEscape", "internal/bytealg.MakeNoZero"], unfollowed := true, recurses := true, named := ["internal/strconv.uint64pow10", "math/bits.deBruijn32tab", "math/bits.deBruijn64tab"], apart := false, laid := [("math/bits.deBruijn32tab", laid_math_bits_deBruijn32tab), ("math/bits.deBruijn64tab", laid_math_bits_deBruijn64tab), ("internal/strconv.uint64pow10", laid_internal_strconv_uint64pow10)], narrowed := true }
def FieldEnclosesUptoSaid : Prop := fieldEnclosesUptoRow.holds Tryz.pinned (OpenSpec.upto fieldEnclosesSpec)

/-- 'flatlandlaw01.FieldCosines', WHERE WHAT IT READS IS OF BULK AT MOST 1048576: true; the input reads as it did. -/
def fieldCosinesUptoRow : OpenClaim := { program := "ytagbldogmjhdpaagreatdoor", sum := "9ce79421f6f7565bc5758093047548715cb46329e0bc3545868d1be400df757f", func := "flatland/flatlandlaw01.FieldCosines", spec := "fieldCosines", inPlace := ["internal/abi.NoEscape", "internal/bytealg.MakeNoZero"], unfollowed := true, recurses := true, named := ["internal/strconv.uint64pow10", "math/bits.deBruijn32tab", "math/bits.deBruijn64tab"], apart := false, laid := [("math/bits.deBruijn32tab", laid_math_bits_deBruijn32tab), ("math/bits.deBruijn64tab", laid_math_bits_deBruijn64tab), ("internal/strconv.uint64pow10", laid_internal_strconv_uint64pow10)], narrowed := true }
def FieldCosinesUptoSaid : Prop := fieldCosinesUptoRow.holds Tryz.pinned (OpenSpec.upto fieldCosinesSpec)

/-- 'flatlandlaw01.FieldGiven', WHERE WHAT IT READS IS OF BULK AT MOST 1048576: true; the input reads as it did. -/
def fieldGivenUptoRow : OpenClaim := { program := "ytagbldogmjhdpaagreatdoor", sum := "9ce79421f6f7565bc5758093047548715cb46329e0bc3545868d1be400df757f", func := "flatland/flatlandlaw01.FieldGiven", spec := "fieldGiven", inPlace := ["internal/abi.NoEscape", "internal/bytealg.MakeNoZero"], unfollowed := true, recurses := true, named := ["internal/strconv.uint64pow10", "math/bits.deBruijn32tab", "math/bits.deBruijn64tab"], apart := false, laid := [("math/bits.deBruijn32tab", laid_math_bits_deBruijn32tab), ("math/bits.deBruijn64tab", laid_math_bits_deBruijn64tab), ("internal/strconv.uint64pow10", laid_internal_strconv_uint64pow10)], narrowed := true }
def FieldGivenUptoSaid : Prop := fieldGivenUptoRow.holds Tryz.pinned (OpenSpec.upto fieldGivenSpec)

end Rows
end Go.Proofs.YtagbldogmjhdpaaGreatDoor
