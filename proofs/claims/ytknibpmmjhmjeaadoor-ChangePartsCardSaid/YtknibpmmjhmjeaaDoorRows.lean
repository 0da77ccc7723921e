/-
  NARROWER THAN 'FOR EVERY INPUT', by the rows' own cells (each row's printed sentence says how): ChangeValid: laid · ChangeDecodes: laid · ChangeIds: laid · ChangeEncodes: laid · ChangeUnits: laid · ChangeParses: laid · ChangeParts: laid.
  DERIVED. THE GIVEN ROWS OF THIS SEAT. 7 by the template 'for every input the law returns true; each argument reads behind the call as it read before'; 0 by the template 'total and deterministic' (their statements: YtknibpmmjhmjeaaDoorTotals.lean).
  GIVEN WITH THE SEED: the statements are not yours to turn. If you find one false, say at which input.
  Laid BY PROGRAM, IN A SANDBOX (cutbox-rows.mjs): the forced cells as the released guide's own fill.sh prints them over the translation 6dbf8bcbe4df0b50… (all of the seat's roots in one cut). By AI agents, Wed Nov 11 2026. No macro, syntax, notation, axiom, sorry.
-/
import Derived.Test.YtknibpmmjhmjeaaDoorChecked
import GoSem.Claim
import GoSem.ClaimJoined
import GoSem.ClaimMapViews
import Derived.JoinedTies
import Derived.KernelRfl
namespace Go.Proofs.YtknibpmmjhmjeaaDoor
/- THE CELL 'sum', in the pinned program and in every row, IS THE sha256 OF THE DUMP (.gsa) THAT YtknibpmmjhmjeaaDoorProg.lean LOADS. Nothing in Lean hashes anything: it is a label: what it is worth is what the hold of that sum in a sandbox is worth. -/
noncomputable def Tryd.pinned : Pinned := { name := "ytknibpmmjhmjeaadoor", sum := "6dbf8bcbe4df0b50c754b450cb16becb78b0acc94a86924de540f0e198248bd9", checked := Tryd.checked }
namespace Rows
def none {H : Type} : Left H := { results := [], args := [] }

/- WHAT THE LISTED PACKAGE-LEVEL VARIABLES READ AS WHEN THE CALL BEGINS. Each datum BY PROGRAM (the guide's laid-datum.mjs) off the statement by which the dump's own 'gosem.cut.vars' lays the variable. In a bare row this is a premise. The card (YtknibpmmjhmjeaaDoorCards.lean) ties it to the program's text. -/
def laid_math_bits_deBruijn32tab {H : Type} : DataW H := .agg [.lit (.int .u8 0), .lit (.int .u8 1), .lit (.int .u8 28), .lit (.int .u8 2), .lit (.int .u8 29), .lit (.int .u8 14), .lit (.int .u8 24), .lit (.int .u8 3), .lit (.int .u8 30), .lit (.int .u8 22), .lit (.int .u8 20), .lit (.int .u8 15), .lit (.int .u8 25), .lit (.int .u8 17), .lit (.int .u8 4), .lit (.int .u8 8), .lit (.int .u8 31), .lit (.int .u8 27), .lit (.int .u8 13), .lit (.int .u8 23), .lit (.int .u8 21), .lit (.int .u8 19), .lit (.int .u8 16), .lit (.int .u8 7), .lit (.int .u8 26), .lit (.int .u8 12), .lit (.int .u8 18), .lit (.int .u8 6), .lit (.int .u8 11), .lit (.int .u8 5), .lit (.int .u8 10), .lit (.int .u8 9)]
def laid_math_bits_deBruijn64tab {H : Type} : DataW H := .agg [.lit (.int .u8 0), .lit (.int .u8 1), .lit (.int .u8 56), .lit (.int .u8 2), .lit (.int .u8 57), .lit (.int .u8 49), .lit (.int .u8 28), .lit (.int .u8 3), .lit (.int .u8 61), .lit (.int .u8 58), .lit (.int .u8 42), .lit (.int .u8 50), .lit (.int .u8 38), .lit (.int .u8 29), .lit (.int .u8 17), .lit (.int .u8 4), .lit (.int .u8 62), .lit (.int .u8 47), .lit (.int .u8 59), .lit (.int .u8 36), .lit (.int .u8 45), .lit (.int .u8 43), .lit (.int .u8 51), .lit (.int .u8 22), .lit (.int .u8 53), .lit (.int .u8 39), .lit (.int .u8 33), .lit (.int .u8 30), .lit (.int .u8 24), .lit (.int .u8 18), .lit (.int .u8 12), .lit (.int .u8 5), .lit (.int .u8 63), .lit (.int .u8 55), .lit (.int .u8 48), .lit (.int .u8 27), .lit (.int .u8 60), .lit (.int .u8 41), .lit (.int .u8 37), .lit (.int .u8 16), .lit (.int .u8 46), .lit (.int .u8 35), .lit (.int .u8 44), .lit (.int .u8 21), .lit (.int .u8 52), .lit (.int .u8 32), .lit (.int .u8 23), .lit (.int .u8 11), .lit (.int .u8 54), .lit (.int .u8 26), .lit (.int .u8 40), .lit (.int .u8 15), .lit (.int .u8 34), .lit (.int .u8 20), .lit (.int .u8 31), .lit (.int .u8 10), .lit (.int .u8 25), .lit (.int .u8 14), .lit (.int .u8 19), .lit (.int .u8 9), .lit (.int .u8 13), .lit (.int .u8 8), .lit (.int .u8 7), .lit (.int .u8 6)]
def laid_internal_strconv_uint64pow10 {H : Type} : DataW H := .agg [.lit (.int .u64 1), .lit (.int .u64 10), .lit (.int .u64 100), .lit (.int .u64 1000), .lit (.int .u64 10000), .lit (.int .u64 100000), .lit (.int .u64 1000000), .lit (.int .u64 10000000), .lit (.int .u64 100000000), .lit (.int .u64 1000000000), .lit (.int .u64 10000000000), .lit (.int .u64 100000000000), .lit (.int .u64 1000000000000), .lit (.int .u64 10000000000000), .lit (.int .u64 100000000000000), .lit (.int .u64 1000000000000000), .lit (.int .u64 10000000000000000), .lit (.int .u64 100000000000000000), .lit (.int .u64 1000000000000000000), .lit (.int .u64 10000000000000000000)]

/-- 'dasdlaw47.ChangeValid': WHATEVER THE INPUT: true; the input reads as it did. -/
def changeValidSpec : ChangeSpec := { name := "changeValid", fn := fun _ => fun
  | [d] => { results := [.lit (.bool true)], args := [d] }
  | _ => none }
def changeValidRow : OpenClaim := { program := "ytknibpmmjhmjeaadoor", sum := "6dbf8bcbe4df0b50c754b450cb16becb78b0acc94a86924de540f0e198248bd9", func := "dasd/dasdlaw47.ChangeValid", spec := "changeValid", unfollowed := true, recurses := true, named := ["internal/strconv.uint64pow10", "math/bits.deBruijn32tab", "math/bits.deBruijn64tab"], apart := false, laid := [("math/bits.deBruijn32tab", laid_math_bits_deBruijn32tab), ("math/bits.deBruijn64tab", laid_math_bits_deBruijn64tab), ("internal/strconv.uint64pow10", laid_internal_strconv_uint64pow10)] }
def ChangeValidSaid : Prop := changeValidRow.holds Tryd.pinned (OpenSpec.ofChange changeValidSpec)

/-- ITS FALSE NEIGHBOUR: 'it returns false'. Refute it at one input. -/
def changeValidWrong : ChangeSpec := { name := "changeValid", fn := fun _ => fun
  | [d] => { results := [.lit (.bool false)], args := [d] }
  | _ => none }
def ChangeValidWrongFalsely : Prop := changeValidRow.holds Tryd.pinned (OpenSpec.ofChange changeValidWrong)

/-- 'dasdlaw47.ChangeDecodes': WHATEVER THE INPUT: true; the input reads as it did. -/
def changeDecodesSpec : ChangeSpec := { name := "changeDecodes", fn := fun _ => fun
  | [d] => { results := [.lit (.bool true)], args := [d] }
  | _ => none }
def changeDecodesRow : OpenClaim := { program := "ytknibpmmjhmjeaadoor", sum := "6dbf8bcbe4df0b50c754b450cb16becb78b0acc94a86924de540f0e198248bd9", func := "dasd/dasdlaw47.ChangeDecodes", spec := "changeDecodes", unfollowed := true, recurses := true, named := ["internal/strconv.uint64pow10", "math/bits.deBruijn32tab", "math/bits.deBruijn64tab"], apart := false, laid := [("math/bits.deBruijn32tab", laid_math_bits_deBruijn32tab), ("math/bits.deBruijn64tab", laid_math_bits_deBruijn64tab), ("internal/strconv.uint64pow10", laid_internal_strconv_uint64pow10)] }
def ChangeDecodesSaid : Prop := changeDecodesRow.holds Tryd.pinned (OpenSpec.ofChange changeDecodesSpec)

/-- ITS FALSE NEIGHBOUR: 'it returns false'. Refute it at one input. -/
def changeDecodesWrong : ChangeSpec := { name := "changeDecodes", fn := fun _ => fun
  | [d] => { results := [.lit (.bool false)], args := [d] }
  | _ => none }
def ChangeDecodesWrongFalsely : Prop := changeDecodesRow.holds Tryd.pinned (OpenSpec.ofChange changeDecodesWrong)

/-- 'dasdlaw47.ChangeIds': WHATEVER THE INPUT: true; the input reads as it did. -/
def changeIdsSpec : ChangeSpec := { name := "changeIds", fn := fun _ => fun
  | [d1, d2] => { results := [.lit (.bool true)], args := [d1, d2] }
  | _ => none }
def changeIdsRow : OpenClaim := { program := "ytknibpmmjhmjeaadoor", sum := "6dbf8bcbe4df0b50c754b450cb16becb78b0acc94a86924de540f0e198248bd9", func := "dasd/dasdlaw47.ChangeIds", spec := "changeIds", unfollowed := true, recurses := true, named := ["internal/strconv.uint64pow10", "math/bits.deBruijn32tab", "math/bits.deBruijn64tab"], apart := false, laid := [("math/bits.deBruijn32tab", laid_math_bits_deBruijn32tab), ("math/bits.deBruijn64tab", laid_math_bits_deBruijn64tab), ("internal/strconv.uint64pow10", laid_internal_strconv_uint64pow10)] }
def ChangeIdsSaid : Prop := changeIdsRow.holds Tryd.pinned (OpenSpec.ofChange changeIdsSpec)

/-- ITS FALSE NEIGHBOUR: 'it returns false'. Refute it at one input. -/
def changeIdsWrong : ChangeSpec := { name := "changeIds", fn := fun _ => fun
  | [d1, d2] => { results := [.lit (.bool false)], args := [d1, d2] }
  | _ => none }
def ChangeIdsWrongFalsely : Prop := changeIdsRow.holds Tryd.pinned (OpenSpec.ofChange changeIdsWrong)

/-- 'dasdlaw47.ChangeEncodes': WHATEVER THE INPUT: true; the input reads as it did. -/
def changeEncodesSpec : ChangeSpec := { name := "changeEncodes", fn := fun _ => fun
  | [d] => { results := [.lit (.bool true)], args := [d] }
  | _ => none }
def changeEncodesRow : OpenClaim := { program := "ytknibpmmjhmjeaadoor", sum := "6dbf8bcbe4df0b50c754b450cb16becb78b0acc94a86924de540f0e198248bd9", func := "dasd/dasdlaw47.ChangeEncodes", spec := "changeEncodes", unfollowed := true, recurses := true, named := ["internal/strconv.uint64pow10", "math/bits.deBruijn32tab", "math/bits.deBruijn64tab"], apart := false, laid := [("math/bits.deBruijn32tab", laid_math_bits_deBruijn32tab), ("math/bits.deBruijn64tab", laid_math_bits_deBruijn64tab), ("internal/strconv.uint64pow10", laid_internal_strconv_uint64pow10)] }
def ChangeEncodesSaid : Prop := changeEncodesRow.holds Tryd.pinned (OpenSpec.ofChange changeEncodesSpec)

/-- ITS FALSE NEIGHBOUR: 'it returns false'. Refute it at one input. -/
def changeEncodesWrong : ChangeSpec := { name := "changeEncodes", fn := fun _ => fun
  | [d] => { results := [.lit (.bool false)], args := [d] }
  | _ => none }
def ChangeEncodesWrongFalsely : Prop := changeEncodesRow.holds Tryd.pinned (OpenSpec.ofChange changeEncodesWrong)

/-- 'dasdlaw47.ChangeUnits': WHATEVER THE INPUT: true; the input reads as it did. -/
def changeUnitsSpec : ChangeSpec := { name := "changeUnits", fn := fun _ => fun
  | [d1, d2, d3] => { results := [.lit (.bool true)], args := [d1, d2, d3] }
  | _ => none }
def changeUnitsRow : OpenClaim := { program := "ytknibpmmjhmjeaadoor", sum := "6dbf8bcbe4df0b50c754b450cb16becb78b0acc94a86924de540f0e198248bd9", func := "dasd/dasdlaw47.ChangeUnits", spec := "changeUnits", unfollowed := true, recurses := true, named := ["internal/strconv.uint64pow10", "math/bits.deBruijn32tab", "math/bits.deBruijn64tab"], apart := false, laid := [("math/bits.deBruijn32tab", laid_math_bits_deBruijn32tab), ("math/bits.deBruijn64tab", laid_math_bits_deBruijn64tab), ("internal/strconv.uint64pow10", laid_internal_strconv_uint64pow10)] }
def ChangeUnitsSaid : Prop := changeUnitsRow.holds Tryd.pinned (OpenSpec.ofChange changeUnitsSpec)

/-- ITS FALSE NEIGHBOUR: 'it returns false'. Refute it at one input. -/
def changeUnitsWrong : ChangeSpec := { name := "changeUnits", fn := fun _ => fun
  | [d1, d2, d3] => { results := [.lit (.bool false)], args := [d1, d2, d3] }
  | _ => none }
def ChangeUnitsWrongFalsely : Prop := changeUnitsRow.holds Tryd.pinned (OpenSpec.ofChange changeUnitsWrong)

/-- 'dasdlaw47.ChangeParses': WHATEVER THE INPUT: true; the input reads as it did. -/
def changeParsesSpec : ChangeSpec := { name := "changeParses", fn := fun _ => fun
  | [d] => { results := [.lit (.bool true)], args := [d] }
  | _ => none }
def changeParsesRow : OpenClaim := { program := "ytknibpmmjhmjeaadoor", sum := "6dbf8bcbe4df0b50c754b450cb16becb78b0acc94a86924de540f0e198248bd9", func := "dasd/dasdlaw47.ChangeParses", spec := "changeParses", unfollowed := true, recurses := true, named := ["internal/strconv.uint64pow10", "math/bits.deBruijn32tab", "math/bits.deBruijn64tab"], apart := false, laid := [("math/bits.deBruijn32tab", laid_math_bits_deBruijn32tab), ("math/bits.deBruijn64tab", laid_math_bits_deBruijn64tab), ("internal/strconv.uint64pow10", laid_internal_strconv_uint64pow10)] }
def ChangeParsesSaid : Prop := changeParsesRow.holds Tryd.pinned (OpenSpec.ofChange changeParsesSpec)

/-- ITS FALSE NEIGHBOUR: 'it returns false'. Refute it at one input. -/
def changeParsesWrong : ChangeSpec := { name := "changeParses", fn := fun _ => fun
  | [d] => { results := [.lit (.bool false)], args := [d] }
  | _ => none }
def ChangeParsesWrongFalsely : Prop := changeParsesRow.holds Tryd.pinned (OpenSpec.ofChange changeParsesWrong)

/-- 'dasdlaw47.ChangeParts': WHATEVER THE INPUT: true; the input reads as it did. -/
def changePartsSpec : ChangeSpec := { name := "changeParts", fn := fun _ => fun
  | [d] => { results := [.lit (.bool true)], args := [d] }
  | _ => none }
def changePartsRow : OpenClaim := { program := "ytknibpmmjhmjeaadoor", sum := "6dbf8bcbe4df0b50c754b450cb16becb78b0acc94a86924de540f0e198248bd9", func := "dasd/dasdlaw47.ChangeParts", spec := "changeParts", unfollowed := true, recurses := true, named := ["internal/strconv.uint64pow10", "math/bits.deBruijn32tab", "math/bits.deBruijn64tab"], apart := false, laid := [("math/bits.deBruijn32tab", laid_math_bits_deBruijn32tab), ("math/bits.deBruijn64tab", laid_math_bits_deBruijn64tab), ("internal/strconv.uint64pow10", laid_internal_strconv_uint64pow10)] }
def ChangePartsSaid : Prop := changePartsRow.holds Tryd.pinned (OpenSpec.ofChange changePartsSpec)

/-- ITS FALSE NEIGHBOUR: 'it returns false'. Refute it at one input. -/
def changePartsWrong : ChangeSpec := { name := "changeParts", fn := fun _ => fun
  | [d] => { results := [.lit (.bool false)], args := [d] }
  | _ => none }
def ChangePartsWrongFalsely : Prop := changePartsRow.holds Tryd.pinned (OpenSpec.ofChange changePartsWrong)

/- THE SECOND FORM. 'bulk': how many values and letters a reading holds, each counted each time it is reached (what is shared counts as often as it is met; a slice's spare places count too). A statement '..UptoSaid' is the law's where the arguments, and the package variables that the reading takes, are together of bulk at most 1048576: NARROWER than '..Said'. Prove '..Said' where nothing that the law and all that it calls make is longer than what came in: it says more and counts as full. Else prove '..UptoSaid'. A law counts once. -/
mutual
def uptoBulk {H : Type} : DataW H → Nat
  | .lit (.string bytes) => bytes.length + 1
  | .lit _ => 1
  | .nil => 1
  | .ptr d => uptoBulk d + 1
  | .slice elems spare => uptoBulkAll elems + uptoBulkAll spare + 1
  | .agg parts => uptoBulkAll parts + 1
  | .iface _ d => uptoBulk d + 1
  | .map entries => uptoBulkEntries entries + 1
  | .held _ => 1
def uptoBulkAll {H : Type} : List (DataW H) → Nat
  | [] => 0
  | d :: r => uptoBulk d + uptoBulkAll r
def uptoBulkEntries {H : Type} : List (Lit × DataW H) → Nat
  | [] => 0
  | x :: r => uptoBulkEntry x + uptoBulkEntries r
def uptoBulkEntry {H : Type} : Lit × DataW H → Nat
  | (.string bytes, d) => bytes.length + uptoBulk d + 1
  | (_, d) => uptoBulk d + 1
 end
def uptoSmall : (H : Type) → List (DataW H) → Bool := fun _ ds => decide (uptoBulkAll ds ≤ 1048576)
def OpenSpec.upto (s : _root_.Go.ChangeSpec) : _root_.Go.OpenSpec := { _root_.Go.OpenSpec.ofChange s with cond := some uptoSmall }

/-- 'dasdlaw47.ChangeValid', WHERE WHAT IT READS IS OF BULK AT MOST 1048576: true; the input reads as it did. -/
def changeValidUptoRow : OpenClaim := { program := "ytknibpmmjhmjeaadoor", sum := "6dbf8bcbe4df0b50c754b450cb16becb78b0acc94a86924de540f0e198248bd9", func := "dasd/dasdlaw47.ChangeValid", spec := "changeValid", unfollowed := true, recurses := true, named := ["internal/strconv.uint64pow10", "math/bits.deBruijn32tab", "math/bits.deBruijn64tab"], apart := false, laid := [("math/bits.deBruijn32tab", laid_math_bits_deBruijn32tab), ("math/bits.deBruijn64tab", laid_math_bits_deBruijn64tab), ("internal/strconv.uint64pow10", laid_internal_strconv_uint64pow10)], narrowed := true }
def ChangeValidUptoSaid : Prop := changeValidUptoRow.holds Tryd.pinned (OpenSpec.upto changeValidSpec)

/-- 'dasdlaw47.ChangeDecodes', WHERE WHAT IT READS IS OF BULK AT MOST 1048576: true; the input reads as it did. -/
def changeDecodesUptoRow : OpenClaim := { program := "ytknibpmmjhmjeaadoor", sum := "6dbf8bcbe4df0b50c754b450cb16becb78b0acc94a86924de540f0e198248bd9", func := "dasd/dasdlaw47.ChangeDecodes", spec := "changeDecodes", unfollowed := true, recurses := true, named := ["internal/strconv.uint64pow10", "math/bits.deBruijn32tab", "math/bits.deBruijn64tab"], apart := false, laid := [("math/bits.deBruijn32tab", laid_math_bits_deBruijn32tab), ("math/bits.deBruijn64tab", laid_math_bits_deBruijn64tab), ("internal/strconv.uint64pow10", laid_internal_strconv_uint64pow10)], narrowed := true }
def ChangeDecodesUptoSaid : Prop := changeDecodesUptoRow.holds Tryd.pinned (OpenSpec.upto changeDecodesSpec)

/-- 'dasdlaw47.ChangeIds', WHERE WHAT IT READS IS OF BULK AT MOST 1048576: true; the input reads as it did. -/
def changeIdsUptoRow : OpenClaim := { program := "ytknibpmmjhmjeaadoor", sum := "6dbf8bcbe4df0b50c754b450cb16becb78b0acc94a86924de540f0e198248bd9", func := "dasd/dasdlaw47.ChangeIds", spec := "changeIds", unfollowed := true, recurses := true, named := ["internal/strconv.uint64pow10", "math/bits.deBruijn32tab", "math/bits.deBruijn64tab"], apart := false, laid := [("math/bits.deBruijn32tab", laid_math_bits_deBruijn32tab), ("math/bits.deBruijn64tab", laid_math_bits_deBruijn64tab), ("internal/strconv.uint64pow10", laid_internal_strconv_uint64pow10)], narrowed := true }
def ChangeIdsUptoSaid : Prop := changeIdsUptoRow.holds Tryd.pinned (OpenSpec.upto changeIdsSpec)

/-- 'dasdlaw47.ChangeEncodes', WHERE WHAT IT READS IS OF BULK AT MOST 1048576: true; the input reads as it did. -/
def changeEncodesUptoRow : OpenClaim := { program := "ytknibpmmjhmjeaadoor", sum := "6dbf8bcbe4df0b50c754b450cb16becb78b0acc94a86924de540f0e198248bd9", func := "dasd/dasdlaw47.ChangeEncodes", spec := "changeEncodes", unfollowed := true, recurses := true, named := ["internal/strconv.uint64pow10", "math/bits.deBruijn32tab", "math/bits.deBruijn64tab"], apart := false, laid := [("math/bits.deBruijn32tab", laid_math_bits_deBruijn32tab), ("math/bits.deBruijn64tab", laid_math_bits_deBruijn64tab), ("internal/strconv.uint64pow10", laid_internal_strconv_uint64pow10)], narrowed := true }
def ChangeEncodesUptoSaid : Prop := changeEncodesUptoRow.holds Tryd.pinned (OpenSpec.upto changeEncodesSpec)

/-- 'dasdlaw47.ChangeUnits', WHERE WHAT IT READS IS OF BULK AT MOST 1048576: true; the input reads as it did. -/
def changeUnitsUptoRow : OpenClaim := { program := "ytknibpmmjhmjeaadoor", sum := "6dbf8bcbe4df0b50c754b450cb16becb78b0acc94a86924de540f0e198248bd9", func := "dasd/dasdlaw47.ChangeUnits", spec := "changeUnits", unfollowed := true, recurses := true, named := ["internal/strconv.uint64pow10", "math/bits.deBruijn32tab", "math/bits.deBruijn64tab"], apart := false, laid := [("math/bits.deBruijn32tab", laid_math_bits_deBruijn32tab), ("math/bits.deBruijn64tab", laid_math_bits_deBruijn64tab), ("internal/strconv.uint64pow10", laid_internal_strconv_uint64pow10)], narrowed := true }
def ChangeUnitsUptoSaid : Prop := changeUnitsUptoRow.holds Tryd.pinned (OpenSpec.upto changeUnitsSpec)

/-- 'dasdlaw47.ChangeParses', WHERE WHAT IT READS IS OF BULK AT MOST 1048576: true; the input reads as it did. -/
def changeParsesUptoRow : OpenClaim := { program := "ytknibpmmjhmjeaadoor", sum := "6dbf8bcbe4df0b50c754b450cb16becb78b0acc94a86924de540f0e198248bd9", func := "dasd/dasdlaw47.ChangeParses", spec := "changeParses", unfollowed := true, recurses := true, named := ["internal/strconv.uint64pow10", "math/bits.deBruijn32tab", "math/bits.deBruijn64tab"], apart := false, laid := [("math/bits.deBruijn32tab", laid_math_bits_deBruijn32tab), ("math/bits.deBruijn64tab", laid_math_bits_deBruijn64tab), ("internal/strconv.uint64pow10", laid_internal_strconv_uint64pow10)], narrowed := true }
def ChangeParsesUptoSaid : Prop := changeParsesUptoRow.holds Tryd.pinned (OpenSpec.upto changeParsesSpec)

/-- 'dasdlaw47.ChangeParts', WHERE WHAT IT READS IS OF BULK AT MOST 1048576: true; the input reads as it did. -/
def changePartsUptoRow : OpenClaim := { program := "ytknibpmmjhmjeaadoor", sum := "6dbf8bcbe4df0b50c754b450cb16becb78b0acc94a86924de540f0e198248bd9", func := "dasd/dasdlaw47.ChangeParts", spec := "changeParts", unfollowed := true, recurses := true, named := ["internal/strconv.uint64pow10", "math/bits.deBruijn32tab", "math/bits.deBruijn64tab"], apart := false, laid := [("math/bits.deBruijn32tab", laid_math_bits_deBruijn32tab), ("math/bits.deBruijn64tab", laid_math_bits_deBruijn64tab), ("internal/strconv.uint64pow10", laid_internal_strconv_uint64pow10)], narrowed := true }
def ChangePartsUptoSaid : Prop := changePartsUptoRow.holds Tryd.pinned (OpenSpec.upto changePartsSpec)

end Rows
end Go.Proofs.YtknibpmmjhmjeaaDoor
