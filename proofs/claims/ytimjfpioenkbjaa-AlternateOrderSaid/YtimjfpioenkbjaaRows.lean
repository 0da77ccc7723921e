/-
  No cell of these rows narrows 'for every input' (looked for: loops, veiled, ifaces, maps, wideKeys, modest, calm, conditions, laid).
  DERIVED. THE GIVEN ROWS OF THIS SEAT. 7 by the template 'for every input the law returns true; each argument reads behind the call as it read before'; 0 by the template 'total and deterministic' (their statements: YtimjfpioenkbjaaTotals.lean).
  GIVEN WITH THE SEED: the statements are not yours to turn. If you find one false, say at which input.
  Laid BY PROGRAM, IN A SANDBOX (cutbox-rows.mjs): the forced cells as the released guide's own fill.sh prints them over the translation 9712107530b33763… (all of the seat's roots in one cut). By AI agents, Wed Nov 11 2026. No macro, syntax, notation, axiom, sorry.
-/
import Derived.Test.YtimjfpioenkbjaaChecked
import GoSem.Claim
import GoSem.ClaimJoined
import GoSem.ClaimMapViews
import Derived.JoinedTies
import Derived.KernelRfl
namespace Go.Proofs.Ytimjfpioenkbjaa
/- THE CELL 'sum', in the pinned program and in every row, IS THE sha256 OF THE DUMP (.gsa) THAT YtimjfpioenkbjaaProg.lean LOADS. Nothing in Lean hashes anything: it is a label: what it is worth is what the hold of that sum in a sandbox is worth. -/
noncomputable def Try.pinned : Pinned := { name := "ytimjfpioenkbjaa", sum := "9712107530b3376344dcbb04f8e4cdb6682e411a1d82a9ead92b8ad4c0e46d39", checked := Try.checked }
namespace Rows
def none {H : Type} : Left H := { results := [], args := [] }

/-- 'dasdlaw26.AlternateDescribes': WHATEVER THE INPUT: true; the input reads as it did. -/
def alternateDescribesSpec : ChangeSpec := { name := "alternateDescribes", fn := fun _ => fun
  | [d1, d2, d3, d4, d5, d6] => { results := [.lit (.bool true)], args := [d1, d2, d3, d4, d5, d6] }
  | _ => none }
def alternateDescribesRow : OpenClaim := { program := "ytimjfpioenkbjaa", sum := "9712107530b3376344dcbb04f8e4cdb6682e411a1d82a9ead92b8ad4c0e46d39", func := "dasd/dasdlaw26.AlternateDescribes", spec := "alternateDescribes", inPlace := ["internal/abi.NoEscape", "internal/bytealg.MakeNoZero"], apart := false }
def AlternateDescribesSaid : Prop := alternateDescribesRow.holds Try.pinned (OpenSpec.ofChange alternateDescribesSpec)

/-- ITS FALSE NEIGHBOUR: 'it returns false'. Refute it at one input. -/
def alternateDescribesWrong : ChangeSpec := { name := "alternateDescribes", fn := fun _ => fun
  | [d1, d2, d3, d4, d5, d6] => { results := [.lit (.bool false)], args := [d1, d2, d3, d4, d5, d6] }
  | _ => none }
def AlternateDescribesWrongFalsely : Prop := alternateDescribesRow.holds Try.pinned (OpenSpec.ofChange alternateDescribesWrong)

/-- 'dasdlaw26.AlternateFits': WHATEVER THE INPUT: true; the input reads as it did. -/
def alternateFitsSpec : ChangeSpec := { name := "alternateFits", fn := fun _ => fun
  | [d1, d2, d3, d4, d5] => { results := [.lit (.bool true)], args := [d1, d2, d3, d4, d5] }
  | _ => none }
def alternateFitsRow : OpenClaim := { program := "ytimjfpioenkbjaa", sum := "9712107530b3376344dcbb04f8e4cdb6682e411a1d82a9ead92b8ad4c0e46d39", func := "dasd/dasdlaw26.AlternateFits", spec := "alternateFits", inPlace := ["internal/abi.NoEscape", "internal/bytealg.MakeNoZero"], apart := false }
def AlternateFitsSaid : Prop := alternateFitsRow.holds Try.pinned (OpenSpec.ofChange alternateFitsSpec)

/-- ITS FALSE NEIGHBOUR: 'it returns false'. Refute it at one input. -/
def alternateFitsWrong : ChangeSpec := { name := "alternateFits", fn := fun _ => fun
  | [d1, d2, d3, d4, d5] => { results := [.lit (.bool false)], args := [d1, d2, d3, d4, d5] }
  | _ => none }
def AlternateFitsWrongFalsely : Prop := alternateFitsRow.holds Try.pinned (OpenSpec.ofChange alternateFitsWrong)

/-- 'dasdlaw26.AlternateParts': WHATEVER THE INPUT: true; the input reads as it did. -/
def alternatePartsSpec : ChangeSpec := { name := "alternateParts", fn := fun _ => fun
  | [d1, d2, d3, d4] => { results := [.lit (.bool true)], args := [d1, d2, d3, d4] }
  | _ => none }
def alternatePartsRow : OpenClaim := { program := "ytimjfpioenkbjaa", sum := "9712107530b3376344dcbb04f8e4cdb6682e411a1d82a9ead92b8ad4c0e46d39", func := "dasd/dasdlaw26.AlternateParts", spec := "alternateParts", inPlace := ["internal/abi.NoEscape", "internal/bytealg.MakeNoZero"], apart := false }
def AlternatePartsSaid : Prop := alternatePartsRow.holds Try.pinned (OpenSpec.ofChange alternatePartsSpec)

/-- ITS FALSE NEIGHBOUR: 'it returns false'. Refute it at one input. -/
def alternatePartsWrong : ChangeSpec := { name := "alternateParts", fn := fun _ => fun
  | [d1, d2, d3, d4] => { results := [.lit (.bool false)], args := [d1, d2, d3, d4] }
  | _ => none }
def AlternatePartsWrongFalsely : Prop := alternatePartsRow.holds Try.pinned (OpenSpec.ofChange alternatePartsWrong)

/-- 'dasdlaw26.AlternateInverts': WHATEVER THE INPUT: true; the input reads as it did. -/
def alternateInvertsSpec : ChangeSpec := { name := "alternateInverts", fn := fun _ => fun
  | [d1, d2, d3] => { results := [.lit (.bool true)], args := [d1, d2, d3] }
  | _ => none }
def alternateInvertsRow : OpenClaim := { program := "ytimjfpioenkbjaa", sum := "9712107530b3376344dcbb04f8e4cdb6682e411a1d82a9ead92b8ad4c0e46d39", func := "dasd/dasdlaw26.AlternateInverts", spec := "alternateInverts", inPlace := ["internal/abi.NoEscape", "internal/bytealg.MakeNoZero"], apart := false }
def AlternateInvertsSaid : Prop := alternateInvertsRow.holds Try.pinned (OpenSpec.ofChange alternateInvertsSpec)

/-- ITS FALSE NEIGHBOUR: 'it returns false'. Refute it at one input. -/
def alternateInvertsWrong : ChangeSpec := { name := "alternateInverts", fn := fun _ => fun
  | [d1, d2, d3] => { results := [.lit (.bool false)], args := [d1, d2, d3] }
  | _ => none }
def AlternateInvertsWrongFalsely : Prop := alternateInvertsRow.holds Try.pinned (OpenSpec.ofChange alternateInvertsWrong)

/-- 'dasdlaw26.AlternateSpans': WHATEVER THE INPUT: true; the input reads as it did. -/
def alternateSpansSpec : ChangeSpec := { name := "alternateSpans", fn := fun _ => fun
  | [d1, d2, d3] => { results := [.lit (.bool true)], args := [d1, d2, d3] }
  | _ => none }
def alternateSpansRow : OpenClaim := { program := "ytimjfpioenkbjaa", sum := "9712107530b3376344dcbb04f8e4cdb6682e411a1d82a9ead92b8ad4c0e46d39", func := "dasd/dasdlaw26.AlternateSpans", spec := "alternateSpans", inPlace := ["internal/abi.NoEscape", "internal/bytealg.MakeNoZero"], apart := false }
def AlternateSpansSaid : Prop := alternateSpansRow.holds Try.pinned (OpenSpec.ofChange alternateSpansSpec)

/-- ITS FALSE NEIGHBOUR: 'it returns false'. Refute it at one input. -/
def alternateSpansWrong : ChangeSpec := { name := "alternateSpans", fn := fun _ => fun
  | [d1, d2, d3] => { results := [.lit (.bool false)], args := [d1, d2, d3] }
  | _ => none }
def AlternateSpansWrongFalsely : Prop := alternateSpansRow.holds Try.pinned (OpenSpec.ofChange alternateSpansWrong)

/-- 'dasdlaw26.AlternateRecords': WHATEVER THE INPUT: true; the input reads as it did. -/
def alternateRecordsSpec : ChangeSpec := { name := "alternateRecords", fn := fun _ => fun
  | [d1, d2] => { results := [.lit (.bool true)], args := [d1, d2] }
  | _ => none }
def alternateRecordsRow : OpenClaim := { program := "ytimjfpioenkbjaa", sum := "9712107530b3376344dcbb04f8e4cdb6682e411a1d82a9ead92b8ad4c0e46d39", func := "dasd/dasdlaw26.AlternateRecords", spec := "alternateRecords", inPlace := ["internal/abi.NoEscape", "internal/bytealg.MakeNoZero"], unfollowed := true, recurses := true, apart := false }
def AlternateRecordsSaid : Prop := alternateRecordsRow.holds Try.pinned (OpenSpec.ofChange alternateRecordsSpec)

/-- ITS FALSE NEIGHBOUR: 'it returns false'. Refute it at one input. -/
def alternateRecordsWrong : ChangeSpec := { name := "alternateRecords", fn := fun _ => fun
  | [d1, d2] => { results := [.lit (.bool false)], args := [d1, d2] }
  | _ => none }
def AlternateRecordsWrongFalsely : Prop := alternateRecordsRow.holds Try.pinned (OpenSpec.ofChange alternateRecordsWrong)

/-- 'dasdlaw26.AlternateOrder': WHATEVER THE INPUT: true; the input reads as it did. -/
def alternateOrderSpec : ChangeSpec := { name := "alternateOrder", fn := fun _ => fun
  | [d1, d2] => { results := [.lit (.bool true)], args := [d1, d2] }
  | _ => none }
def alternateOrderRow : OpenClaim := { program := "ytimjfpioenkbjaa", sum := "9712107530b3376344dcbb04f8e4cdb6682e411a1d82a9ead92b8ad4c0e46d39", func := "dasd/dasdlaw26.AlternateOrder", spec := "alternateOrder", inPlace := ["internal/abi.NoEscape", "internal/bytealg.MakeNoZero"], unfollowed := true, recurses := true, apart := false }
def AlternateOrderSaid : Prop := alternateOrderRow.holds Try.pinned (OpenSpec.ofChange alternateOrderSpec)

/-- ITS FALSE NEIGHBOUR: 'it returns false'. Refute it at one input. -/
def alternateOrderWrong : ChangeSpec := { name := "alternateOrder", fn := fun _ => fun
  | [d1, d2] => { results := [.lit (.bool false)], args := [d1, d2] }
  | _ => none }
def AlternateOrderWrongFalsely : Prop := alternateOrderRow.holds Try.pinned (OpenSpec.ofChange alternateOrderWrong)

/- THE SECOND FORM. 'bulk': how many values and letters a reading holds, each counted each time it is reached (what is shared counts as often as it is met; a slice's spare places count too). A statement '..UptoSaid' is the law's where the arguments, and the package variables that the reading takes, are together of bulk at most 1048576: NARROWER than '..Said'. Prove '..Said' where nothing that the law and all that it calls make is longer than what came in: it says more and counts as full. Else prove '..UptoSaid'. A law counts once. -/
mutual
def uptoBulk {H : Type} : DataW H → Nat
  | .lit (.string bytes) => bytes.length + 1
  | .lit _ => 1
  | .nil => 1
  | .ptr d => uptoBulk d + 1
  | .slice elems spare => uptoBulkAll elems + uptoBulkAll spare + 1
  | .agg parts => uptoBulkAll parts + 1
  | .iface _ d => uptoBulk d + 1
  | .map entries => uptoBulkEntries entries + 1
  | .held _ => 1
def uptoBulkAll {H : Type} : List (DataW H) → Nat
  | [] => 0
  | d :: r => uptoBulk d + uptoBulkAll r
def uptoBulkEntries {H : Type} : List (Lit × DataW H) → Nat
  | [] => 0
  | x :: r => uptoBulkEntry x + uptoBulkEntries r
def uptoBulkEntry {H : Type} : Lit × DataW H → Nat
  | (.string bytes, d) => bytes.length + uptoBulk d + 1
  | (_, d) => uptoBulk d + 1
 end
def uptoSmall : (H : Type) → List (DataW H) → Bool := fun _ ds => decide (uptoBulkAll ds ≤ 1048576)
def OpenSpec.upto (s : _root_.Go.ChangeSpec) : _root_.Go.OpenSpec := { _root_.Go.OpenSpec.ofChange s with cond := some uptoSmall }

/-- 'dasdlaw26.AlternateDescribes', WHERE WHAT IT READS IS OF BULK AT MOST 1048576: true; the input reads as it did. -/
def alternateDescribesUptoRow : OpenClaim := { program := "ytimjfpioenkbjaa", sum := "9712107530b3376344dcbb04f8e4cdb6682e411a1d82a9ead92b8ad4c0e46d39", func := "dasd/dasdlaw26.AlternateDescribes", spec := "alternateDescribes", inPlace := ["internal/abi.NoEscape", "internal/bytealg.MakeNoZero"], apart := false, narrowed := true }
def AlternateDescribesUptoSaid : Prop := alternateDescribesUptoRow.holds Try.pinned (OpenSpec.upto alternateDescribesSpec)

/-- 'dasdlaw26.AlternateFits', WHERE WHAT IT READS IS OF BULK AT MOST 1048576: true; the input reads as it did. -/
def alternateFitsUptoRow : OpenClaim := { program := "ytimjfpioenkbjaa", sum := "9712107530b3376344dcbb04f8e4cdb6682e411a1d82a9ead92b8ad4c0e46d39", func := "dasd/dasdlaw26.AlternateFits", spec := "alternateFits", inPlace := ["internal/abi.NoEscape", "internal/bytealg.MakeNoZero"], apart := false, narrowed := true }
def AlternateFitsUptoSaid : Prop := alternateFitsUptoRow.holds Try.pinned (OpenSpec.upto alternateFitsSpec)

/-- 'dasdlaw26.AlternateParts', WHERE WHAT IT READS IS OF BULK AT MOST 1048576: true; the input reads as it did. -/
def alternatePartsUptoRow : OpenClaim := { program := "ytimjfpioenkbjaa", sum := "9712107530b3376344dcbb04f8e4cdb6682e411a1d82a9ead92b8ad4c0e46d39", func := "dasd/dasdlaw26.AlternateParts", spec := "alternateParts", inPlace := ["internal/abi.NoEscape", "internal/bytealg.MakeNoZero"], apart := false, narrowed := true }
def AlternatePartsUptoSaid : Prop := alternatePartsUptoRow.holds Try.pinned (OpenSpec.upto alternatePartsSpec)

/-- 'dasdlaw26.AlternateInverts', WHERE WHAT IT READS IS OF BULK AT MOST 1048576: true; the input reads as it did. -/
def alternateInvertsUptoRow : OpenClaim := { program := "ytimjfpioenkbjaa", sum := "9712107530b3376344dcbb04f8e4cdb6682e411a1d82a9ead92b8ad4c0e46d39", func := "dasd/dasdlaw26.AlternateInverts", spec := "alternateInverts", inPlace := ["internal/abi.NoEscape", "internal/bytealg.MakeNoZero"], apart := false, narrowed := true }
def AlternateInvertsUptoSaid : Prop := alternateInvertsUptoRow.holds Try.pinned (OpenSpec.upto alternateInvertsSpec)

/-- 'dasdlaw26.AlternateSpans', WHERE WHAT IT READS IS OF BULK AT MOST 1048576: true; the input reads as it did. -/
def alternateSpansUptoRow : OpenClaim := { program := "ytimjfpioenkbjaa", sum := "9712107530b3376344dcbb04f8e4cdb6682e411a1d82a9ead92b8ad4c0e46d39", func := "dasd/dasdlaw26.AlternateSpans", spec := "alternateSpans", inPlace := ["internal/abi.NoEscape", "internal/bytealg.MakeNoZero"], apart := false, narrowed := true }
def AlternateSpansUptoSaid : Prop := alternateSpansUptoRow.holds Try.pinned (OpenSpec.upto alternateSpansSpec)

/-- 'dasdlaw26.AlternateRecords', WHERE WHAT IT READS IS OF BULK AT MOST 1048576: true; the input reads as it did. -/
def alternateRecordsUptoRow : OpenClaim := { program := "ytimjfpioenkbjaa", sum := "9712107530b3376344dcbb04f8e4cdb6682e411a1d82a9ead92b8ad4c0e46d39", func := "dasd/dasdlaw26.AlternateRecords", spec := "alternateRecords", inPlace := ["internal/abi.NoEscape", "internal/bytealg.MakeNoZero"], unfollowed := true, recurses := true, apart := false, narrowed := true }
def AlternateRecordsUptoSaid : Prop := alternateRecordsUptoRow.holds Try.pinned (OpenSpec.upto alternateRecordsSpec)

/-- 'dasdlaw26.AlternateOrder', WHERE WHAT IT READS IS OF BULK AT MOST 1048576: true; the input reads as it did. -/
def alternateOrderUptoRow : OpenClaim := { program := "ytimjfpioenkbjaa", sum := "9712107530b3376344dcbb04f8e4cdb6682e411a1d82a9ead92b8ad4c0e46d39", func := "dasd/dasdlaw26.AlternateOrder", spec := "alternateOrder", inPlace := ["internal/abi.NoEscape", "internal/bytealg.MakeNoZero"], unfollowed := true, recurses := true, apart := false, narrowed := true }
def AlternateOrderUptoSaid : Prop := alternateOrderUptoRow.holds Try.pinned (OpenSpec.upto alternateOrderSpec)

end Rows
end Go.Proofs.Ytimjfpioenkbjaa
