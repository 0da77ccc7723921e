/-
  No cell of these rows narrows 'for every input' (looked for: loops, veiled, ifaces, maps, wideKeys, modest, calm, conditions, laid).
  DERIVED. THE GIVEN ROWS OF THIS SEAT. 7 by the template 'for every input the law returns true; each argument reads behind the call as it read before'; 0 by the template 'total and deterministic' (their statements: YtodfebhimadaiaaTotals.lean).
  GIVEN WITH THE SEED: the statements are not yours to turn. If you find one false, say at which input.
  Laid BY PROGRAM, IN A SANDBOX (cutbox-rows.mjs): the forced cells as the released guide's own fill.sh prints them over the translation 54f1dd50851a62d7… (all of the seat's roots in one cut). By AI agents, Wed Nov 11 2026. No macro, syntax, notation, axiom, sorry.
-/
import Derived.Test.YtodfebhimadaiaaChecked
import GoSem.Claim
import GoSem.ClaimJoined
import GoSem.ClaimMapViews
import Derived.JoinedTies
import Derived.KernelRfl
namespace Go.Proofs.Ytodfebhimadaiaa
/- THE CELL 'sum', in the pinned program and in every row, IS THE sha256 OF THE DUMP (.gsa) THAT YtodfebhimadaiaaProg.lean LOADS. Nothing in Lean hashes anything: it is a label: what it is worth is what the hold of that sum in a sandbox is worth. -/
noncomputable def Try.pinned : Pinned := { name := "ytodfebhimadaiaa", sum := "54f1dd50851a62d71eebd1e9d621cadf88811fb17b3ff1f68c8393d076b8b5b1", checked := Try.checked }
namespace Rows
def none {H : Type} : Left H := { results := [], args := [] }

/-- 'dasdlaw14.ArchiveFrames': WHATEVER THE INPUT: true; the input reads as it did. -/
def archiveFramesSpec : ChangeSpec := { name := "archiveFrames", fn := fun _ => fun
  | [d1, d2, d3, d4, d5] => { results := [.lit (.bool true)], args := [d1, d2, d3, d4, d5] }
  | _ => none }
def archiveFramesRow : OpenClaim := { program := "ytodfebhimadaiaa", sum := "54f1dd50851a62d71eebd1e9d621cadf88811fb17b3ff1f68c8393d076b8b5b1", func := "dasd/dasdlaw14.ArchiveFrames", spec := "archiveFrames", unfollowed := true, recurses := true, apart := false }
def ArchiveFramesSaid : Prop := archiveFramesRow.holds Try.pinned (OpenSpec.ofChange archiveFramesSpec)

/-- ITS FALSE NEIGHBOUR: 'it returns false'. Refute it at one input. -/
def archiveFramesWrong : ChangeSpec := { name := "archiveFrames", fn := fun _ => fun
  | [d1, d2, d3, d4, d5] => { results := [.lit (.bool false)], args := [d1, d2, d3, d4, d5] }
  | _ => none }
def ArchiveFramesWrongFalsely : Prop := archiveFramesRow.holds Try.pinned (OpenSpec.ofChange archiveFramesWrong)

/-- 'dasdlaw14.ArchiveDamage': WHATEVER THE INPUT: true; the input reads as it did. -/
def archiveDamageSpec : ChangeSpec := { name := "archiveDamage", fn := fun _ => fun
  | [d1, d2, d3, d4, d5, d6] => { results := [.lit (.bool true)], args := [d1, d2, d3, d4, d5, d6] }
  | _ => none }
def archiveDamageRow : OpenClaim := { program := "ytodfebhimadaiaa", sum := "54f1dd50851a62d71eebd1e9d621cadf88811fb17b3ff1f68c8393d076b8b5b1", func := "dasd/dasdlaw14.ArchiveDamage", spec := "archiveDamage", unfollowed := true, recurses := true, apart := false }
def ArchiveDamageSaid : Prop := archiveDamageRow.holds Try.pinned (OpenSpec.ofChange archiveDamageSpec)

/-- ITS FALSE NEIGHBOUR: 'it returns false'. Refute it at one input. -/
def archiveDamageWrong : ChangeSpec := { name := "archiveDamage", fn := fun _ => fun
  | [d1, d2, d3, d4, d5, d6] => { results := [.lit (.bool false)], args := [d1, d2, d3, d4, d5, d6] }
  | _ => none }
def ArchiveDamageWrongFalsely : Prop := archiveDamageRow.holds Try.pinned (OpenSpec.ofChange archiveDamageWrong)

/-- 'dasdlaw14.ArchiveEncodes': WHATEVER THE INPUT: true; the input reads as it did. -/
def archiveEncodesSpec : ChangeSpec := { name := "archiveEncodes", fn := fun _ => fun
  | [d1, d2] => { results := [.lit (.bool true)], args := [d1, d2] }
  | _ => none }
def archiveEncodesRow : OpenClaim := { program := "ytodfebhimadaiaa", sum := "54f1dd50851a62d71eebd1e9d621cadf88811fb17b3ff1f68c8393d076b8b5b1", func := "dasd/dasdlaw14.ArchiveEncodes", spec := "archiveEncodes", unfollowed := true, recurses := true, apart := false }
def ArchiveEncodesSaid : Prop := archiveEncodesRow.holds Try.pinned (OpenSpec.ofChange archiveEncodesSpec)

/-- ITS FALSE NEIGHBOUR: 'it returns false'. Refute it at one input. -/
def archiveEncodesWrong : ChangeSpec := { name := "archiveEncodes", fn := fun _ => fun
  | [d1, d2] => { results := [.lit (.bool false)], args := [d1, d2] }
  | _ => none }
def ArchiveEncodesWrongFalsely : Prop := archiveEncodesRow.holds Try.pinned (OpenSpec.ofChange archiveEncodesWrong)

/-- 'dasdlaw14.ArchiveDecodes': WHATEVER THE INPUT: true; the input reads as it did. -/
def archiveDecodesSpec : ChangeSpec := { name := "archiveDecodes", fn := fun _ => fun
  | [d] => { results := [.lit (.bool true)], args := [d] }
  | _ => none }
def archiveDecodesRow : OpenClaim := { program := "ytodfebhimadaiaa", sum := "54f1dd50851a62d71eebd1e9d621cadf88811fb17b3ff1f68c8393d076b8b5b1", func := "dasd/dasdlaw14.ArchiveDecodes", spec := "archiveDecodes", unfollowed := true, recurses := true, apart := false }
def ArchiveDecodesSaid : Prop := archiveDecodesRow.holds Try.pinned (OpenSpec.ofChange archiveDecodesSpec)

/-- ITS FALSE NEIGHBOUR: 'it returns false'. Refute it at one input. -/
def archiveDecodesWrong : ChangeSpec := { name := "archiveDecodes", fn := fun _ => fun
  | [d] => { results := [.lit (.bool false)], args := [d] }
  | _ => none }
def ArchiveDecodesWrongFalsely : Prop := archiveDecodesRow.holds Try.pinned (OpenSpec.ofChange archiveDecodesWrong)

/-- 'dasdlaw14.ArchiveSalvages': WHATEVER THE INPUT: true; the input reads as it did. -/
def archiveSalvagesSpec : ChangeSpec := { name := "archiveSalvages", fn := fun _ => fun
  | [d1, d2] => { results := [.lit (.bool true)], args := [d1, d2] }
  | _ => none }
def archiveSalvagesRow : OpenClaim := { program := "ytodfebhimadaiaa", sum := "54f1dd50851a62d71eebd1e9d621cadf88811fb17b3ff1f68c8393d076b8b5b1", func := "dasd/dasdlaw14.ArchiveSalvages", spec := "archiveSalvages", unfollowed := true, recurses := true, apart := false }
def ArchiveSalvagesSaid : Prop := archiveSalvagesRow.holds Try.pinned (OpenSpec.ofChange archiveSalvagesSpec)

/-- ITS FALSE NEIGHBOUR: 'it returns false'. Refute it at one input. -/
def archiveSalvagesWrong : ChangeSpec := { name := "archiveSalvages", fn := fun _ => fun
  | [d1, d2] => { results := [.lit (.bool false)], args := [d1, d2] }
  | _ => none }
def ArchiveSalvagesWrongFalsely : Prop := archiveSalvagesRow.holds Try.pinned (OpenSpec.ofChange archiveSalvagesWrong)

/-- 'dasdlaw14.ArchiveReturns': WHATEVER THE INPUT: true; the input reads as it did. -/
def archiveReturnsSpec : ChangeSpec := { name := "archiveReturns", fn := fun _ => fun
  | [d] => { results := [.lit (.bool true)], args := [d] }
  | _ => none }
def archiveReturnsRow : OpenClaim := { program := "ytodfebhimadaiaa", sum := "54f1dd50851a62d71eebd1e9d621cadf88811fb17b3ff1f68c8393d076b8b5b1", func := "dasd/dasdlaw14.ArchiveReturns", spec := "archiveReturns", unfollowed := true, recurses := true, apart := false }
def ArchiveReturnsSaid : Prop := archiveReturnsRow.holds Try.pinned (OpenSpec.ofChange archiveReturnsSpec)

/-- ITS FALSE NEIGHBOUR: 'it returns false'. Refute it at one input. -/
def archiveReturnsWrong : ChangeSpec := { name := "archiveReturns", fn := fun _ => fun
  | [d] => { results := [.lit (.bool false)], args := [d] }
  | _ => none }
def ArchiveReturnsWrongFalsely : Prop := archiveReturnsRow.holds Try.pinned (OpenSpec.ofChange archiveReturnsWrong)

/-- 'dasdlaw14.ArchiveStrict': WHATEVER THE INPUT: true; the input reads as it did. -/
def archiveStrictSpec : ChangeSpec := { name := "archiveStrict", fn := fun _ => fun
  | [d] => { results := [.lit (.bool true)], args := [d] }
  | _ => none }
def archiveStrictRow : OpenClaim := { program := "ytodfebhimadaiaa", sum := "54f1dd50851a62d71eebd1e9d621cadf88811fb17b3ff1f68c8393d076b8b5b1", func := "dasd/dasdlaw14.ArchiveStrict", spec := "archiveStrict", unfollowed := true, recurses := true, apart := false }
def ArchiveStrictSaid : Prop := archiveStrictRow.holds Try.pinned (OpenSpec.ofChange archiveStrictSpec)

/-- ITS FALSE NEIGHBOUR: 'it returns false'. Refute it at one input. -/
def archiveStrictWrong : ChangeSpec := { name := "archiveStrict", fn := fun _ => fun
  | [d] => { results := [.lit (.bool false)], args := [d] }
  | _ => none }
def ArchiveStrictWrongFalsely : Prop := archiveStrictRow.holds Try.pinned (OpenSpec.ofChange archiveStrictWrong)

/- THE SECOND FORM. 'bulk': how many values and letters a reading holds, each counted each time it is reached (what is shared counts as often as it is met; a slice's spare places count too). A statement '..UptoSaid' is the law's where the arguments, and the package variables that the reading takes, are together of bulk at most 1048576: NARROWER than '..Said'. Prove '..Said' where nothing that the law and all that it calls make is longer than what came in: it says more and counts as full. Else prove '..UptoSaid'. A law counts once. -/
mutual
def uptoBulk {H : Type} : DataW H → Nat
  | .lit (.string bytes) => bytes.length + 1
  | .lit _ => 1
  | .nil => 1
  | .ptr d => uptoBulk d + 1
  | .slice elems spare => uptoBulkAll elems + uptoBulkAll spare + 1
  | .agg parts => uptoBulkAll parts + 1
  | .iface _ d => uptoBulk d + 1
  | .map entries => uptoBulkEntries entries + 1
  | .held _ => 1
def uptoBulkAll {H : Type} : List (DataW H) → Nat
  | [] => 0
  | d :: r => uptoBulk d + uptoBulkAll r
def uptoBulkEntries {H : Type} : List (Lit × DataW H) → Nat
  | [] => 0
  | x :: r => uptoBulkEntry x + uptoBulkEntries r
def uptoBulkEntry {H : Type} : Lit × DataW H → Nat
  | (.string bytes, d) => bytes.length + uptoBulk d + 1
  | (_, d) => uptoBulk d + 1
 end
def uptoSmall : (H : Type) → List (DataW H) → Bool := fun _ ds => decide (uptoBulkAll ds ≤ 1048576)
def OpenSpec.upto (s : _root_.Go.ChangeSpec) : _root_.Go.OpenSpec := { _root_.Go.OpenSpec.ofChange s with cond := some uptoSmall }

/-- 'dasdlaw14.ArchiveFrames', WHERE WHAT IT READS IS OF BULK AT MOST 1048576: true; the input reads as it did. -/
def archiveFramesUptoRow : OpenClaim := { program := "ytodfebhimadaiaa", sum := "54f1dd50851a62d71eebd1e9d621cadf88811fb17b3ff1f68c8393d076b8b5b1", func := "dasd/dasdlaw14.ArchiveFrames", spec := "archiveFrames", unfollowed := true, recurses := true, apart := false, narrowed := true }
def ArchiveFramesUptoSaid : Prop := archiveFramesUptoRow.holds Try.pinned (OpenSpec.upto archiveFramesSpec)

/-- 'dasdlaw14.ArchiveDamage', WHERE WHAT IT READS IS OF BULK AT MOST 1048576: true; the input reads as it did. -/
def archiveDamageUptoRow : OpenClaim := { program := "ytodfebhimadaiaa", sum := "54f1dd50851a62d71eebd1e9d621cadf88811fb17b3ff1f68c8393d076b8b5b1", func := "dasd/dasdlaw14.ArchiveDamage", spec := "archiveDamage", unfollowed := true, recurses := true, apart := false, narrowed := true }
def ArchiveDamageUptoSaid : Prop := archiveDamageUptoRow.holds Try.pinned (OpenSpec.upto archiveDamageSpec)

/-- 'dasdlaw14.ArchiveEncodes', WHERE WHAT IT READS IS OF BULK AT MOST 1048576: true; the input reads as it did. -/
def archiveEncodesUptoRow : OpenClaim := { program := "ytodfebhimadaiaa", sum := "54f1dd50851a62d71eebd1e9d621cadf88811fb17b3ff1f68c8393d076b8b5b1", func := "dasd/dasdlaw14.ArchiveEncodes", spec := "archiveEncodes", unfollowed := true, recurses := true, apart := false, narrowed := true }
def ArchiveEncodesUptoSaid : Prop := archiveEncodesUptoRow.holds Try.pinned (OpenSpec.upto archiveEncodesSpec)

/-- 'dasdlaw14.ArchiveDecodes', WHERE WHAT IT READS IS OF BULK AT MOST 1048576: true; the input reads as it did. -/
def archiveDecodesUptoRow : OpenClaim := { program := "ytodfebhimadaiaa", sum := "54f1dd50851a62d71eebd1e9d621cadf88811fb17b3ff1f68c8393d076b8b5b1", func := "dasd/dasdlaw14.ArchiveDecodes", spec := "archiveDecodes", unfollowed := true, recurses := true, apart := false, narrowed := true }
def ArchiveDecodesUptoSaid : Prop := archiveDecodesUptoRow.holds Try.pinned (OpenSpec.upto archiveDecodesSpec)

/-- 'dasdlaw14.ArchiveSalvages', WHERE WHAT IT READS IS OF BULK AT MOST 1048576: true; the input reads as it did. -/
def archiveSalvagesUptoRow : OpenClaim := { program := "ytodfebhimadaiaa", sum := "54f1dd50851a62d71eebd1e9d621cadf88811fb17b3ff1f68c8393d076b8b5b1", func := "dasd/dasdlaw14.ArchiveSalvages", spec := "archiveSalvages", unfollowed := true, recurses := true, apart := false, narrowed := true }
def ArchiveSalvagesUptoSaid : Prop := archiveSalvagesUptoRow.holds Try.pinned (OpenSpec.upto archiveSalvagesSpec)

/-- 'dasdlaw14.ArchiveReturns', WHERE WHAT IT READS IS OF BULK AT MOST 1048576: true; the input reads as it did. -/
def archiveReturnsUptoRow : OpenClaim := { program := "ytodfebhimadaiaa", sum := "54f1dd50851a62d71eebd1e9d621cadf88811fb17b3ff1f68c8393d076b8b5b1", func := "dasd/dasdlaw14.ArchiveReturns", spec := "archiveReturns", unfollowed := true, recurses := true, apart := false, narrowed := true }
def ArchiveReturnsUptoSaid : Prop := archiveReturnsUptoRow.holds Try.pinned (OpenSpec.upto archiveReturnsSpec)

/-- 'dasdlaw14.ArchiveStrict', WHERE WHAT IT READS IS OF BULK AT MOST 1048576: true; the input reads as it did. -/
def archiveStrictUptoRow : OpenClaim := { program := "ytodfebhimadaiaa", sum := "54f1dd50851a62d71eebd1e9d621cadf88811fb17b3ff1f68c8393d076b8b5b1", func := "dasd/dasdlaw14.ArchiveStrict", spec := "archiveStrict", unfollowed := true, recurses := true, apart := false, narrowed := true }
def ArchiveStrictUptoSaid : Prop := archiveStrictUptoRow.holds Try.pinned (OpenSpec.upto archiveStrictSpec)

end Rows
end Go.Proofs.Ytodfebhimadaiaa
