/-
  No cell of these rows narrows 'for every input' (looked for: loops, veiled, ifaces, maps, wideKeys, modest, calm, conditions, laid).
  DERIVED. THE GIVEN ROWS OF THIS SEAT. 2 by the template 'for every input the law returns true; each argument reads behind the call as it read before'; 0 by the template 'total and deterministic' (their statements: YtmbinhhlfbgiaaaGreatTotals.lean).
  GIVEN WITH THE SEED: the statements are not yours to turn. If you find one false, say at which input.
  Laid BY PROGRAM, IN A SANDBOX (cutbox-rows.mjs): the forced cells as the released guide's own fill.sh prints them over the translation e177558e1191deae… (all of the seat's roots in one cut). By AI agents, Wed Nov 11 2026. No macro, syntax, notation, axiom, sorry.
-/
import Derived.Test.YtmbinhhlfbgiaaaGreatChecked
import GoSem.Claim
import GoSem.ClaimJoined
import GoSem.ClaimMapViews
import Derived.JoinedTies
import Derived.KernelRfl
namespace Go.Proofs.YtmbinhhlfbgiaaaGreat
/- THE CELL 'sum', in the pinned program and in every row, IS THE sha256 OF THE DUMP (.gsa) THAT YtmbinhhlfbgiaaaGreatProg.lean LOADS. Nothing in Lean hashes anything: it is a label: what it is worth is what the hold of that sum in a sandbox is worth. -/
noncomputable def Tryz.pinned : Pinned := { name := "ytmbinhhlfbgiaaagreat", sum := "e177558e1191deae01260d7a55382aae4feda056eb8f4ba04b22dd9e2083f526", checked := Tryz.checked }
namespace Rows
def none {H : Type} : Left H := { results := [], args := [] }

/-- 'dasdlaw27.UpgradeUnique': WHATEVER THE INPUT: true; the input reads as it did. -/
def upgradeUniqueSpec : ChangeSpec := { name := "upgradeUnique", fn := fun _ => fun
  | [d1, d2, d3, d4] => { results := [.lit (.bool true)], args := [d1, d2, d3, d4] }
  | _ => none }
def upgradeUniqueRow : OpenClaim := { program := "ytmbinhhlfbgiaaagreat", sum := "e177558e1191deae01260d7a55382aae4feda056eb8f4ba04b22dd9e2083f526", func := "dasd/dasdlaw27.UpgradeUnique", spec := "upgradeUnique", inPlace := ["internal/abi.NoEscape", "internal/bytealg.MakeNoZero"], unfollowed := true, recurses := true, apart := false }
def UpgradeUniqueSaid : Prop := upgradeUniqueRow.holds Tryz.pinned (OpenSpec.ofChange upgradeUniqueSpec)

/-- ITS FALSE NEIGHBOUR: 'it returns false'. Refute it at one input. -/
def upgradeUniqueWrong : ChangeSpec := { name := "upgradeUnique", fn := fun _ => fun
  | [d1, d2, d3, d4] => { results := [.lit (.bool false)], args := [d1, d2, d3, d4] }
  | _ => none }
def UpgradeUniqueWrongFalsely : Prop := upgradeUniqueRow.holds Tryz.pinned (OpenSpec.ofChange upgradeUniqueWrong)

/-- 'dasdlaw27.UpgradeKeeps': WHATEVER THE INPUT: true; the input reads as it did. -/
def upgradeKeepsSpec : ChangeSpec := { name := "upgradeKeeps", fn := fun _ => fun
  | [d1, d2, d3] => { results := [.lit (.bool true)], args := [d1, d2, d3] }
  | _ => none }
def upgradeKeepsRow : OpenClaim := { program := "ytmbinhhlfbgiaaagreat", sum := "e177558e1191deae01260d7a55382aae4feda056eb8f4ba04b22dd9e2083f526", func := "dasd/dasdlaw27.UpgradeKeeps", spec := "upgradeKeeps", inPlace := ["internal/abi.NoEscape", "internal/bytealg.MakeNoZero"], unfollowed := true, recurses := true, apart := false }
def UpgradeKeepsSaid : Prop := upgradeKeepsRow.holds Tryz.pinned (OpenSpec.ofChange upgradeKeepsSpec)

/-- ITS FALSE NEIGHBOUR: 'it returns false'. Refute it at one input. -/
def upgradeKeepsWrong : ChangeSpec := { name := "upgradeKeeps", fn := fun _ => fun
  | [d1, d2, d3] => { results := [.lit (.bool false)], args := [d1, d2, d3] }
  | _ => none }
def UpgradeKeepsWrongFalsely : Prop := upgradeKeepsRow.holds Tryz.pinned (OpenSpec.ofChange upgradeKeepsWrong)

/- THE SECOND FORM. 'bulk': how many values and letters a reading holds, each counted each time it is reached (what is shared counts as often as it is met; a slice's spare places count too). A statement '..UptoSaid' is the law's where the arguments, and the package variables that the reading takes, are together of bulk at most 1048576: NARROWER than '..Said'. Prove '..Said' where nothing that the law and all that it calls make is longer than what came in: it says more and counts as full. Else prove '..UptoSaid'. A law counts once. -/
mutual
def uptoBulk {H : Type} : DataW H → Nat
  | .lit (.string bytes) => bytes.length + 1
  | .lit _ => 1
  | .nil => 1
  | .ptr d => uptoBulk d + 1
  | .slice elems spare => uptoBulkAll elems + uptoBulkAll spare + 1
  | .agg parts => uptoBulkAll parts + 1
  | .iface _ d => uptoBulk d + 1
  | .map entries => uptoBulkEntries entries + 1
  | .held _ => 1
def uptoBulkAll {H : Type} : List (DataW H) → Nat
  | [] => 0
  | d :: r => uptoBulk d + uptoBulkAll r
def uptoBulkEntries {H : Type} : List (Lit × DataW H) → Nat
  | [] => 0
  | x :: r => uptoBulkEntry x + uptoBulkEntries r
def uptoBulkEntry {H : Type} : Lit × DataW H → Nat
  | (.string bytes, d) => bytes.length + uptoBulk d + 1
  | (_, d) => uptoBulk d + 1
 end
def uptoSmall : (H : Type) → List (DataW H) → Bool := fun _ ds => decide (uptoBulkAll ds ≤ 1048576)
def OpenSpec.upto (s : _root_.Go.ChangeSpec) : _root_.Go.OpenSpec := { _root_.Go.OpenSpec.ofChange s with cond := some uptoSmall }

/-- 'dasdlaw27.UpgradeUnique', WHERE WHAT IT READS IS OF BULK AT MOST 1048576: true; the input reads as it did. -/
def upgradeUniqueUptoRow : OpenClaim := { program := "ytmbinhhlfbgiaaagreat", sum := "e177558e1191deae01260d7a55382aae4feda056eb8f4ba04b22dd9e2083f526", func := "dasd/dasdlaw27.UpgradeUnique", spec := "upgradeUnique", inPlace := ["internal/abi.NoEscape", "internal/bytealg.MakeNoZero"], unfollowed := true, recurses := true, apart := false, narrowed := true }
def UpgradeUniqueUptoSaid : Prop := upgradeUniqueUptoRow.holds Tryz.pinned (OpenSpec.upto upgradeUniqueSpec)

/-- 'dasdlaw27.UpgradeKeeps', WHERE WHAT IT READS IS OF BULK AT MOST 1048576: true; the input reads as it did. -/
def upgradeKeepsUptoRow : OpenClaim := { program := "ytmbinhhlfbgiaaagreat", sum := "e177558e1191deae01260d7a55382aae4feda056eb8f4ba04b22dd9e2083f526", func := "dasd/dasdlaw27.UpgradeKeeps", spec := "upgradeKeeps", inPlace := ["internal/abi.NoEscape", "internal/bytealg.MakeNoZero"], unfollowed := true, recurses := true, apart := false, narrowed := true }
def UpgradeKeepsUptoSaid : Prop := upgradeKeepsUptoRow.holds Tryz.pinned (OpenSpec.upto upgradeKeepsSpec)

end Rows
end Go.Proofs.YtmbinhhlfbgiaaaGreat
