/-
  No cell of these rows narrows 'for every input' (looked for: loops, veiled, ifaces, maps, wideKeys, modest, calm, conditions, laid).
  DERIVED. THE GIVEN ROWS OF THIS SEAT. 4 by the template 'for every input the law returns true; each argument reads behind the call as it read before'; 0 by the template 'total and deterministic' (their statements: YtmbinhhlfbgiaaaTotals.lean).
  GIVEN WITH THE SEED: the statements are not yours to turn. If you find one false, say at which input.
  Laid BY PROGRAM, IN A SANDBOX (cutbox-rows.mjs): the forced cells as the released guide's own fill.sh prints them over the translation 0c0ce138e6a8d0f9… (all of the seat's roots in one cut). By AI agents, Wed Nov 11 2026. No macro, syntax, notation, axiom, sorry.
-/
import Derived.Test.YtmbinhhlfbgiaaaChecked
import GoSem.Claim
import GoSem.ClaimJoined
import GoSem.ClaimMapViews
import Derived.JoinedTies
import Derived.KernelRfl
namespace Go.Proofs.Ytmbinhhlfbgiaaa
/- THE CELL 'sum', in the pinned program and in every row, IS THE sha256 OF THE DUMP (.gsa) THAT YtmbinhhlfbgiaaaProg.lean LOADS. Nothing in Lean hashes anything: it is a label: what it is worth is what the hold of that sum in a sandbox is worth. -/
noncomputable def Try.pinned : Pinned := { name := "ytmbinhhlfbgiaaa", sum := "0c0ce138e6a8d0f98f7b6f9917615bba7443c06274170514ef115d654fbef081", checked := Try.checked }
namespace Rows
def none {H : Type} : Left H := { results := [], args := [] }

/-- 'dasdlaw27.UpgradePlans': WHATEVER THE INPUT: true; the input reads as it did. -/
def upgradePlansSpec : ChangeSpec := { name := "upgradePlans", fn := fun _ => fun
  | [d1, d2, d3, d4] => { results := [.lit (.bool true)], args := [d1, d2, d3, d4] }
  | _ => none }
def upgradePlansRow : OpenClaim := { program := "ytmbinhhlfbgiaaa", sum := "0c0ce138e6a8d0f98f7b6f9917615bba7443c06274170514ef115d654fbef081", func := "dasd/dasdlaw27.UpgradePlans", spec := "upgradePlans", inPlace := ["internal/abi.NoEscape", "internal/bytealg.MakeNoZero"], unfollowed := true, recurses := true, apart := false }
def UpgradePlansSaid : Prop := upgradePlansRow.holds Try.pinned (OpenSpec.ofChange upgradePlansSpec)

/-- ITS FALSE NEIGHBOUR: 'it returns false'. Refute it at one input. -/
def upgradePlansWrong : ChangeSpec := { name := "upgradePlans", fn := fun _ => fun
  | [d1, d2, d3, d4] => { results := [.lit (.bool false)], args := [d1, d2, d3, d4] }
  | _ => none }
def UpgradePlansWrongFalsely : Prop := upgradePlansRow.holds Try.pinned (OpenSpec.ofChange upgradePlansWrong)

/-- 'dasdlaw27.UpgradeBusy': WHATEVER THE INPUT: true; the input reads as it did. -/
def upgradeBusySpec : ChangeSpec := { name := "upgradeBusy", fn := fun _ => fun
  | [d1, d2, d3, d4, d5] => { results := [.lit (.bool true)], args := [d1, d2, d3, d4, d5] }
  | _ => none }
def upgradeBusyRow : OpenClaim := { program := "ytmbinhhlfbgiaaa", sum := "0c0ce138e6a8d0f98f7b6f9917615bba7443c06274170514ef115d654fbef081", func := "dasd/dasdlaw27.UpgradeBusy", spec := "upgradeBusy", inPlace := ["internal/abi.NoEscape", "internal/bytealg.MakeNoZero"], unfollowed := true, recurses := true, apart := false }
def UpgradeBusySaid : Prop := upgradeBusyRow.holds Try.pinned (OpenSpec.ofChange upgradeBusySpec)

/-- ITS FALSE NEIGHBOUR: 'it returns false'. Refute it at one input. -/
def upgradeBusyWrong : ChangeSpec := { name := "upgradeBusy", fn := fun _ => fun
  | [d1, d2, d3, d4, d5] => { results := [.lit (.bool false)], args := [d1, d2, d3, d4, d5] }
  | _ => none }
def UpgradeBusyWrongFalsely : Prop := upgradeBusyRow.holds Try.pinned (OpenSpec.ofChange upgradeBusyWrong)

/-- 'dasdlaw27.UpgradePaths': WHATEVER THE INPUT: true; the input reads as it did. -/
def upgradePathsSpec : ChangeSpec := { name := "upgradePaths", fn := fun _ => fun
  | [d1, d2, d3, d4] => { results := [.lit (.bool true)], args := [d1, d2, d3, d4] }
  | _ => none }
def upgradePathsRow : OpenClaim := { program := "ytmbinhhlfbgiaaa", sum := "0c0ce138e6a8d0f98f7b6f9917615bba7443c06274170514ef115d654fbef081", func := "dasd/dasdlaw27.UpgradePaths", spec := "upgradePaths", inPlace := ["internal/abi.NoEscape", "internal/bytealg.MakeNoZero"], unfollowed := true, recurses := true, apart := false }
def UpgradePathsSaid : Prop := upgradePathsRow.holds Try.pinned (OpenSpec.ofChange upgradePathsSpec)

/-- ITS FALSE NEIGHBOUR: 'it returns false'. Refute it at one input. -/
def upgradePathsWrong : ChangeSpec := { name := "upgradePaths", fn := fun _ => fun
  | [d1, d2, d3, d4] => { results := [.lit (.bool false)], args := [d1, d2, d3, d4] }
  | _ => none }
def UpgradePathsWrongFalsely : Prop := upgradePathsRow.holds Try.pinned (OpenSpec.ofChange upgradePathsWrong)

/-- 'dasdlaw27.UpgradeDifferences': WHATEVER THE INPUT: true; the input reads as it did. -/
def upgradeDifferencesSpec : ChangeSpec := { name := "upgradeDifferences", fn := fun _ => fun
  | [d1, d2, d3, d4, d5] => { results := [.lit (.bool true)], args := [d1, d2, d3, d4, d5] }
  | _ => none }
def upgradeDifferencesRow : OpenClaim := { program := "ytmbinhhlfbgiaaa", sum := "0c0ce138e6a8d0f98f7b6f9917615bba7443c06274170514ef115d654fbef081", func := "dasd/dasdlaw27.UpgradeDifferences", spec := "upgradeDifferences", inPlace := ["internal/abi.NoEscape", "internal/bytealg.MakeNoZero"], unfollowed := true, recurses := true, apart := false }
def UpgradeDifferencesSaid : Prop := upgradeDifferencesRow.holds Try.pinned (OpenSpec.ofChange upgradeDifferencesSpec)

/-- ITS FALSE NEIGHBOUR: 'it returns false'. Refute it at one input. -/
def upgradeDifferencesWrong : ChangeSpec := { name := "upgradeDifferences", fn := fun _ => fun
  | [d1, d2, d3, d4, d5] => { results := [.lit (.bool false)], args := [d1, d2, d3, d4, d5] }
  | _ => none }
def UpgradeDifferencesWrongFalsely : Prop := upgradeDifferencesRow.holds Try.pinned (OpenSpec.ofChange upgradeDifferencesWrong)

/- THE SECOND FORM. 'bulk': how many values and letters a reading holds, each counted each time it is reached (what is shared counts as often as it is met; a slice's spare places count too). A statement '..UptoSaid' is the law's where the arguments, and the package variables that the reading takes, are together of bulk at most 1048576: NARROWER than '..Said'. Prove '..Said' where nothing that the law and all that it calls make is longer than what came in: it says more and counts as full. Else prove '..UptoSaid'. A law counts once. -/
mutual
def uptoBulk {H : Type} : DataW H → Nat
  | .lit (.string bytes) => bytes.length + 1
  | .lit _ => 1
  | .nil => 1
  | .ptr d => uptoBulk d + 1
  | .slice elems spare => uptoBulkAll elems + uptoBulkAll spare + 1
  | .agg parts => uptoBulkAll parts + 1
  | .iface _ d => uptoBulk d + 1
  | .map entries => uptoBulkEntries entries + 1
  | .held _ => 1
def uptoBulkAll {H : Type} : List (DataW H) → Nat
  | [] => 0
  | d :: r => uptoBulk d + uptoBulkAll r
def uptoBulkEntries {H : Type} : List (Lit × DataW H) → Nat
  | [] => 0
  | x :: r => uptoBulkEntry x + uptoBulkEntries r
def uptoBulkEntry {H : Type} : Lit × DataW H → Nat
  | (.string bytes, d) => bytes.length + uptoBulk d + 1
  | (_, d) => uptoBulk d + 1
 end
def uptoSmall : (H : Type) → List (DataW H) → Bool := fun _ ds => decide (uptoBulkAll ds ≤ 1048576)
def OpenSpec.upto (s : _root_.Go.ChangeSpec) : _root_.Go.OpenSpec := { _root_.Go.OpenSpec.ofChange s with cond := some uptoSmall }

/-- 'dasdlaw27.UpgradePlans', WHERE WHAT IT READS IS OF BULK AT MOST 1048576: true; the input reads as it did. -/
def upgradePlansUptoRow : OpenClaim := { program := "ytmbinhhlfbgiaaa", sum := "0c0ce138e6a8d0f98f7b6f9917615bba7443c06274170514ef115d654fbef081", func := "dasd/dasdlaw27.UpgradePlans", spec := "upgradePlans", inPlace := ["internal/abi.NoEscape", "internal/bytealg.MakeNoZero"], unfollowed := true, recurses := true, apart := false, narrowed := true }
def UpgradePlansUptoSaid : Prop := upgradePlansUptoRow.holds Try.pinned (OpenSpec.upto upgradePlansSpec)

/-- 'dasdlaw27.UpgradeBusy', WHERE WHAT IT READS IS OF BULK AT MOST 1048576: true; the input reads as it did. -/
def upgradeBusyUptoRow : OpenClaim := { program := "ytmbinhhlfbgiaaa", sum := "0c0ce138e6a8d0f98f7b6f9917615bba7443c06274170514ef115d654fbef081", func := "dasd/dasdlaw27.UpgradeBusy", spec := "upgradeBusy", inPlace := ["internal/abi.NoEscape", "internal/bytealg.MakeNoZero"], unfollowed := true, recurses := true, apart := false, narrowed := true }
def UpgradeBusyUptoSaid : Prop := upgradeBusyUptoRow.holds Try.pinned (OpenSpec.upto upgradeBusySpec)

/-- 'dasdlaw27.UpgradePaths', WHERE WHAT IT READS IS OF BULK AT MOST 1048576: true; the input reads as it did. -/
def upgradePathsUptoRow : OpenClaim := { program := "ytmbinhhlfbgiaaa", sum := "0c0ce138e6a8d0f98f7b6f9917615bba7443c06274170514ef115d654fbef081", func := "dasd/dasdlaw27.UpgradePaths", spec := "upgradePaths", inPlace := ["internal/abi.NoEscape", "internal/bytealg.MakeNoZero"], unfollowed := true, recurses := true, apart := false, narrowed := true }
def UpgradePathsUptoSaid : Prop := upgradePathsUptoRow.holds Try.pinned (OpenSpec.upto upgradePathsSpec)

/-- 'dasdlaw27.UpgradeDifferences', WHERE WHAT IT READS IS OF BULK AT MOST 1048576: true; the input reads as it did. -/
def upgradeDifferencesUptoRow : OpenClaim := { program := "ytmbinhhlfbgiaaa", sum := "0c0ce138e6a8d0f98f7b6f9917615bba7443c06274170514ef115d654fbef081", func := "dasd/dasdlaw27.UpgradeDifferences", spec := "upgradeDifferences", inPlace := ["internal/abi.NoEscape", "internal/bytealg.MakeNoZero"], unfollowed := true, recurses := true, apart := false, narrowed := true }
def UpgradeDifferencesUptoSaid : Prop := upgradeDifferencesUptoRow.holds Try.pinned (OpenSpec.upto upgradeDifferencesSpec)

end Rows
end Go.Proofs.Ytmbinhhlfbgiaaa
