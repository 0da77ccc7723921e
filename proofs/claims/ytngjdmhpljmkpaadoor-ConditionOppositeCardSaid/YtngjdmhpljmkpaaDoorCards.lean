/-
  DERIVED. GIVEN WITH THE SEED: THE CARDS: each row of YtngjdmhpljmkpaaDoorRows.lean that lists a variable, with what it lists TIED to the program's text (the seventh form; the later family's looks); each row that meets fmt, with fmt's text TOLD by the authors' own Lean function (tested against real Go, not proved from fmt's source: count such statements apart). THE CARD IS WHAT COUNTS. Prove the row's statement (the work); the ties are given (YtngjdmhpljmkpaaDoorTie.lean); close each card by the builder's one call (the guide's Derived/Test/ToyasCard.lean, 'card_holds'). Laid BY PROGRAM, IN A SANDBOX (cutbox-door.mjs). By AI agents, Wed Nov 11 2026. No macro, syntax, notation, axiom, sorry.
-/
import Derived.Test.YtngjdmhpljmkpaaDoorRows
import GoSem.ClaimSeven
namespace Go.Proofs.YtngjdmhpljmkpaaDoor
namespace Rows

/-- THE TIED CARD OF 'dasdlaw40.ConditionParts'. -/
def conditionPartsCard : Claim7 := { stood := { row := conditionPartsRow, standIns := [], harness := (true, "f2aaf18467918638ff5a4425ce59368da7296307a268aa8dff1f3a79ce51fa91"), looks := true }, kinds := [], alts := [], laidByText := true, laidKinds := [.data, .data, .data, .data, .sentinel, .sentinel, .pinned], laidTests := true, laidLooks := .later }
def ConditionPartsCardSaid : Prop := Claim7.holds Tryd.pinned (.plain (OpenSpec.ofChange conditionPartsSpec)) conditionPartsCard

/-- THE TIED CARD OF 'dasdlaw40.ConditionOpposite'. -/
def conditionOppositeCard : Claim7 := { stood := { row := conditionOppositeRow, standIns := [], harness := (true, "f2aaf18467918638ff5a4425ce59368da7296307a268aa8dff1f3a79ce51fa91"), looks := true }, kinds := [], alts := [], laidByText := true, laidKinds := [.data, .data, .data, .data, .sentinel, .sentinel, .pinned], laidTests := true, laidLooks := .later }
def ConditionOppositeCardSaid : Prop := Claim7.holds Tryd.pinned (.plain (OpenSpec.ofChange conditionOppositeSpec)) conditionOppositeCard

/-- THE SECOND FORM's CARD OF 'dasdlaw40.ConditionParts'. -/
def conditionPartsUptoCard : Claim7 := { stood := { row := conditionPartsUptoRow, standIns := [], harness := (true, "f2aaf18467918638ff5a4425ce59368da7296307a268aa8dff1f3a79ce51fa91"), looks := true }, kinds := [], alts := [], laidByText := true, laidKinds := [.data, .data, .data, .data, .sentinel, .sentinel, .pinned], laidTests := true, laidLooks := .later }
def ConditionPartsUptoCardSaid : Prop := Claim7.holds Tryd.pinned (.plain (OpenSpec.upto conditionPartsSpec)) conditionPartsUptoCard

/-- THE SECOND FORM's CARD OF 'dasdlaw40.ConditionOpposite'. -/
def conditionOppositeUptoCard : Claim7 := { stood := { row := conditionOppositeUptoRow, standIns := [], harness := (true, "f2aaf18467918638ff5a4425ce59368da7296307a268aa8dff1f3a79ce51fa91"), looks := true }, kinds := [], alts := [], laidByText := true, laidKinds := [.data, .data, .data, .data, .sentinel, .sentinel, .pinned], laidTests := true, laidLooks := .later }
def ConditionOppositeUptoCardSaid : Prop := Claim7.holds Tryd.pinned (.plain (OpenSpec.upto conditionOppositeSpec)) conditionOppositeUptoCard
end Rows
end Go.Proofs.YtngjdmhpljmkpaaDoor
