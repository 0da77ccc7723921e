/-
  DERIVED. GIVEN WITH THE SEED: THE CARDS: each row of YtngjdmhpljmkpaaGreatDoorRows.lean that lists a variable, with what it lists TIED to the program's text (the seventh form; the later family's looks); each row that meets fmt, with fmt's text TOLD by the authors' own Lean function (tested against real Go, not proved from fmt's source: count such statements apart). THE CARD IS WHAT COUNTS. Prove the row's statement (the work); the ties are given (YtngjdmhpljmkpaaGreatDoorTie.lean); close each card by the builder's one call (the guide's Derived/Test/ToyasCard.lean, 'card_holds'). Laid BY PROGRAM, IN A SANDBOX (cutbox-door.mjs). By AI agents, Wed Nov 11 2026. No macro, syntax, notation, axiom, sorry.
-/
import Derived.Test.YtngjdmhpljmkpaaGreatDoorRows
import GoSem.ClaimSeven
namespace Go.Proofs.YtngjdmhpljmkpaaGreatDoor
namespace Rows

/-- THE TIED CARD OF 'dasdlaw40.ConditionWords'. -/
def conditionWordsCard : Claim7 := { stood := { row := conditionWordsRow, standIns := [], harness := (true, "3ba95d1429463b6113a4f3471efbf9d5934353d33e2f31e962c2f4c844f8c4de"), looks := true }, kinds := [], alts := [], laidByText := true, laidKinds := [.data, .data, .data, .data, .sentinel, .sentinel, .pinned], laidTests := true, laidLooks := .later }
def ConditionWordsCardSaid : Prop := Claim7.holds Tryz.pinned (.plain (OpenSpec.ofChange conditionWordsSpec)) conditionWordsCard

/-- THE TIED CARD OF 'dasdlaw40.ConditionValues'. -/
def conditionValuesCard : Claim7 := { stood := { row := conditionValuesRow, standIns := [], harness := (true, "3ba95d1429463b6113a4f3471efbf9d5934353d33e2f31e962c2f4c844f8c4de"), looks := true }, kinds := [], alts := [], laidByText := true, laidKinds := [.data, .data, .data, .data, .sentinel, .sentinel, .pinned], laidTests := true, laidLooks := .later }
def ConditionValuesCardSaid : Prop := Claim7.holds Tryz.pinned (.plain (OpenSpec.ofChange conditionValuesSpec)) conditionValuesCard

/-- THE TIED CARD OF 'dasdlaw40.ConditionReturns'. -/
def conditionReturnsCard : Claim7 := { stood := { row := conditionReturnsRow, standIns := [], harness := (true, "3ba95d1429463b6113a4f3471efbf9d5934353d33e2f31e962c2f4c844f8c4de"), looks := true }, kinds := [], alts := [], laidByText := true, laidKinds := [.data, .data, .data, .data, .sentinel, .sentinel, .pinned], laidTests := true, laidLooks := .later }
def ConditionReturnsCardSaid : Prop := Claim7.holds Tryz.pinned (.plain (OpenSpec.ofChange conditionReturnsSpec)) conditionReturnsCard

/-- THE SECOND FORM's CARD OF 'dasdlaw40.ConditionWords'. -/
def conditionWordsUptoCard : Claim7 := { stood := { row := conditionWordsUptoRow, standIns := [], harness := (true, "3ba95d1429463b6113a4f3471efbf9d5934353d33e2f31e962c2f4c844f8c4de"), looks := true }, kinds := [], alts := [], laidByText := true, laidKinds := [.data, .data, .data, .data, .sentinel, .sentinel, .pinned], laidTests := true, laidLooks := .later }
def ConditionWordsUptoCardSaid : Prop := Claim7.holds Tryz.pinned (.plain (OpenSpec.upto conditionWordsSpec)) conditionWordsUptoCard

/-- THE SECOND FORM's CARD OF 'dasdlaw40.ConditionValues'. -/
def conditionValuesUptoCard : Claim7 := { stood := { row := conditionValuesUptoRow, standIns := [], harness := (true, "3ba95d1429463b6113a4f3471efbf9d5934353d33e2f31e962c2f4c844f8c4de"), looks := true }, kinds := [], alts := [], laidByText := true, laidKinds := [.data, .data, .data, .data, .sentinel, .sentinel, .pinned], laidTests := true, laidLooks := .later }
def ConditionValuesUptoCardSaid : Prop := Claim7.holds Tryz.pinned (.plain (OpenSpec.upto conditionValuesSpec)) conditionValuesUptoCard

/-- THE SECOND FORM's CARD OF 'dasdlaw40.ConditionReturns'. -/
def conditionReturnsUptoCard : Claim7 := { stood := { row := conditionReturnsUptoRow, standIns := [], harness := (true, "3ba95d1429463b6113a4f3471efbf9d5934353d33e2f31e962c2f4c844f8c4de"), looks := true }, kinds := [], alts := [], laidByText := true, laidKinds := [.data, .data, .data, .data, .sentinel, .sentinel, .pinned], laidTests := true, laidLooks := .later }
def ConditionReturnsUptoCardSaid : Prop := Claim7.holds Tryz.pinned (.plain (OpenSpec.upto conditionReturnsSpec)) conditionReturnsUptoCard
end Rows
end Go.Proofs.YtngjdmhpljmkpaaGreatDoor
