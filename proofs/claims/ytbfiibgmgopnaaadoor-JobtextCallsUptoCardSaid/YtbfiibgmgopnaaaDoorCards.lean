/-
  DERIVED. GIVEN WITH THE SEED: THE CARDS: each row of YtbfiibgmgopnaaaDoorRows.lean that lists a variable, with what it lists TIED to the program's text (the seventh form; the later family's looks); each row that meets fmt, with fmt's text TOLD by the authors' own Lean function (tested against real Go, not proved from fmt's source: count such statements apart). THE CARD IS WHAT COUNTS. Prove the row's statement (the work); the ties are given (YtbfiibgmgopnaaaDoorTie.lean); close each card by the builder's one call (the guide's Derived/Test/ToyasCard.lean, 'card_holds'). Laid BY PROGRAM, IN A SANDBOX (cutbox-door.mjs). By AI agents, Wed Nov 11 2026. No macro, syntax, notation, axiom, sorry.
-/
import Derived.Test.YtbfiibgmgopnaaaDoorRows
import GoSem.ClaimSeven
namespace Go.Proofs.YtbfiibgmgopnaaaDoor
namespace Rows

/-- THE TIED CARD OF 'dasdlaw39.JobtextLines'. -/
def jobtextLinesCard : Claim7 := { stood := { row := jobtextLinesRow, standIns := [], harness := (true, "28e7bfe22aa8be8d4f36a2028b33350f6faa753e6b3ede4948a2cf3f8780ef11"), looks := true }, kinds := [], alts := [], laidByText := true, laidKinds := [.data, .pinned], laidTests := true, laidLooks := .later }
def JobtextLinesCardSaid : Prop := Claim7.holds Tryd.pinned (.plain (OpenSpec.ofChange jobtextLinesSpec)) jobtextLinesCard

/-- THE TIED CARD OF 'dasdlaw39.JobtextSymbols'. -/
def jobtextSymbolsCard : Claim7 := { stood := { row := jobtextSymbolsRow, standIns := [], harness := (true, "28e7bfe22aa8be8d4f36a2028b33350f6faa753e6b3ede4948a2cf3f8780ef11"), looks := true }, kinds := [], alts := [], laidByText := true, laidKinds := [.data, .pinned], laidTests := true, laidLooks := .later }
def JobtextSymbolsCardSaid : Prop := Claim7.holds Tryd.pinned (.plain (OpenSpec.ofChange jobtextSymbolsSpec)) jobtextSymbolsCard

/-- THE TIED CARD OF 'dasdlaw39.JobtextCalls'. -/
def jobtextCallsCard : Claim7 := { stood := { row := jobtextCallsRow, standIns := [], harness := (true, "28e7bfe22aa8be8d4f36a2028b33350f6faa753e6b3ede4948a2cf3f8780ef11"), looks := true }, kinds := [], alts := [], laidByText := true, laidKinds := [.data, .pinned], laidTests := true, laidLooks := .later }
def JobtextCallsCardSaid : Prop := Claim7.holds Tryd.pinned (.plain (OpenSpec.ofChange jobtextCallsSpec)) jobtextCallsCard

/-- THE TIED CARD OF 'dasdlaw39.JobtextData'. -/
def jobtextDataCard : Claim7 := { stood := { row := jobtextDataRow, standIns := [], harness := (true, "28e7bfe22aa8be8d4f36a2028b33350f6faa753e6b3ede4948a2cf3f8780ef11"), looks := true }, kinds := [], alts := [], laidByText := true, laidKinds := [.data, .pinned], laidTests := true, laidLooks := .later }
def JobtextDataCardSaid : Prop := Claim7.holds Tryd.pinned (.plain (OpenSpec.ofChange jobtextDataSpec)) jobtextDataCard

/-- THE TIED CARD OF 'dasdlaw39.JobtextWords'. -/
def jobtextWordsCard : Claim7 := { stood := { row := jobtextWordsRow, standIns := [], harness := (true, "28e7bfe22aa8be8d4f36a2028b33350f6faa753e6b3ede4948a2cf3f8780ef11"), looks := true }, kinds := [], alts := [], laidByText := true, laidKinds := [.data, .pinned], laidTests := true, laidLooks := .later }
def JobtextWordsCardSaid : Prop := Claim7.holds Tryd.pinned (.plain (OpenSpec.ofChange jobtextWordsSpec)) jobtextWordsCard

/-- THE TIED CARD OF 'dasdlaw39.JobtextIdle'. -/
def jobtextIdleCard : Claim7 := { stood := { row := jobtextIdleRow, standIns := [], harness := (true, "28e7bfe22aa8be8d4f36a2028b33350f6faa753e6b3ede4948a2cf3f8780ef11"), looks := true }, kinds := [], alts := [], laidByText := true, laidKinds := [.data, .pinned], laidTests := true, laidLooks := .later }
def JobtextIdleCardSaid : Prop := Claim7.holds Tryd.pinned (.plain (OpenSpec.ofChange jobtextIdleSpec)) jobtextIdleCard

/-- THE SECOND FORM's CARD OF 'dasdlaw39.JobtextLines'. -/
def jobtextLinesUptoCard : Claim7 := { stood := { row := jobtextLinesUptoRow, standIns := [], harness := (true, "28e7bfe22aa8be8d4f36a2028b33350f6faa753e6b3ede4948a2cf3f8780ef11"), looks := true }, kinds := [], alts := [], laidByText := true, laidKinds := [.data, .pinned], laidTests := true, laidLooks := .later }
def JobtextLinesUptoCardSaid : Prop := Claim7.holds Tryd.pinned (.plain (OpenSpec.upto jobtextLinesSpec)) jobtextLinesUptoCard

/-- THE SECOND FORM's CARD OF 'dasdlaw39.JobtextSymbols'. -/
def jobtextSymbolsUptoCard : Claim7 := { stood := { row := jobtextSymbolsUptoRow, standIns := [], harness := (true, "28e7bfe22aa8be8d4f36a2028b33350f6faa753e6b3ede4948a2cf3f8780ef11"), looks := true }, kinds := [], alts := [], laidByText := true, laidKinds := [.data, .pinned], laidTests := true, laidLooks := .later }
def JobtextSymbolsUptoCardSaid : Prop := Claim7.holds Tryd.pinned (.plain (OpenSpec.upto jobtextSymbolsSpec)) jobtextSymbolsUptoCard

/-- THE SECOND FORM's CARD OF 'dasdlaw39.JobtextCalls'. -/
def jobtextCallsUptoCard : Claim7 := { stood := { row := jobtextCallsUptoRow, standIns := [], harness := (true, "28e7bfe22aa8be8d4f36a2028b33350f6faa753e6b3ede4948a2cf3f8780ef11"), looks := true }, kinds := [], alts := [], laidByText := true, laidKinds := [.data, .pinned], laidTests := true, laidLooks := .later }
def JobtextCallsUptoCardSaid : Prop := Claim7.holds Tryd.pinned (.plain (OpenSpec.upto jobtextCallsSpec)) jobtextCallsUptoCard

/-- THE SECOND FORM's CARD OF 'dasdlaw39.JobtextData'. -/
def jobtextDataUptoCard : Claim7 := { stood := { row := jobtextDataUptoRow, standIns := [], harness := (true, "28e7bfe22aa8be8d4f36a2028b33350f6faa753e6b3ede4948a2cf3f8780ef11"), looks := true }, kinds := [], alts := [], laidByText := true, laidKinds := [.data, .pinned], laidTests := true, laidLooks := .later }
def JobtextDataUptoCardSaid : Prop := Claim7.holds Tryd.pinned (.plain (OpenSpec.upto jobtextDataSpec)) jobtextDataUptoCard

/-- THE SECOND FORM's CARD OF 'dasdlaw39.JobtextWords'. -/
def jobtextWordsUptoCard : Claim7 := { stood := { row := jobtextWordsUptoRow, standIns := [], harness := (true, "28e7bfe22aa8be8d4f36a2028b33350f6faa753e6b3ede4948a2cf3f8780ef11"), looks := true }, kinds := [], alts := [], laidByText := true, laidKinds := [.data, .pinned], laidTests := true, laidLooks := .later }
def JobtextWordsUptoCardSaid : Prop := Claim7.holds Tryd.pinned (.plain (OpenSpec.upto jobtextWordsSpec)) jobtextWordsUptoCard

/-- THE SECOND FORM's CARD OF 'dasdlaw39.JobtextIdle'. -/
def jobtextIdleUptoCard : Claim7 := { stood := { row := jobtextIdleUptoRow, standIns := [], harness := (true, "28e7bfe22aa8be8d4f36a2028b33350f6faa753e6b3ede4948a2cf3f8780ef11"), looks := true }, kinds := [], alts := [], laidByText := true, laidKinds := [.data, .pinned], laidTests := true, laidLooks := .later }
def JobtextIdleUptoCardSaid : Prop := Claim7.holds Tryd.pinned (.plain (OpenSpec.upto jobtextIdleSpec)) jobtextIdleUptoCard
end Rows
end Go.Proofs.YtbfiibgmgopnaaaDoor
