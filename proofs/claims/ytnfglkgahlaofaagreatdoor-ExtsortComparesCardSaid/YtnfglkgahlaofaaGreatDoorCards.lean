/-
  DERIVED. GIVEN WITH THE SEED: THE CARDS: each row of YtnfglkgahlaofaaGreatDoorRows.lean that lists a variable, with what it lists TIED to the program's text (the seventh form; the later family's looks); each row that meets fmt, with fmt's text TOLD by the authors' own Lean function (tested against real Go, not proved from fmt's source: count such statements apart). THE CARD IS WHAT COUNTS. Prove the row's statement (the work); the ties are given (YtnfglkgahlaofaaGreatDoorTie.lean); close each card by the builder's one call (the guide's Derived/Test/ToyasCard.lean, 'card_holds'). Laid BY PROGRAM, IN A SANDBOX (cutbox-door.mjs). By AI agents, Wed Nov 11 2026. No macro, syntax, notation, axiom, sorry.
-/
import Derived.Test.YtnfglkgahlaofaaGreatDoorRows
import GoSem.ClaimSeven
namespace Go.Proofs.YtnfglkgahlaofaaGreatDoor
namespace Rows

/-- THE TIED CARD OF 'dasdlaw44.ExtsortRuns'. -/
def extsortRunsCard : Claim7 := { stood := { row := extsortRunsRow, standIns := [], harness := (true, "fdac811157b575d4b6271be4ad10c689d527c9436d1e9245ac98b2f1786d128f"), looks := true }, kinds := [], alts := [], laidByText := true, laidKinds := [.data, .data, .data, .data, .sentinel, .sentinel, .pinned], laidTests := true, laidLooks := .later }
def ExtsortRunsCardSaid : Prop := Claim7.holds Tryz.pinned (.plain (OpenSpec.ofChange extsortRunsSpec)) extsortRunsCard

/-- THE TIED CARD OF 'dasdlaw44.ExtsortSorts'. -/
def extsortSortsCard : Claim7 := { stood := { row := extsortSortsRow, standIns := [], harness := (true, "fdac811157b575d4b6271be4ad10c689d527c9436d1e9245ac98b2f1786d128f"), looks := true }, kinds := [], alts := [], laidByText := true, laidKinds := [.data, .data, .data, .data, .sentinel, .sentinel, .pinned], laidTests := true, laidLooks := .later }
def ExtsortSortsCardSaid : Prop := Claim7.holds Tryz.pinned (.plain (OpenSpec.ofChange extsortSortsSpec)) extsortSortsCard

/-- THE TIED CARD OF 'dasdlaw44.ExtsortPlans'. -/
def extsortPlansCard : Claim7 := { stood := { row := extsortPlansRow, standIns := [], harness := (true, "fdac811157b575d4b6271be4ad10c689d527c9436d1e9245ac98b2f1786d128f"), looks := true }, kinds := [], alts := [], laidByText := true, laidKinds := [.data, .data, .data, .data, .sentinel, .sentinel, .pinned], laidTests := true, laidLooks := .later }
def ExtsortPlansCardSaid : Prop := Claim7.holds Tryz.pinned (.plain (OpenSpec.ofChange extsortPlansSpec)) extsortPlansCard

/-- THE TIED CARD OF 'dasdlaw44.ExtsortOrder'. -/
def extsortOrderCard : Claim7 := { stood := { row := extsortOrderRow, standIns := [], harness := (true, "fdac811157b575d4b6271be4ad10c689d527c9436d1e9245ac98b2f1786d128f"), looks := true }, kinds := [], alts := [], laidByText := true, laidKinds := [.data, .data, .data, .data, .sentinel, .sentinel, .pinned], laidTests := true, laidLooks := .later }
def ExtsortOrderCardSaid : Prop := Claim7.holds Tryz.pinned (.plain (OpenSpec.ofChange extsortOrderSpec)) extsortOrderCard

/-- THE TIED CARD OF 'dasdlaw44.ExtsortLong'. -/
def extsortLongCard : Claim7 := { stood := { row := extsortLongRow, standIns := [], harness := (true, "fdac811157b575d4b6271be4ad10c689d527c9436d1e9245ac98b2f1786d128f"), looks := true }, kinds := [], alts := [], laidByText := true, laidKinds := [.data, .data, .data, .data, .sentinel, .sentinel, .pinned], laidTests := true, laidLooks := .later }
def ExtsortLongCardSaid : Prop := Claim7.holds Tryz.pinned (.plain (OpenSpec.ofChange extsortLongSpec)) extsortLongCard

/-- THE TIED CARD OF 'dasdlaw44.ExtsortMerges'. -/
def extsortMergesCard : Claim7 := { stood := { row := extsortMergesRow, standIns := [], harness := (true, "fdac811157b575d4b6271be4ad10c689d527c9436d1e9245ac98b2f1786d128f"), looks := true }, kinds := [], alts := [], laidByText := true, laidKinds := [.data, .data, .data, .data, .sentinel, .sentinel, .pinned], laidTests := true, laidLooks := .later }
def ExtsortMergesCardSaid : Prop := Claim7.holds Tryz.pinned (.plain (OpenSpec.ofChange extsortMergesSpec)) extsortMergesCard

/-- THE TIED CARD OF 'dasdlaw44.ExtsortCompares'. -/
def extsortComparesCard : Claim7 := { stood := { row := extsortComparesRow, standIns := [], harness := (true, "fdac811157b575d4b6271be4ad10c689d527c9436d1e9245ac98b2f1786d128f"), looks := true }, kinds := [], alts := [], laidByText := true, laidKinds := [.data, .data, .data, .data, .sentinel, .sentinel, .pinned], laidTests := true, laidLooks := .later }
def ExtsortComparesCardSaid : Prop := Claim7.holds Tryz.pinned (.plain (OpenSpec.ofChange extsortComparesSpec)) extsortComparesCard

/-- THE TIED CARD OF 'dasdlaw44.ExtsortTexts'. -/
def extsortTextsCard : Claim7 := { stood := { row := extsortTextsRow, standIns := [], harness := (true, "fdac811157b575d4b6271be4ad10c689d527c9436d1e9245ac98b2f1786d128f"), looks := true }, kinds := [], alts := [], laidByText := true, laidKinds := [.data, .data, .data, .data, .sentinel, .sentinel, .pinned], laidTests := true, laidLooks := .later }
def ExtsortTextsCardSaid : Prop := Claim7.holds Tryz.pinned (.plain (OpenSpec.ofChange extsortTextsSpec)) extsortTextsCard

/-- THE SECOND FORM's CARD OF 'dasdlaw44.ExtsortRuns'. -/
def extsortRunsUptoCard : Claim7 := { stood := { row := extsortRunsUptoRow, standIns := [], harness := (true, "fdac811157b575d4b6271be4ad10c689d527c9436d1e9245ac98b2f1786d128f"), looks := true }, kinds := [], alts := [], laidByText := true, laidKinds := [.data, .data, .data, .data, .sentinel, .sentinel, .pinned], laidTests := true, laidLooks := .later }
def ExtsortRunsUptoCardSaid : Prop := Claim7.holds Tryz.pinned (.plain (OpenSpec.upto extsortRunsSpec)) extsortRunsUptoCard

/-- THE SECOND FORM's CARD OF 'dasdlaw44.ExtsortSorts'. -/
def extsortSortsUptoCard : Claim7 := { stood := { row := extsortSortsUptoRow, standIns := [], harness := (true, "fdac811157b575d4b6271be4ad10c689d527c9436d1e9245ac98b2f1786d128f"), looks := true }, kinds := [], alts := [], laidByText := true, laidKinds := [.data, .data, .data, .data, .sentinel, .sentinel, .pinned], laidTests := true, laidLooks := .later }
def ExtsortSortsUptoCardSaid : Prop := Claim7.holds Tryz.pinned (.plain (OpenSpec.upto extsortSortsSpec)) extsortSortsUptoCard

/-- THE SECOND FORM's CARD OF 'dasdlaw44.ExtsortPlans'. -/
def extsortPlansUptoCard : Claim7 := { stood := { row := extsortPlansUptoRow, standIns := [], harness := (true, "fdac811157b575d4b6271be4ad10c689d527c9436d1e9245ac98b2f1786d128f"), looks := true }, kinds := [], alts := [], laidByText := true, laidKinds := [.data, .data, .data, .data, .sentinel, .sentinel, .pinned], laidTests := true, laidLooks := .later }
def ExtsortPlansUptoCardSaid : Prop := Claim7.holds Tryz.pinned (.plain (OpenSpec.upto extsortPlansSpec)) extsortPlansUptoCard

/-- THE SECOND FORM's CARD OF 'dasdlaw44.ExtsortOrder'. -/
def extsortOrderUptoCard : Claim7 := { stood := { row := extsortOrderUptoRow, standIns := [], harness := (true, "fdac811157b575d4b6271be4ad10c689d527c9436d1e9245ac98b2f1786d128f"), looks := true }, kinds := [], alts := [], laidByText := true, laidKinds := [.data, .data, .data, .data, .sentinel, .sentinel, .pinned], laidTests := true, laidLooks := .later }
def ExtsortOrderUptoCardSaid : Prop := Claim7.holds Tryz.pinned (.plain (OpenSpec.upto extsortOrderSpec)) extsortOrderUptoCard

/-- THE SECOND FORM's CARD OF 'dasdlaw44.ExtsortLong'. -/
def extsortLongUptoCard : Claim7 := { stood := { row := extsortLongUptoRow, standIns := [], harness := (true, "fdac811157b575d4b6271be4ad10c689d527c9436d1e9245ac98b2f1786d128f"), looks := true }, kinds := [], alts := [], laidByText := true, laidKinds := [.data, .data, .data, .data, .sentinel, .sentinel, .pinned], laidTests := true, laidLooks := .later }
def ExtsortLongUptoCardSaid : Prop := Claim7.holds Tryz.pinned (.plain (OpenSpec.upto extsortLongSpec)) extsortLongUptoCard

/-- THE SECOND FORM's CARD OF 'dasdlaw44.ExtsortMerges'. -/
def extsortMergesUptoCard : Claim7 := { stood := { row := extsortMergesUptoRow, standIns := [], harness := (true, "fdac811157b575d4b6271be4ad10c689d527c9436d1e9245ac98b2f1786d128f"), looks := true }, kinds := [], alts := [], laidByText := true, laidKinds := [.data, .data, .data, .data, .sentinel, .sentinel, .pinned], laidTests := true, laidLooks := .later }
def ExtsortMergesUptoCardSaid : Prop := Claim7.holds Tryz.pinned (.plain (OpenSpec.upto extsortMergesSpec)) extsortMergesUptoCard

/-- THE SECOND FORM's CARD OF 'dasdlaw44.ExtsortCompares'. -/
def extsortComparesUptoCard : Claim7 := { stood := { row := extsortComparesUptoRow, standIns := [], harness := (true, "fdac811157b575d4b6271be4ad10c689d527c9436d1e9245ac98b2f1786d128f"), looks := true }, kinds := [], alts := [], laidByText := true, laidKinds := [.data, .data, .data, .data, .sentinel, .sentinel, .pinned], laidTests := true, laidLooks := .later }
def ExtsortComparesUptoCardSaid : Prop := Claim7.holds Tryz.pinned (.plain (OpenSpec.upto extsortComparesSpec)) extsortComparesUptoCard

/-- THE SECOND FORM's CARD OF 'dasdlaw44.ExtsortTexts'. -/
def extsortTextsUptoCard : Claim7 := { stood := { row := extsortTextsUptoRow, standIns := [], harness := (true, "fdac811157b575d4b6271be4ad10c689d527c9436d1e9245ac98b2f1786d128f"), looks := true }, kinds := [], alts := [], laidByText := true, laidKinds := [.data, .data, .data, .data, .sentinel, .sentinel, .pinned], laidTests := true, laidLooks := .later }
def ExtsortTextsUptoCardSaid : Prop := Claim7.holds Tryz.pinned (.plain (OpenSpec.upto extsortTextsSpec)) extsortTextsUptoCard
end Rows
end Go.Proofs.YtnfglkgahlaofaaGreatDoor
