/-
  DERIVED. GIVEN WITH THE SEED: THE CARDS: each row of YtggobegaiijhhaaGreatDoorRows.lean that lists a variable, with what it lists TIED to the program's text (the seventh form; the later family's looks); each row that meets fmt, with fmt's text TOLD by the authors' own Lean function (tested against real Go, not proved from fmt's source: count such statements apart). THE CARD IS WHAT COUNTS. Prove the row's statement (the work); the ties are given (YtggobegaiijhhaaGreatDoorTie.lean); close each card by the builder's one call (the guide's Derived/Test/ToyasCard.lean, 'card_holds'). Laid BY PROGRAM, IN A SANDBOX (cutbox-door.mjs). By AI agents, Wed Nov 11 2026. No macro, syntax, notation, axiom, sorry.
-/
import Derived.Test.YtggobegaiijhhaaGreatDoorRows
import GoSem.ClaimSeven
namespace Go.Proofs.YtggobegaiijhhaaGreatDoor
namespace Rows

/-- THE TIED CARD OF 'dasdlaw45.UtilityRecords'. -/
def utilityRecordsCard : Claim7 := { stood := { row := utilityRecordsRow, standIns := [], harness := (true, "d1ab30f6b4d5430c5a50232bf7e0c2049563ba7bfac643757ad7dc367ae84cee"), looks := true }, kinds := [], alts := [], laidByText := true, laidKinds := [.data, .data, .data, .data, .sentinel, .sentinel, .pinned], laidTests := true, laidLooks := .later }
def UtilityRecordsCardSaid : Prop := Claim7.holds Tryz.pinned (.plain (OpenSpec.ofChange utilityRecordsSpec)) utilityRecordsCard

/-- THE TIED CARD OF 'dasdlaw45.UtilityErrors'. -/
def utilityErrorsCard : Claim7 := { stood := { row := utilityErrorsRow, standIns := [], harness := (true, "d1ab30f6b4d5430c5a50232bf7e0c2049563ba7bfac643757ad7dc367ae84cee"), looks := true }, kinds := [], alts := [], laidByText := true, laidKinds := [.data, .data, .data, .data, .sentinel, .sentinel, .pinned], laidTests := true, laidLooks := .later }
def UtilityErrorsCardSaid : Prop := Claim7.holds Tryz.pinned (.plain (OpenSpec.ofChange utilityErrorsSpec)) utilityErrorsCard

/-- THE TIED CARD OF 'dasdlaw45.UtilityCopies'. -/
def utilityCopiesCard : Claim7 := { stood := { row := utilityCopiesRow, standIns := [], harness := (true, "d1ab30f6b4d5430c5a50232bf7e0c2049563ba7bfac643757ad7dc367ae84cee"), looks := true }, kinds := [], alts := [], laidByText := true, laidKinds := [.data, .data, .data, .data, .sentinel, .sentinel, .pinned], laidTests := true, laidLooks := .later }
def UtilityCopiesCardSaid : Prop := Claim7.holds Tryz.pinned (.plain (OpenSpec.ofChange utilityCopiesSpec)) utilityCopiesCard

/-- THE TIED CARD OF 'dasdlaw45.UtilitySorts'. -/
def utilitySortsCard : Claim7 := { stood := { row := utilitySortsRow, standIns := [], harness := (true, "d1ab30f6b4d5430c5a50232bf7e0c2049563ba7bfac643757ad7dc367ae84cee"), looks := true }, kinds := [], alts := [], laidByText := true, laidKinds := [.data, .data, .data, .data, .sentinel, .sentinel, .pinned], laidTests := true, laidLooks := .later }
def UtilitySortsCardSaid : Prop := Claim7.holds Tryz.pinned (.plain (OpenSpec.ofChange utilitySortsSpec)) utilitySortsCard

/-- THE TIED CARD OF 'dasdlaw45.UtilityOnly'. -/
def utilityOnlyCard : Claim7 := { stood := { row := utilityOnlyRow, standIns := [], harness := (true, "d1ab30f6b4d5430c5a50232bf7e0c2049563ba7bfac643757ad7dc367ae84cee"), looks := true }, kinds := [], alts := [], laidByText := true, laidKinds := [.data, .data, .data, .data, .sentinel, .sentinel, .pinned], laidTests := true, laidLooks := .later }
def UtilityOnlyCardSaid : Prop := Claim7.holds Tryz.pinned (.plain (OpenSpec.ofChange utilityOnlySpec)) utilityOnlyCard

/-- THE SECOND FORM's CARD OF 'dasdlaw45.UtilityRecords'. -/
def utilityRecordsUptoCard : Claim7 := { stood := { row := utilityRecordsUptoRow, standIns := [], harness := (true, "d1ab30f6b4d5430c5a50232bf7e0c2049563ba7bfac643757ad7dc367ae84cee"), looks := true }, kinds := [], alts := [], laidByText := true, laidKinds := [.data, .data, .data, .data, .sentinel, .sentinel, .pinned], laidTests := true, laidLooks := .later }
def UtilityRecordsUptoCardSaid : Prop := Claim7.holds Tryz.pinned (.plain (OpenSpec.upto utilityRecordsSpec)) utilityRecordsUptoCard

/-- THE SECOND FORM's CARD OF 'dasdlaw45.UtilityErrors'. -/
def utilityErrorsUptoCard : Claim7 := { stood := { row := utilityErrorsUptoRow, standIns := [], harness := (true, "d1ab30f6b4d5430c5a50232bf7e0c2049563ba7bfac643757ad7dc367ae84cee"), looks := true }, kinds := [], alts := [], laidByText := true, laidKinds := [.data, .data, .data, .data, .sentinel, .sentinel, .pinned], laidTests := true, laidLooks := .later }
def UtilityErrorsUptoCardSaid : Prop := Claim7.holds Tryz.pinned (.plain (OpenSpec.upto utilityErrorsSpec)) utilityErrorsUptoCard

/-- THE SECOND FORM's CARD OF 'dasdlaw45.UtilityCopies'. -/
def utilityCopiesUptoCard : Claim7 := { stood := { row := utilityCopiesUptoRow, standIns := [], harness := (true, "d1ab30f6b4d5430c5a50232bf7e0c2049563ba7bfac643757ad7dc367ae84cee"), looks := true }, kinds := [], alts := [], laidByText := true, laidKinds := [.data, .data, .data, .data, .sentinel, .sentinel, .pinned], laidTests := true, laidLooks := .later }
def UtilityCopiesUptoCardSaid : Prop := Claim7.holds Tryz.pinned (.plain (OpenSpec.upto utilityCopiesSpec)) utilityCopiesUptoCard

/-- THE SECOND FORM's CARD OF 'dasdlaw45.UtilitySorts'. -/
def utilitySortsUptoCard : Claim7 := { stood := { row := utilitySortsUptoRow, standIns := [], harness := (true, "d1ab30f6b4d5430c5a50232bf7e0c2049563ba7bfac643757ad7dc367ae84cee"), looks := true }, kinds := [], alts := [], laidByText := true, laidKinds := [.data, .data, .data, .data, .sentinel, .sentinel, .pinned], laidTests := true, laidLooks := .later }
def UtilitySortsUptoCardSaid : Prop := Claim7.holds Tryz.pinned (.plain (OpenSpec.upto utilitySortsSpec)) utilitySortsUptoCard

/-- THE SECOND FORM's CARD OF 'dasdlaw45.UtilityOnly'. -/
def utilityOnlyUptoCard : Claim7 := { stood := { row := utilityOnlyUptoRow, standIns := [], harness := (true, "d1ab30f6b4d5430c5a50232bf7e0c2049563ba7bfac643757ad7dc367ae84cee"), looks := true }, kinds := [], alts := [], laidByText := true, laidKinds := [.data, .data, .data, .data, .sentinel, .sentinel, .pinned], laidTests := true, laidLooks := .later }
def UtilityOnlyUptoCardSaid : Prop := Claim7.holds Tryz.pinned (.plain (OpenSpec.upto utilityOnlySpec)) utilityOnlyUptoCard
end Rows
end Go.Proofs.YtggobegaiijhhaaGreatDoor
