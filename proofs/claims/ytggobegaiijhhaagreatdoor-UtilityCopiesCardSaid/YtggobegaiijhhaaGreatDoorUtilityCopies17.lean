/- Cards, Tie in one text. -/
import Derived.Test.YtggobegaiijhhaaGreatDoorRows
import GoSem.ClaimSeven
import Derived.LaidByTextLater
import Derived.SevenTiedAt
import Derived.LaidSub
import Derived.LaidOnce
set_option linter.unusedVariables false
set_option linter.unusedSimpArgs false
namespace Go.Proofs.YtggobegaiijhhaaGreatDoor
namespace Rows
def utilityRecordsCard : Claim7 := { stood := { row := utilityRecordsRow, standIns := [], harness := (true, "d1ab30f6b4d5430c5a50232bf7e0c2049563ba7bfac643757ad7dc367ae84cee"), looks := true }, kinds := [], alts := [], laidByText := true, laidKinds := [.data, .data, .data, .data, .sentinel, .sentinel, .pinned], laidTests := true, laidLooks := .later }
def UtilityRecordsCardSaid : Prop := Claim7.holds Tryz.pinned (.plain (OpenSpec.ofChange utilityRecordsSpec)) utilityRecordsCard
def utilityErrorsCard : Claim7 := { stood := { row := utilityErrorsRow, standIns := [], harness := (true, "d1ab30f6b4d5430c5a50232bf7e0c2049563ba7bfac643757ad7dc367ae84cee"), looks := true }, kinds := [], alts := [], laidByText := true, laidKinds := [.data, .data, .data, .data, .sentinel, .sentinel, .pinned], laidTests := true, laidLooks := .later }
def UtilityErrorsCardSaid : Prop := Claim7.holds Tryz.pinned (.plain (OpenSpec.ofChange utilityErrorsSpec)) utilityErrorsCard
def utilityCopiesCard : Claim7 := { stood := { row := utilityCopiesRow, standIns := [], harness := (true, "d1ab30f6b4d5430c5a50232bf7e0c2049563ba7bfac643757ad7dc367ae84cee"), looks := true }, kinds := [], alts := [], laidByText := true, laidKinds := [.data, .data, .data, .data, .sentinel, .sentinel, .pinned], laidTests := true, laidLooks := .later }
def UtilityCopiesCardSaid : Prop := Claim7.holds Tryz.pinned (.plain (OpenSpec.ofChange utilityCopiesSpec)) utilityCopiesCard
def utilitySortsCard : Claim7 := { stood := { row := utilitySortsRow, standIns := [], harness := (true, "d1ab30f6b4d5430c5a50232bf7e0c2049563ba7bfac643757ad7dc367ae84cee"), looks := true }, kinds := [], alts := [], laidByText := true, laidKinds := [.data, .data, .data, .data, .sentinel, .sentinel, .pinned], laidTests := true, laidLooks := .later }
def UtilitySortsCardSaid : Prop := Claim7.holds Tryz.pinned (.plain (OpenSpec.ofChange utilitySortsSpec)) utilitySortsCard
def utilityOnlyCard : Claim7 := { stood := { row := utilityOnlyRow, standIns := [], harness := (true, "d1ab30f6b4d5430c5a50232bf7e0c2049563ba7bfac643757ad7dc367ae84cee"), looks := true }, kinds := [], alts := [], laidByText := true, laidKinds := [.data, .data, .data, .data, .sentinel, .sentinel, .pinned], laidTests := true, laidLooks := .later }
def UtilityOnlyCardSaid : Prop := Claim7.holds Tryz.pinned (.plain (OpenSpec.ofChange utilityOnlySpec)) utilityOnlyCard
def utilityRecordsUptoCard : Claim7 := { stood := { row := utilityRecordsUptoRow, standIns := [], harness := (true, "d1ab30f6b4d5430c5a50232bf7e0c2049563ba7bfac643757ad7dc367ae84cee"), looks := true }, kinds := [], alts := [], laidByText := true, laidKinds := [.data, .data, .data, .data, .sentinel, .sentinel, .pinned], laidTests := true, laidLooks := .later }
def UtilityRecordsUptoCardSaid : Prop := Claim7.holds Tryz.pinned (.plain (OpenSpec.upto utilityRecordsSpec)) utilityRecordsUptoCard
def utilityErrorsUptoCard : Claim7 := { stood := { row := utilityErrorsUptoRow, standIns := [], harness := (true, "d1ab30f6b4d5430c5a50232bf7e0c2049563ba7bfac643757ad7dc367ae84cee"), looks := true }, kinds := [], alts := [], laidByText := true, laidKinds := [.data, .data, .data, .data, .sentinel, .sentinel, .pinned], laidTests := true, laidLooks := .later }
def UtilityErrorsUptoCardSaid : Prop := Claim7.holds Tryz.pinned (.plain (OpenSpec.upto utilityErrorsSpec)) utilityErrorsUptoCard
def utilityCopiesUptoCard : Claim7 := { stood := { row := utilityCopiesUptoRow, standIns := [], harness := (true, "d1ab30f6b4d5430c5a50232bf7e0c2049563ba7bfac643757ad7dc367ae84cee"), looks := true }, kinds := [], alts := [], laidByText := true, laidKinds := [.data, .data, .data, .data, .sentinel, .sentinel, .pinned], laidTests := true, laidLooks := .later }
def UtilityCopiesUptoCardSaid : Prop := Claim7.holds Tryz.pinned (.plain (OpenSpec.upto utilityCopiesSpec)) utilityCopiesUptoCard
def utilitySortsUptoCard : Claim7 := { stood := { row := utilitySortsUptoRow, standIns := [], harness := (true, "d1ab30f6b4d5430c5a50232bf7e0c2049563ba7bfac643757ad7dc367ae84cee"), looks := true }, kinds := [], alts := [], laidByText := true, laidKinds := [.data, .data, .data, .data, .sentinel, .sentinel, .pinned], laidTests := true, laidLooks := .later }
def UtilitySortsUptoCardSaid : Prop := Claim7.holds Tryz.pinned (.plain (OpenSpec.upto utilitySortsSpec)) utilitySortsUptoCard
def utilityOnlyUptoCard : Claim7 := { stood := { row := utilityOnlyUptoRow, standIns := [], harness := (true, "d1ab30f6b4d5430c5a50232bf7e0c2049563ba7bfac643757ad7dc367ae84cee"), looks := true }, kinds := [], alts := [], laidByText := true, laidKinds := [.data, .data, .data, .data, .sentinel, .sentinel, .pinned], laidTests := true, laidLooks := .later }
def UtilityOnlyUptoCardSaid : Prop := Claim7.holds Tryz.pinned (.plain (OpenSpec.upto utilityOnlySpec)) utilityOnlyUptoCard
end Rows
end Go.Proofs.YtggobegaiijhhaaGreatDoor

namespace Go.Proofs.YtggobegaiijhhaaGreatDoor
open Go
set_option maxRecDepth 100000
theorem seatTie1 : Tryz.prog.laidByTextLater [("math/bits.deBruijn32tab", Rows.laid_math_bits_deBruijn32tab), ("math/bits.deBruijn64tab", Rows.laid_math_bits_deBruijn64tab), ("internal/strconv.uint64pow10", Rows.laid_internal_strconv_uint64pow10), ("unicode/utf8.acceptRanges", Rows.laid_unicode_utf8_acceptRanges), ("strconv.ErrRange", Rows.laid_strconv_ErrRange), ("strconv.ErrSyntax", Rows.laid_strconv_ErrSyntax)] [.data, .data, .data, .data, .sentinel, .sentinel] true :=
  Program.laidByTextLater_by_one 72 8 65 (by kernel_rfl) (by kernel_rfl) (by kernel_rfl) (by kernel_rfl) (by kernel_rfl) (by kernel_rfl) (fun _ _ => by kernel_rfl)
theorem pin_laid_unicode_utf8_first : Tryz.pinned.checked.prog.pinnedFits "unicode/utf8.first" = true := by kernel_rfl
theorem noOwnUnsafe : Tryz.pinned.checked.prog.headLifts.contains "ownunsafe" = false := by kernel_rfl
theorem fits1 : Tryz.pinned.checked.prog.listedFits [("math/bits.deBruijn32tab", Rows.laid_math_bits_deBruijn32tab), ("math/bits.deBruijn64tab", Rows.laid_math_bits_deBruijn64tab), ("internal/strconv.uint64pow10", Rows.laid_internal_strconv_uint64pow10), ("unicode/utf8.acceptRanges", Rows.laid_unicode_utf8_acceptRanges), ("strconv.ErrRange", Rows.laid_strconv_ErrRange), ("strconv.ErrSyntax", Rows.laid_strconv_ErrSyntax), ("unicode/utf8.first", Rows.laid_unicode_utf8_first)] = true := by
  unfold Program.listedFits
  rw [noOwnUnsafe]
  kernel_rfl
theorem tie : Tryz.prog.laidByTextLater [("math/bits.deBruijn32tab", Rows.laid_math_bits_deBruijn32tab), ("math/bits.deBruijn64tab", Rows.laid_math_bits_deBruijn64tab), ("internal/strconv.uint64pow10", Rows.laid_internal_strconv_uint64pow10), ("unicode/utf8.acceptRanges", Rows.laid_unicode_utf8_acceptRanges), ("strconv.ErrRange", Rows.laid_strconv_ErrRange), ("strconv.ErrSyntax", Rows.laid_strconv_ErrSyntax)] [.data, .data, .data, .data, .sentinel, .sentinel] true :=
  Program.laidByTextLater.sub seatTie1 ["math/bits.deBruijn32tab", "math/bits.deBruijn64tab", "internal/strconv.uint64pow10", "unicode/utf8.acceptRanges", "strconv.ErrRange", "strconv.ErrSyntax"] (by kernel_rfl) (by kernel_rfl)
theorem utilityCopies_row_tie : Rows.utilityCopiesRow.laidByTextAt .later Tryz.pinned [.data, .data, .data, .data, .sentinel, .sentinel, .pinned] true :=
  OpenClaim.laidByTextAt_pinned rfl rfl tie rfl rfl rfl rfl (fun y hy _e => by
    simp only [Rows.utilityCopiesRow, List.zip_cons_cons, List.zip_nil_right, List.mem_cons, List.mem_nil_iff, or_false] at hy
    rcases hy with rfl | rfl | rfl | rfl | rfl | rfl | rfl
    · cases _e
    · cases _e
    · cases _e
    · cases _e
    · cases _e
    · cases _e
    · exact ⟨pin_laid_unicode_utf8_first, by kernel_rfl⟩) fits1
end Go.Proofs.YtggobegaiijhhaaGreatDoor
