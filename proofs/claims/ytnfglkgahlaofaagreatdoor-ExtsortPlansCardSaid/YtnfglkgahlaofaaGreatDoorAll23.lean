/- Cards, Tie in one text. -/
import Derived.Test.YtnfglkgahlaofaaGreatDoorRows
import GoSem.ClaimSeven
import Derived.LaidByTextLater
import Derived.SevenTiedAt
import Derived.LaidSub
import Derived.LaidOnce
set_option linter.unusedVariables false
set_option linter.unusedSimpArgs false
namespace Go.Proofs.YtnfglkgahlaofaaGreatDoor
namespace Rows
def extsortRunsCard : Claim7 := { stood := { row := extsortRunsRow, standIns := [], harness := (true, "fdac811157b575d4b6271be4ad10c689d527c9436d1e9245ac98b2f1786d128f"), looks := true }, kinds := [], alts := [], laidByText := true, laidKinds := [.data, .data, .data, .data, .sentinel, .sentinel, .pinned], laidTests := true, laidLooks := .later }
def ExtsortRunsCardSaid : Prop := Claim7.holds Tryz.pinned (.plain (OpenSpec.ofChange extsortRunsSpec)) extsortRunsCard
def extsortSortsCard : Claim7 := { stood := { row := extsortSortsRow, standIns := [], harness := (true, "fdac811157b575d4b6271be4ad10c689d527c9436d1e9245ac98b2f1786d128f"), looks := true }, kinds := [], alts := [], laidByText := true, laidKinds := [.data, .data, .data, .data, .sentinel, .sentinel, .pinned], laidTests := true, laidLooks := .later }
def ExtsortSortsCardSaid : Prop := Claim7.holds Tryz.pinned (.plain (OpenSpec.ofChange extsortSortsSpec)) extsortSortsCard
def extsortPlansCard : Claim7 := { stood := { row := extsortPlansRow, standIns := [], harness := (true, "fdac811157b575d4b6271be4ad10c689d527c9436d1e9245ac98b2f1786d128f"), looks := true }, kinds := [], alts := [], laidByText := true, laidKinds := [.data, .data, .data, .data, .sentinel, .sentinel, .pinned], laidTests := true, laidLooks := .later }
def ExtsortPlansCardSaid : Prop := Claim7.holds Tryz.pinned (.plain (OpenSpec.ofChange extsortPlansSpec)) extsortPlansCard
def extsortOrderCard : Claim7 := { stood := { row := extsortOrderRow, standIns := [], harness := (true, "fdac811157b575d4b6271be4ad10c689d527c9436d1e9245ac98b2f1786d128f"), looks := true }, kinds := [], alts := [], laidByText := true, laidKinds := [.data, .data, .data, .data, .sentinel, .sentinel, .pinned], laidTests := true, laidLooks := .later }
def ExtsortOrderCardSaid : Prop := Claim7.holds Tryz.pinned (.plain (OpenSpec.ofChange extsortOrderSpec)) extsortOrderCard
def extsortLongCard : Claim7 := { stood := { row := extsortLongRow, standIns := [], harness := (true, "fdac811157b575d4b6271be4ad10c689d527c9436d1e9245ac98b2f1786d128f"), looks := true }, kinds := [], alts := [], laidByText := true, laidKinds := [.data, .data, .data, .data, .sentinel, .sentinel, .pinned], laidTests := true, laidLooks := .later }
def ExtsortLongCardSaid : Prop := Claim7.holds Tryz.pinned (.plain (OpenSpec.ofChange extsortLongSpec)) extsortLongCard
def extsortMergesCard : Claim7 := { stood := { row := extsortMergesRow, standIns := [], harness := (true, "fdac811157b575d4b6271be4ad10c689d527c9436d1e9245ac98b2f1786d128f"), looks := true }, kinds := [], alts := [], laidByText := true, laidKinds := [.data, .data, .data, .data, .sentinel, .sentinel, .pinned], laidTests := true, laidLooks := .later }
def ExtsortMergesCardSaid : Prop := Claim7.holds Tryz.pinned (.plain (OpenSpec.ofChange extsortMergesSpec)) extsortMergesCard
def extsortComparesCard : Claim7 := { stood := { row := extsortComparesRow, standIns := [], harness := (true, "fdac811157b575d4b6271be4ad10c689d527c9436d1e9245ac98b2f1786d128f"), looks := true }, kinds := [], alts := [], laidByText := true, laidKinds := [.data, .data, .data, .data, .sentinel, .sentinel, .pinned], laidTests := true, laidLooks := .later }
def ExtsortComparesCardSaid : Prop := Claim7.holds Tryz.pinned (.plain (OpenSpec.ofChange extsortComparesSpec)) extsortComparesCard
def extsortTextsCard : Claim7 := { stood := { row := extsortTextsRow, standIns := [], harness := (true, "fdac811157b575d4b6271be4ad10c689d527c9436d1e9245ac98b2f1786d128f"), looks := true }, kinds := [], alts := [], laidByText := true, laidKinds := [.data, .data, .data, .data, .sentinel, .sentinel, .pinned], laidTests := true, laidLooks := .later }
def ExtsortTextsCardSaid : Prop := Claim7.holds Tryz.pinned (.plain (OpenSpec.ofChange extsortTextsSpec)) extsortTextsCard
def extsortRunsUptoCard : Claim7 := { stood := { row := extsortRunsUptoRow, standIns := [], harness := (true, "fdac811157b575d4b6271be4ad10c689d527c9436d1e9245ac98b2f1786d128f"), looks := true }, kinds := [], alts := [], laidByText := true, laidKinds := [.data, .data, .data, .data, .sentinel, .sentinel, .pinned], laidTests := true, laidLooks := .later }
def ExtsortRunsUptoCardSaid : Prop := Claim7.holds Tryz.pinned (.plain (OpenSpec.upto extsortRunsSpec)) extsortRunsUptoCard
def extsortSortsUptoCard : Claim7 := { stood := { row := extsortSortsUptoRow, standIns := [], harness := (true, "fdac811157b575d4b6271be4ad10c689d527c9436d1e9245ac98b2f1786d128f"), looks := true }, kinds := [], alts := [], laidByText := true, laidKinds := [.data, .data, .data, .data, .sentinel, .sentinel, .pinned], laidTests := true, laidLooks := .later }
def ExtsortSortsUptoCardSaid : Prop := Claim7.holds Tryz.pinned (.plain (OpenSpec.upto extsortSortsSpec)) extsortSortsUptoCard
def extsortPlansUptoCard : Claim7 := { stood := { row := extsortPlansUptoRow, standIns := [], harness := (true, "fdac811157b575d4b6271be4ad10c689d527c9436d1e9245ac98b2f1786d128f"), looks := true }, kinds := [], alts := [], laidByText := true, laidKinds := [.data, .data, .data, .data, .sentinel, .sentinel, .pinned], laidTests := true, laidLooks := .later }
def ExtsortPlansUptoCardSaid : Prop := Claim7.holds Tryz.pinned (.plain (OpenSpec.upto extsortPlansSpec)) extsortPlansUptoCard
def extsortOrderUptoCard : Claim7 := { stood := { row := extsortOrderUptoRow, standIns := [], harness := (true, "fdac811157b575d4b6271be4ad10c689d527c9436d1e9245ac98b2f1786d128f"), looks := true }, kinds := [], alts := [], laidByText := true, laidKinds := [.data, .data, .data, .data, .sentinel, .sentinel, .pinned], laidTests := true, laidLooks := .later }
def ExtsortOrderUptoCardSaid : Prop := Claim7.holds Tryz.pinned (.plain (OpenSpec.upto extsortOrderSpec)) extsortOrderUptoCard
def extsortLongUptoCard : Claim7 := { stood := { row := extsortLongUptoRow, standIns := [], harness := (true, "fdac811157b575d4b6271be4ad10c689d527c9436d1e9245ac98b2f1786d128f"), looks := true }, kinds := [], alts := [], laidByText := true, laidKinds := [.data, .data, .data, .data, .sentinel, .sentinel, .pinned], laidTests := true, laidLooks := .later }
def ExtsortLongUptoCardSaid : Prop := Claim7.holds Tryz.pinned (.plain (OpenSpec.upto extsortLongSpec)) extsortLongUptoCard
def extsortMergesUptoCard : Claim7 := { stood := { row := extsortMergesUptoRow, standIns := [], harness := (true, "fdac811157b575d4b6271be4ad10c689d527c9436d1e9245ac98b2f1786d128f"), looks := true }, kinds := [], alts := [], laidByText := true, laidKinds := [.data, .data, .data, .data, .sentinel, .sentinel, .pinned], laidTests := true, laidLooks := .later }
def ExtsortMergesUptoCardSaid : Prop := Claim7.holds Tryz.pinned (.plain (OpenSpec.upto extsortMergesSpec)) extsortMergesUptoCard
def extsortComparesUptoCard : Claim7 := { stood := { row := extsortComparesUptoRow, standIns := [], harness := (true, "fdac811157b575d4b6271be4ad10c689d527c9436d1e9245ac98b2f1786d128f"), looks := true }, kinds := [], alts := [], laidByText := true, laidKinds := [.data, .data, .data, .data, .sentinel, .sentinel, .pinned], laidTests := true, laidLooks := .later }
def ExtsortComparesUptoCardSaid : Prop := Claim7.holds Tryz.pinned (.plain (OpenSpec.upto extsortComparesSpec)) extsortComparesUptoCard
def extsortTextsUptoCard : Claim7 := { stood := { row := extsortTextsUptoRow, standIns := [], harness := (true, "fdac811157b575d4b6271be4ad10c689d527c9436d1e9245ac98b2f1786d128f"), looks := true }, kinds := [], alts := [], laidByText := true, laidKinds := [.data, .data, .data, .data, .sentinel, .sentinel, .pinned], laidTests := true, laidLooks := .later }
def ExtsortTextsUptoCardSaid : Prop := Claim7.holds Tryz.pinned (.plain (OpenSpec.upto extsortTextsSpec)) extsortTextsUptoCard
end Rows
end Go.Proofs.YtnfglkgahlaofaaGreatDoor

namespace Go.Proofs.YtnfglkgahlaofaaGreatDoor
open Go
set_option maxRecDepth 100000
theorem seatTie1 : Tryz.prog.laidByTextLater [("math/bits.deBruijn32tab", Rows.laid_math_bits_deBruijn32tab), ("math/bits.deBruijn64tab", Rows.laid_math_bits_deBruijn64tab), ("internal/strconv.uint64pow10", Rows.laid_internal_strconv_uint64pow10), ("unicode/utf8.acceptRanges", Rows.laid_unicode_utf8_acceptRanges), ("strconv.ErrRange", Rows.laid_strconv_ErrRange), ("strconv.ErrSyntax", Rows.laid_strconv_ErrSyntax)] [.data, .data, .data, .data, .sentinel, .sentinel] true :=
  Program.laidByTextLater_by_one 72 8 65 (by kernel_rfl) (by kernel_rfl) (by kernel_rfl) (by kernel_rfl) (by kernel_rfl) (by kernel_rfl) (fun _ _ => by kernel_rfl)
theorem pin_laid_unicode_utf8_first : Tryz.pinned.checked.prog.pinnedFits "unicode/utf8.first" = true := by kernel_rfl
theorem noOwnUnsafe : Tryz.pinned.checked.prog.headLifts.contains "ownunsafe" = false := by kernel_rfl
theorem fits1 : Tryz.pinned.checked.prog.listedFits [("math/bits.deBruijn32tab", Rows.laid_math_bits_deBruijn32tab), ("math/bits.deBruijn64tab", Rows.laid_math_bits_deBruijn64tab), ("internal/strconv.uint64pow10", Rows.laid_internal_strconv_uint64pow10), ("unicode/utf8.acceptRanges", Rows.laid_unicode_utf8_acceptRanges), ("strconv.ErrRange", Rows.laid_strconv_ErrRange), ("strconv.ErrSyntax", Rows.laid_strconv_ErrSyntax), ("unicode/utf8.first", Rows.laid_unicode_utf8_first)] = true := by
  unfold Program.listedFits
  rw [noOwnUnsafe]
  kernel_rfl
theorem tie : Tryz.prog.laidByTextLater [("math/bits.deBruijn32tab", Rows.laid_math_bits_deBruijn32tab), ("math/bits.deBruijn64tab", Rows.laid_math_bits_deBruijn64tab), ("internal/strconv.uint64pow10", Rows.laid_internal_strconv_uint64pow10), ("unicode/utf8.acceptRanges", Rows.laid_unicode_utf8_acceptRanges), ("strconv.ErrRange", Rows.laid_strconv_ErrRange), ("strconv.ErrSyntax", Rows.laid_strconv_ErrSyntax)] [.data, .data, .data, .data, .sentinel, .sentinel] true :=
  Program.laidByTextLater.sub seatTie1 ["math/bits.deBruijn32tab", "math/bits.deBruijn64tab", "internal/strconv.uint64pow10", "unicode/utf8.acceptRanges", "strconv.ErrRange", "strconv.ErrSyntax"] (by kernel_rfl) (by kernel_rfl)
theorem extsortRuns_row_tie : Rows.extsortRunsRow.laidByTextAt .later Tryz.pinned [.data, .data, .data, .data, .sentinel, .sentinel, .pinned] true :=
  OpenClaim.laidByTextAt_pinned rfl rfl tie rfl rfl rfl rfl (fun y hy _e => by
    simp only [Rows.extsortRunsRow, List.zip_cons_cons, List.zip_nil_right, List.mem_cons, List.mem_nil_iff, or_false] at hy
    rcases hy with rfl | rfl | rfl | rfl | rfl | rfl | rfl
    · cases _e
    · cases _e
    · cases _e
    · cases _e
    · cases _e
    · cases _e
    · exact ⟨pin_laid_unicode_utf8_first, by kernel_rfl⟩) fits1
theorem extsortPlans_row_tie : Rows.extsortPlansRow.laidByTextAt .later Tryz.pinned [.data, .data, .data, .data, .sentinel, .sentinel, .pinned] true :=
  OpenClaim.laidByTextAt_pinned rfl rfl tie rfl rfl rfl rfl (fun y hy _e => by
    simp only [Rows.extsortPlansRow, List.zip_cons_cons, List.zip_nil_right, List.mem_cons, List.mem_nil_iff, or_false] at hy
    rcases hy with rfl | rfl | rfl | rfl | rfl | rfl | rfl
    · cases _e
    · cases _e
    · cases _e
    · cases _e
    · cases _e
    · cases _e
    · exact ⟨pin_laid_unicode_utf8_first, by kernel_rfl⟩) fits1
theorem extsortOrder_row_tie : Rows.extsortOrderRow.laidByTextAt .later Tryz.pinned [.data, .data, .data, .data, .sentinel, .sentinel, .pinned] true :=
  OpenClaim.laidByTextAt_pinned rfl rfl tie rfl rfl rfl rfl (fun y hy _e => by
    simp only [Rows.extsortOrderRow, List.zip_cons_cons, List.zip_nil_right, List.mem_cons, List.mem_nil_iff, or_false] at hy
    rcases hy with rfl | rfl | rfl | rfl | rfl | rfl | rfl
    · cases _e
    · cases _e
    · cases _e
    · cases _e
    · cases _e
    · cases _e
    · exact ⟨pin_laid_unicode_utf8_first, by kernel_rfl⟩) fits1
theorem extsortLong_row_tie : Rows.extsortLongRow.laidByTextAt .later Tryz.pinned [.data, .data, .data, .data, .sentinel, .sentinel, .pinned] true :=
  OpenClaim.laidByTextAt_pinned rfl rfl tie rfl rfl rfl rfl (fun y hy _e => by
    simp only [Rows.extsortLongRow, List.zip_cons_cons, List.zip_nil_right, List.mem_cons, List.mem_nil_iff, or_false] at hy
    rcases hy with rfl | rfl | rfl | rfl | rfl | rfl | rfl
    · cases _e
    · cases _e
    · cases _e
    · cases _e
    · cases _e
    · cases _e
    · exact ⟨pin_laid_unicode_utf8_first, by kernel_rfl⟩) fits1
theorem extsortMerges_row_tie : Rows.extsortMergesRow.laidByTextAt .later Tryz.pinned [.data, .data, .data, .data, .sentinel, .sentinel, .pinned] true :=
  OpenClaim.laidByTextAt_pinned rfl rfl tie rfl rfl rfl rfl (fun y hy _e => by
    simp only [Rows.extsortMergesRow, List.zip_cons_cons, List.zip_nil_right, List.mem_cons, List.mem_nil_iff, or_false] at hy
    rcases hy with rfl | rfl | rfl | rfl | rfl | rfl | rfl
    · cases _e
    · cases _e
    · cases _e
    · cases _e
    · cases _e
    · cases _e
    · exact ⟨pin_laid_unicode_utf8_first, by kernel_rfl⟩) fits1
end Go.Proofs.YtnfglkgahlaofaaGreatDoor
