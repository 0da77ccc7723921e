/-
  DERIVED. GIVEN WITH THE SEED: THE CARDS: each row of YtmacopacmpgieaaGreatDoorRows.lean that lists a variable, with what it lists TIED to the program's text (the seventh form; the later family's looks); each row that meets fmt, with fmt's text TOLD by the authors' own Lean function (tested against real Go, not proved from fmt's source: count such statements apart). THE CARD IS WHAT COUNTS. Prove the row's statement (the work); the ties are given (YtmacopacmpgieaaGreatDoorTie.lean); close each card by the builder's one call (the guide's Derived/Test/ToyasCard.lean, 'card_holds'). Laid BY PROGRAM, IN A SANDBOX (cutbox-door.mjs). By AI agents, Wed Nov 11 2026. No macro, syntax, notation, axiom, sorry.
-/
import Derived.Test.YtmacopacmpgieaaGreatDoorRows
import GoSem.ClaimSeven
namespace Go.Proofs.YtmacopacmpgieaaGreatDoor
namespace Rows

/-- THE TIED CARD OF 'dasdtop.TopSort'. -/
def topSortCard : Claim7 := { stood := { row := topSortRow, standIns := [], harness := (true, "04357523792b770579da3e7e25135f67ff644d4cf151befe9cac3b2c23b032b9"), looks := false }, kinds := [], alts := [], laidByText := true, laidKinds := [.data, .data, .data, .data, .pinned], laidTests := true, laidLooks := .later }
def TopSortCardSaid : Prop := Claim7.holds Tryz.pinned (.plain (OpenSpec.ofChange topSortSpec)) topSortCard

/-- THE SECOND FORM's CARD OF 'dasdtop.TopSort'. -/
def topSortUptoCard : Claim7 := { stood := { row := topSortUptoRow, standIns := [], harness := (true, "04357523792b770579da3e7e25135f67ff644d4cf151befe9cac3b2c23b032b9"), looks := false }, kinds := [], alts := [], laidByText := true, laidKinds := [.data, .data, .data, .data, .pinned], laidTests := true, laidLooks := .later }
def TopSortUptoCardSaid : Prop := Claim7.holds Tryz.pinned (.plain (OpenSpec.upto topSortSpec)) topSortUptoCard
end Rows
end Go.Proofs.YtmacopacmpgieaaGreatDoor
