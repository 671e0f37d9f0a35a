/-
  DERIVED. GIVEN WITH THE SEED: THE CARDS: each row of YtlabpphbiglofaaGreatDoorRows.lean that lists a variable, with what it lists TIED to the program's text (the seventh form; the later family's looks); each row that meets fmt, with fmt's text TOLD by the authors' own Lean function (tested against real Go, not proved from fmt's source: count such statements apart). THE CARD IS WHAT COUNTS. Prove the row's statement (the work); the ties are given (YtlabpphbiglofaaGreatDoorTie.lean); close each card by the builder's one call (the guide's Derived/Test/ToyasCard.lean, 'card_holds'). Laid BY PROGRAM, IN A SANDBOX (cutbox-door.mjs). By AI agents, Wed Nov 11 2026. No macro, syntax, notation, axiom, sorry.
-/
import Derived.Test.YtlabpphbiglofaaGreatDoorRows
import GoSem.ClaimSeven
namespace Go.Proofs.YtlabpphbiglofaaGreatDoor
namespace Rows

/-- THE TIED CARD OF 'slothlaw14.LatticeOrder'. -/
def latticeOrderCard : Claim7 := { stood := { row := latticeOrderRow, standIns := [], harness := (true, "2a9bb70ec4fdf03c44a85148783085afef4f56f2157eaafa7560392b42e53fb9"), looks := false }, kinds := [], alts := [], laidByText := true, laidKinds := [.data, .data, .data, .data, .pinned], laidTests := true, laidLooks := .later }
def LatticeOrderCardSaid : Prop := Claim7.holds Tryz.pinned (.plain (OpenSpec.ofChange latticeOrderSpec)) latticeOrderCard

/-- THE TIED CARD OF 'slothlaw14.LatticeAnswers'. -/
def latticeAnswersCard : Claim7 := { stood := { row := latticeAnswersRow, standIns := [], harness := (true, "2a9bb70ec4fdf03c44a85148783085afef4f56f2157eaafa7560392b42e53fb9"), looks := false }, kinds := [], alts := [], laidByText := true, laidKinds := [.data, .data, .data, .data, .pinned], laidTests := true, laidLooks := .later }
def LatticeAnswersCardSaid : Prop := Claim7.holds Tryz.pinned (.plain (OpenSpec.ofChange latticeAnswersSpec)) latticeAnswersCard

/-- THE TIED CARD OF 'slothlaw14.LatticeMaps'. -/
def latticeMapsCard : Claim7 := { stood := { row := latticeMapsRow, standIns := [], harness := (true, "2a9bb70ec4fdf03c44a85148783085afef4f56f2157eaafa7560392b42e53fb9"), looks := false }, kinds := [], alts := [], laidByText := true, laidKinds := [.data, .data, .data, .data, .pinned], laidTests := true, laidLooks := .later }
def LatticeMapsCardSaid : Prop := Claim7.holds Tryz.pinned (.plain (OpenSpec.ofChange latticeMapsSpec)) latticeMapsCard

/-- THE SECOND FORM's CARD OF 'slothlaw14.LatticeOrder'. -/
def latticeOrderUptoCard : Claim7 := { stood := { row := latticeOrderUptoRow, standIns := [], harness := (true, "2a9bb70ec4fdf03c44a85148783085afef4f56f2157eaafa7560392b42e53fb9"), looks := false }, kinds := [], alts := [], laidByText := true, laidKinds := [.data, .data, .data, .data, .pinned], laidTests := true, laidLooks := .later }
def LatticeOrderUptoCardSaid : Prop := Claim7.holds Tryz.pinned (.plain (OpenSpec.upto latticeOrderSpec)) latticeOrderUptoCard

/-- THE SECOND FORM's CARD OF 'slothlaw14.LatticeAnswers'. -/
def latticeAnswersUptoCard : Claim7 := { stood := { row := latticeAnswersUptoRow, standIns := [], harness := (true, "2a9bb70ec4fdf03c44a85148783085afef4f56f2157eaafa7560392b42e53fb9"), looks := false }, kinds := [], alts := [], laidByText := true, laidKinds := [.data, .data, .data, .data, .pinned], laidTests := true, laidLooks := .later }
def LatticeAnswersUptoCardSaid : Prop := Claim7.holds Tryz.pinned (.plain (OpenSpec.upto latticeAnswersSpec)) latticeAnswersUptoCard

/-- THE SECOND FORM's CARD OF 'slothlaw14.LatticeMaps'. -/
def latticeMapsUptoCard : Claim7 := { stood := { row := latticeMapsUptoRow, standIns := [], harness := (true, "2a9bb70ec4fdf03c44a85148783085afef4f56f2157eaafa7560392b42e53fb9"), looks := false }, kinds := [], alts := [], laidByText := true, laidKinds := [.data, .data, .data, .data, .pinned], laidTests := true, laidLooks := .later }
def LatticeMapsUptoCardSaid : Prop := Claim7.holds Tryz.pinned (.plain (OpenSpec.upto latticeMapsSpec)) latticeMapsUptoCard
end Rows
end Go.Proofs.YtlabpphbiglofaaGreatDoor
