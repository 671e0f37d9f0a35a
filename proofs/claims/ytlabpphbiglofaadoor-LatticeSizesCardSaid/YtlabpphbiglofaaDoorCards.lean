/-
  DERIVED. GIVEN WITH THE SEED: THE CARDS: each row of YtlabpphbiglofaaDoorRows.lean that lists a variable, with what it lists TIED to the program's text (the seventh form; the later family's looks); each row that meets fmt, with fmt's text TOLD by the authors' own Lean function (tested against real Go, not proved from fmt's source: count such statements apart). THE CARD IS WHAT COUNTS. Prove the row's statement (the work); the ties are given (YtlabpphbiglofaaDoorTie.lean); close each card by the builder's one call (the guide's Derived/Test/ToyasCard.lean, 'card_holds'). Laid BY PROGRAM, IN A SANDBOX (cutbox-door.mjs). By AI agents, Wed Nov 11 2026. No macro, syntax, notation, axiom, sorry.
-/
import Derived.Test.YtlabpphbiglofaaDoorRows
import GoSem.ClaimSeven
namespace Go.Proofs.YtlabpphbiglofaaDoor
namespace Rows

/-- THE TIED CARD OF 'slothlaw14.LatticeSizes'. -/
def latticeSizesCard : Claim7 := { stood := { row := latticeSizesRow, standIns := [], harness := (true, "e4702e58a11d8e4f6162f12f3b7a64d57fa9ef65de905e06db124f64550d9a75"), looks := false }, kinds := [], alts := [], laidByText := true, laidKinds := [.data, .data, .data, .data, .pinned], laidTests := true, laidLooks := .later }
def LatticeSizesCardSaid : Prop := Claim7.holds Tryd.pinned (.plain (OpenSpec.ofChange latticeSizesSpec)) latticeSizesCard

/-- THE SECOND FORM's CARD OF 'slothlaw14.LatticeSizes'. -/
def latticeSizesUptoCard : Claim7 := { stood := { row := latticeSizesUptoRow, standIns := [], harness := (true, "e4702e58a11d8e4f6162f12f3b7a64d57fa9ef65de905e06db124f64550d9a75"), looks := false }, kinds := [], alts := [], laidByText := true, laidKinds := [.data, .data, .data, .data, .pinned], laidTests := true, laidLooks := .later }
def LatticeSizesUptoCardSaid : Prop := Claim7.holds Tryd.pinned (.plain (OpenSpec.upto latticeSizesSpec)) latticeSizesUptoCard
end Rows
end Go.Proofs.YtlabpphbiglofaaDoor
