/-
  DERIVED. GIVEN WITH THE SEED: THE CARDS: each row of YtmmbgofnllcaeaaGreatDoorRows.lean that lists a variable, with what it lists TIED to the program's text (the seventh form; the later family's looks); each row that meets fmt, with fmt's text TOLD by the authors' own Lean function (tested against real Go, not proved from fmt's source: count such statements apart). THE CARD IS WHAT COUNTS. Prove the row's statement (the work); the ties are given (YtmmbgofnllcaeaaGreatDoorTie.lean); close each card by the builder's one call (the guide's Derived/Test/ToyasCard.lean, 'card_holds'). Laid BY PROGRAM, IN A SANDBOX (cutbox-door.mjs). By AI agents, Wed Nov 11 2026. No macro, syntax, notation, axiom, sorry.
-/
import Derived.Test.YtmmbgofnllcaeaaGreatDoorRows
import GoSem.ClaimSeven
namespace Go.Proofs.YtmmbgofnllcaeaaGreatDoor
namespace Rows

/-- THE TIED CARD OF 'slothlaw01.LexReads'. -/
def lexReadsCard : Claim7 := { stood := { row := lexReadsRow, standIns := [], harness := (true, "f13501f62c6af7440d5c3715e848011df19ab03dea242bc8c182f5a731455dd5"), looks := true }, kinds := [], alts := [], laidByText := true, laidKinds := [.data, .data, .data, .data, .handle, .data, .pinned], laidTests := true, laidLooks := .later }
def LexReadsCardSaid : Prop := Claim7.holds Tryz.pinned (.plain (OpenSpec.ofChange lexReadsSpec)) lexReadsCard

/-- THE SECOND FORM's CARD OF 'slothlaw01.LexReads'. -/
def lexReadsUptoCard : Claim7 := { stood := { row := lexReadsUptoRow, standIns := [], harness := (true, "f13501f62c6af7440d5c3715e848011df19ab03dea242bc8c182f5a731455dd5"), looks := true }, kinds := [], alts := [], laidByText := true, laidKinds := [.data, .data, .data, .data, .handle, .data, .pinned], laidTests := true, laidLooks := .later }
def LexReadsUptoCardSaid : Prop := Claim7.holds Tryz.pinned (.plain (OpenSpec.upto lexReadsSpec)) lexReadsUptoCard
end Rows
end Go.Proofs.YtmmbgofnllcaeaaGreatDoor
