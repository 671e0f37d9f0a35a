/-
  DERIVED. GIVEN WITH THE SEED: THE CARDS: each row of YtmmbgofnllcaeaaDoorRows.lean that lists a variable, with what it lists TIED to the program's text (the seventh form; the later family's looks); each row that meets fmt, with fmt's text TOLD by the authors' own Lean function (tested against real Go, not proved from fmt's source: count such statements apart). THE CARD IS WHAT COUNTS. Prove the row's statement (the work); the ties are given (YtmmbgofnllcaeaaDoorTie.lean); close each card by the builder's one call (the guide's Derived/Test/ToyasCard.lean, 'card_holds'). Laid BY PROGRAM, IN A SANDBOX (cutbox-door.mjs). By AI agents, Wed Nov 11 2026. No macro, syntax, notation, axiom, sorry.
-/
import Derived.Test.YtmmbgofnllcaeaaDoorRows
import GoSem.ClaimSeven
namespace Go.Proofs.YtmmbgofnllcaeaaDoor
namespace Rows

/-- THE TIED CARD OF 'slothlaw01.LexPrints'. -/
def lexPrintsCard : Claim7 := { stood := { row := lexPrintsRow, standIns := [], harness := (true, "84b4b73c533d0231f82c588f0260ea6a22641c8f9f383ad39ec5835e8ebb30f4"), looks := true }, kinds := [], alts := [], laidByText := true, laidKinds := [.data, .data, .data, .data, .data, .pinned], laidTests := true, laidLooks := .later }
def LexPrintsCardSaid : Prop := Claim7.holds Tryd.pinned (.plain (OpenSpec.ofChange lexPrintsSpec)) lexPrintsCard

/-- THE TIED CARD OF 'slothlaw01.LexBack'. -/
def lexBackCard : Claim7 := { stood := { row := lexBackRow, standIns := [], harness := (true, "84b4b73c533d0231f82c588f0260ea6a22641c8f9f383ad39ec5835e8ebb30f4"), looks := true }, kinds := [], alts := [], laidByText := true, laidKinds := [.data, .data, .data, .data, .data, .pinned], laidTests := true, laidLooks := .later }
def LexBackCardSaid : Prop := Claim7.holds Tryd.pinned (.plain (OpenSpec.ofChange lexBackSpec)) lexBackCard

/-- THE TIED CARD OF 'slothlaw01.LexWrites'. -/
def lexWritesCard : Claim7 := { stood := { row := lexWritesRow, standIns := [], harness := (true, "84b4b73c533d0231f82c588f0260ea6a22641c8f9f383ad39ec5835e8ebb30f4"), looks := true }, kinds := [], alts := [], laidByText := true, laidKinds := [.data, .data, .data, .data, .data, .pinned], laidTests := true, laidLooks := .later }
def LexWritesCardSaid : Prop := Claim7.holds Tryd.pinned (.plain (OpenSpec.ofChange lexWritesSpec)) lexWritesCard

/-- THE TIED CARD OF 'slothlaw01.LexSkips'. -/
def lexSkipsCard : Claim7 := { stood := { row := lexSkipsRow, standIns := [], harness := (true, "84b4b73c533d0231f82c588f0260ea6a22641c8f9f383ad39ec5835e8ebb30f4"), looks := true }, kinds := [], alts := [], laidByText := true, laidKinds := [.data, .data, .data, .data, .data, .pinned], laidTests := true, laidLooks := .later }
def LexSkipsCardSaid : Prop := Claim7.holds Tryd.pinned (.plain (OpenSpec.ofChange lexSkipsSpec)) lexSkipsCard

/-- THE TIED CARD OF 'slothlaw01.LexJoins'. -/
def lexJoinsCard : Claim7 := { stood := { row := lexJoinsRow, standIns := [], harness := (true, "84b4b73c533d0231f82c588f0260ea6a22641c8f9f383ad39ec5835e8ebb30f4"), looks := true }, kinds := [], alts := [], laidByText := true, laidKinds := [.data, .data, .data, .data, .handle, .data, .pinned], laidTests := true, laidLooks := .later }
def LexJoinsCardSaid : Prop := Claim7.holds Tryd.pinned (.plain (OpenSpec.ofChange lexJoinsSpec)) lexJoinsCard

/-- THE TIED CARD OF 'slothlaw01.LexAhead'. -/
def lexAheadCard : Claim7 := { stood := { row := lexAheadRow, standIns := [], harness := (true, "84b4b73c533d0231f82c588f0260ea6a22641c8f9f383ad39ec5835e8ebb30f4"), looks := true }, kinds := [], alts := [], laidByText := true, laidKinds := [.data, .data, .data, .data, .handle, .data, .pinned], laidTests := true, laidLooks := .later }
def LexAheadCardSaid : Prop := Claim7.holds Tryd.pinned (.plain (OpenSpec.ofChange lexAheadSpec)) lexAheadCard

/-- THE SECOND FORM's CARD OF 'slothlaw01.LexPrints'. -/
def lexPrintsUptoCard : Claim7 := { stood := { row := lexPrintsUptoRow, standIns := [], harness := (true, "84b4b73c533d0231f82c588f0260ea6a22641c8f9f383ad39ec5835e8ebb30f4"), looks := true }, kinds := [], alts := [], laidByText := true, laidKinds := [.data, .data, .data, .data, .data, .pinned], laidTests := true, laidLooks := .later }
def LexPrintsUptoCardSaid : Prop := Claim7.holds Tryd.pinned (.plain (OpenSpec.upto lexPrintsSpec)) lexPrintsUptoCard

/-- THE SECOND FORM's CARD OF 'slothlaw01.LexBack'. -/
def lexBackUptoCard : Claim7 := { stood := { row := lexBackUptoRow, standIns := [], harness := (true, "84b4b73c533d0231f82c588f0260ea6a22641c8f9f383ad39ec5835e8ebb30f4"), looks := true }, kinds := [], alts := [], laidByText := true, laidKinds := [.data, .data, .data, .data, .data, .pinned], laidTests := true, laidLooks := .later }
def LexBackUptoCardSaid : Prop := Claim7.holds Tryd.pinned (.plain (OpenSpec.upto lexBackSpec)) lexBackUptoCard

/-- THE SECOND FORM's CARD OF 'slothlaw01.LexWrites'. -/
def lexWritesUptoCard : Claim7 := { stood := { row := lexWritesUptoRow, standIns := [], harness := (true, "84b4b73c533d0231f82c588f0260ea6a22641c8f9f383ad39ec5835e8ebb30f4"), looks := true }, kinds := [], alts := [], laidByText := true, laidKinds := [.data, .data, .data, .data, .data, .pinned], laidTests := true, laidLooks := .later }
def LexWritesUptoCardSaid : Prop := Claim7.holds Tryd.pinned (.plain (OpenSpec.upto lexWritesSpec)) lexWritesUptoCard

/-- THE SECOND FORM's CARD OF 'slothlaw01.LexSkips'. -/
def lexSkipsUptoCard : Claim7 := { stood := { row := lexSkipsUptoRow, standIns := [], harness := (true, "84b4b73c533d0231f82c588f0260ea6a22641c8f9f383ad39ec5835e8ebb30f4"), looks := true }, kinds := [], alts := [], laidByText := true, laidKinds := [.data, .data, .data, .data, .data, .pinned], laidTests := true, laidLooks := .later }
def LexSkipsUptoCardSaid : Prop := Claim7.holds Tryd.pinned (.plain (OpenSpec.upto lexSkipsSpec)) lexSkipsUptoCard

/-- THE SECOND FORM's CARD OF 'slothlaw01.LexJoins'. -/
def lexJoinsUptoCard : Claim7 := { stood := { row := lexJoinsUptoRow, standIns := [], harness := (true, "84b4b73c533d0231f82c588f0260ea6a22641c8f9f383ad39ec5835e8ebb30f4"), looks := true }, kinds := [], alts := [], laidByText := true, laidKinds := [.data, .data, .data, .data, .handle, .data, .pinned], laidTests := true, laidLooks := .later }
def LexJoinsUptoCardSaid : Prop := Claim7.holds Tryd.pinned (.plain (OpenSpec.upto lexJoinsSpec)) lexJoinsUptoCard

/-- THE SECOND FORM's CARD OF 'slothlaw01.LexAhead'. -/
def lexAheadUptoCard : Claim7 := { stood := { row := lexAheadUptoRow, standIns := [], harness := (true, "84b4b73c533d0231f82c588f0260ea6a22641c8f9f383ad39ec5835e8ebb30f4"), looks := true }, kinds := [], alts := [], laidByText := true, laidKinds := [.data, .data, .data, .data, .handle, .data, .pinned], laidTests := true, laidLooks := .later }
def LexAheadUptoCardSaid : Prop := Claim7.holds Tryd.pinned (.plain (OpenSpec.upto lexAheadSpec)) lexAheadUptoCard
end Rows
end Go.Proofs.YtmmbgofnllcaeaaDoor
