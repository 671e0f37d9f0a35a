/-
  DERIVED. GIVEN WITH THE SEED: THE CARDS: each row of YtjpnaaebfdnccaaGreatDoorRows.lean that lists a variable, with what it lists TIED to the program's text (the seventh form; the later family's looks); each row that meets fmt, with fmt's text TOLD by the authors' own Lean function (tested against real Go, not proved from fmt's source: count such statements apart). THE CARD IS WHAT COUNTS. Prove the row's statement (the work); the ties are given (YtjpnaaebfdnccaaGreatDoorTie.lean); close each card by the builder's one call (the guide's Derived/Test/ToyasCard.lean, 'card_holds'). Laid BY PROGRAM, IN A SANDBOX (cutbox-door.mjs). By AI agents, Wed Nov 11 2026. No macro, syntax, notation, axiom, sorry.
-/
import Derived.Test.YtjpnaaebfdnccaaGreatDoorRows
import GoSem.ClaimSeven
namespace Go.Proofs.YtjpnaaebfdnccaaGreatDoor
namespace Rows

/-- THE TIED CARD OF 'slothlaw17.CodeChecks'. -/
def codeChecksCard : Claim7 := { stood := { row := codeChecksRow, standIns := [], harness := (true, "e8507322ae81aead97027e5dcedd9f703a3dbe9e30b7ff4040338551ae9cc470"), looks := true }, kinds := [], alts := [], laidByText := true, laidKinds := [.data, .data, .data, .data, .sentinel, .sentinel, .pinned], laidTests := true, laidLooks := .later }
def CodeChecksCardSaid : Prop := Claim7.holds Tryz.pinned (.plain (OpenSpec.ofChange codeChecksSpec)) codeChecksCard

/-- THE TIED CARD OF 'slothlaw17.CodePrints'. -/
def codePrintsCard : Claim7 := { stood := { row := codePrintsRow, standIns := [], harness := (true, "e8507322ae81aead97027e5dcedd9f703a3dbe9e30b7ff4040338551ae9cc470"), looks := true }, kinds := [], alts := [], laidByText := true, laidKinds := [.data, .data, .data, .data, .sentinel, .sentinel, .pinned], laidTests := true, laidLooks := .later }
def CodePrintsCardSaid : Prop := Claim7.holds Tryz.pinned (.plain (OpenSpec.ofChange codePrintsSpec)) codePrintsCard

/-- THE TIED CARD OF 'slothlaw17.CodeReads'. -/
def codeReadsCard : Claim7 := { stood := { row := codeReadsRow, standIns := [], harness := (true, "e8507322ae81aead97027e5dcedd9f703a3dbe9e30b7ff4040338551ae9cc470"), looks := true }, kinds := [], alts := [], laidByText := true, laidKinds := [.data, .data, .data, .data, .sentinel, .sentinel, .pinned], laidTests := true, laidLooks := .later }
def CodeReadsCardSaid : Prop := Claim7.holds Tryz.pinned (.plain (OpenSpec.ofChange codeReadsSpec)) codeReadsCard

/-- THE TIED CARD OF 'slothlaw17.CodeBytes'. -/
def codeBytesCard : Claim7 := { stood := { row := codeBytesRow, standIns := [], harness := (true, "e8507322ae81aead97027e5dcedd9f703a3dbe9e30b7ff4040338551ae9cc470"), looks := true }, kinds := [], alts := [], laidByText := true, laidKinds := [.data, .data, .data, .data, .sentinel, .sentinel, .pinned], laidTests := true, laidLooks := .later }
def CodeBytesCardSaid : Prop := Claim7.holds Tryz.pinned (.plain (OpenSpec.ofChange codeBytesSpec)) codeBytesCard

/-- THE TIED CARD OF 'slothlaw17.CodeLoads'. -/
def codeLoadsCard : Claim7 := { stood := { row := codeLoadsRow, standIns := [], harness := (true, "e8507322ae81aead97027e5dcedd9f703a3dbe9e30b7ff4040338551ae9cc470"), looks := true }, kinds := [], alts := [], laidByText := true, laidKinds := [.data, .data, .data, .data, .sentinel, .sentinel, .pinned], laidTests := true, laidLooks := .later }
def CodeLoadsCardSaid : Prop := Claim7.holds Tryz.pinned (.plain (OpenSpec.ofChange codeLoadsSpec)) codeLoadsCard

/-- THE TIED CARD OF 'slothlaw17.CodeBack'. -/
def codeBackCard : Claim7 := { stood := { row := codeBackRow, standIns := [], harness := (true, "e8507322ae81aead97027e5dcedd9f703a3dbe9e30b7ff4040338551ae9cc470"), looks := true }, kinds := [], alts := [], laidByText := true, laidKinds := [.data, .data, .data, .data, .sentinel, .sentinel, .pinned], laidTests := true, laidLooks := .later }
def CodeBackCardSaid : Prop := Claim7.holds Tryz.pinned (.plain (OpenSpec.ofChange codeBackSpec)) codeBackCard

/-- THE TIED CARD OF 'slothlaw17.CodeSpoilt'. -/
def codeSpoiltCard : Claim7 := { stood := { row := codeSpoiltRow, standIns := [], harness := (true, "e8507322ae81aead97027e5dcedd9f703a3dbe9e30b7ff4040338551ae9cc470"), looks := true }, kinds := [], alts := [], laidByText := true, laidKinds := [.data, .data, .data, .data, .sentinel, .sentinel, .pinned], laidTests := true, laidLooks := .later }
def CodeSpoiltCardSaid : Prop := Claim7.holds Tryz.pinned (.plain (OpenSpec.ofChange codeSpoiltSpec)) codeSpoiltCard

/-- THE TIED CARD OF 'slothlaw17.CodeEnds'. -/
def codeEndsCard : Claim7 := { stood := { row := codeEndsRow, standIns := [], harness := (true, "e8507322ae81aead97027e5dcedd9f703a3dbe9e30b7ff4040338551ae9cc470"), looks := true }, kinds := [], alts := [], laidByText := true, laidKinds := [.data, .data, .data, .data, .sentinel, .sentinel, .pinned], laidTests := true, laidLooks := .later }
def CodeEndsCardSaid : Prop := Claim7.holds Tryz.pinned (.plain (OpenSpec.ofChange codeEndsSpec)) codeEndsCard

/-- THE SECOND FORM's CARD OF 'slothlaw17.CodeChecks'. -/
def codeChecksUptoCard : Claim7 := { stood := { row := codeChecksUptoRow, standIns := [], harness := (true, "e8507322ae81aead97027e5dcedd9f703a3dbe9e30b7ff4040338551ae9cc470"), looks := true }, kinds := [], alts := [], laidByText := true, laidKinds := [.data, .data, .data, .data, .sentinel, .sentinel, .pinned], laidTests := true, laidLooks := .later }
def CodeChecksUptoCardSaid : Prop := Claim7.holds Tryz.pinned (.plain (OpenSpec.upto codeChecksSpec)) codeChecksUptoCard

/-- THE SECOND FORM's CARD OF 'slothlaw17.CodePrints'. -/
def codePrintsUptoCard : Claim7 := { stood := { row := codePrintsUptoRow, standIns := [], harness := (true, "e8507322ae81aead97027e5dcedd9f703a3dbe9e30b7ff4040338551ae9cc470"), looks := true }, kinds := [], alts := [], laidByText := true, laidKinds := [.data, .data, .data, .data, .sentinel, .sentinel, .pinned], laidTests := true, laidLooks := .later }
def CodePrintsUptoCardSaid : Prop := Claim7.holds Tryz.pinned (.plain (OpenSpec.upto codePrintsSpec)) codePrintsUptoCard

/-- THE SECOND FORM's CARD OF 'slothlaw17.CodeReads'. -/
def codeReadsUptoCard : Claim7 := { stood := { row := codeReadsUptoRow, standIns := [], harness := (true, "e8507322ae81aead97027e5dcedd9f703a3dbe9e30b7ff4040338551ae9cc470"), looks := true }, kinds := [], alts := [], laidByText := true, laidKinds := [.data, .data, .data, .data, .sentinel, .sentinel, .pinned], laidTests := true, laidLooks := .later }
def CodeReadsUptoCardSaid : Prop := Claim7.holds Tryz.pinned (.plain (OpenSpec.upto codeReadsSpec)) codeReadsUptoCard

/-- THE SECOND FORM's CARD OF 'slothlaw17.CodeBytes'. -/
def codeBytesUptoCard : Claim7 := { stood := { row := codeBytesUptoRow, standIns := [], harness := (true, "e8507322ae81aead97027e5dcedd9f703a3dbe9e30b7ff4040338551ae9cc470"), looks := true }, kinds := [], alts := [], laidByText := true, laidKinds := [.data, .data, .data, .data, .sentinel, .sentinel, .pinned], laidTests := true, laidLooks := .later }
def CodeBytesUptoCardSaid : Prop := Claim7.holds Tryz.pinned (.plain (OpenSpec.upto codeBytesSpec)) codeBytesUptoCard

/-- THE SECOND FORM's CARD OF 'slothlaw17.CodeLoads'. -/
def codeLoadsUptoCard : Claim7 := { stood := { row := codeLoadsUptoRow, standIns := [], harness := (true, "e8507322ae81aead97027e5dcedd9f703a3dbe9e30b7ff4040338551ae9cc470"), looks := true }, kinds := [], alts := [], laidByText := true, laidKinds := [.data, .data, .data, .data, .sentinel, .sentinel, .pinned], laidTests := true, laidLooks := .later }
def CodeLoadsUptoCardSaid : Prop := Claim7.holds Tryz.pinned (.plain (OpenSpec.upto codeLoadsSpec)) codeLoadsUptoCard

/-- THE SECOND FORM's CARD OF 'slothlaw17.CodeBack'. -/
def codeBackUptoCard : Claim7 := { stood := { row := codeBackUptoRow, standIns := [], harness := (true, "e8507322ae81aead97027e5dcedd9f703a3dbe9e30b7ff4040338551ae9cc470"), looks := true }, kinds := [], alts := [], laidByText := true, laidKinds := [.data, .data, .data, .data, .sentinel, .sentinel, .pinned], laidTests := true, laidLooks := .later }
def CodeBackUptoCardSaid : Prop := Claim7.holds Tryz.pinned (.plain (OpenSpec.upto codeBackSpec)) codeBackUptoCard

/-- THE SECOND FORM's CARD OF 'slothlaw17.CodeSpoilt'. -/
def codeSpoiltUptoCard : Claim7 := { stood := { row := codeSpoiltUptoRow, standIns := [], harness := (true, "e8507322ae81aead97027e5dcedd9f703a3dbe9e30b7ff4040338551ae9cc470"), looks := true }, kinds := [], alts := [], laidByText := true, laidKinds := [.data, .data, .data, .data, .sentinel, .sentinel, .pinned], laidTests := true, laidLooks := .later }
def CodeSpoiltUptoCardSaid : Prop := Claim7.holds Tryz.pinned (.plain (OpenSpec.upto codeSpoiltSpec)) codeSpoiltUptoCard

/-- THE SECOND FORM's CARD OF 'slothlaw17.CodeEnds'. -/
def codeEndsUptoCard : Claim7 := { stood := { row := codeEndsUptoRow, standIns := [], harness := (true, "e8507322ae81aead97027e5dcedd9f703a3dbe9e30b7ff4040338551ae9cc470"), looks := true }, kinds := [], alts := [], laidByText := true, laidKinds := [.data, .data, .data, .data, .sentinel, .sentinel, .pinned], laidTests := true, laidLooks := .later }
def CodeEndsUptoCardSaid : Prop := Claim7.holds Tryz.pinned (.plain (OpenSpec.upto codeEndsSpec)) codeEndsUptoCard
end Rows
end Go.Proofs.YtjpnaaebfdnccaaGreatDoor
