/-
  No cell of these rows narrows 'for every input' (looked for: loops, veiled, ifaces, maps, wideKeys, modest, calm, conditions, laid).
  DERIVED. THE GIVEN ROWS OF THIS SEAT. 3 by the template 'for every input the law returns true; each argument reads behind the call as it read before'; 0 by the template 'total and deterministic' (their statements: YtmiclhjnjhoijaaTotals.lean).
  GIVEN WITH THE SEED: the statements are not yours to turn. If you find one false, say at which input.
  Laid BY PROGRAM, IN A SANDBOX (cutbox-rows.mjs): the forced cells as the released guide's own fill.sh prints them over the translation 3c6f56b0a464b0ef… (all of the seat's roots in one cut). By AI agents, Wed Nov 11 2026. No macro, syntax, notation, axiom, sorry.
-/
import Derived.Test.YtmiclhjnjhoijaaChecked
import GoSem.Claim
import GoSem.ClaimJoined
import GoSem.ClaimMapViews
import Derived.JoinedTies
import Derived.KernelRfl
namespace Go.Proofs.Ytmiclhjnjhoijaa
/- THE CELL 'sum', in the pinned program and in every row, IS THE sha256 OF THE DUMP (.gsa) THAT YtmiclhjnjhoijaaProg.lean LOADS. Nothing in Lean hashes anything: it is a label: what it is worth is what the hold of that sum in a sandbox is worth. -/
noncomputable def Try.pinned : Pinned := { name := "ytmiclhjnjhoijaa", sum := "3c6f56b0a464b0ef7b332c12e46a1ddb7505bbb9e915a27f4f815d1e727a338f", checked := Try.checked }
namespace Rows
def none {H : Type} : Left H := { results := [], args := [] }

/-- 'slothlaw19.PeepPeeps': WHATEVER THE INPUT: true; the input reads as it did. -/
def peepPeepsSpec : ChangeSpec := { name := "peepPeeps", fn := fun _ => fun
  | [d] => { results := [.lit (.bool true)], args := [d] }
  | _ => none }
def peepPeepsRow : OpenClaim := { program := "ytmiclhjnjhoijaa", sum := "3c6f56b0a464b0ef7b332c12e46a1ddb7505bbb9e915a27f4f815d1e727a338f", func := "sloth/slothlaw19.PeepPeeps", spec := "peepPeeps", unfollowed := true, recurses := true, apart := false }
def PeepPeepsSaid : Prop := peepPeepsRow.holds Try.pinned (OpenSpec.ofChange peepPeepsSpec)

/-- ITS FALSE NEIGHBOUR: 'it returns false'. Refute it at one input. -/
def peepPeepsWrong : ChangeSpec := { name := "peepPeeps", fn := fun _ => fun
  | [d] => { results := [.lit (.bool false)], args := [d] }
  | _ => none }
def PeepPeepsWrongFalsely : Prop := peepPeepsRow.holds Try.pinned (OpenSpec.ofChange peepPeepsWrong)

/-- 'slothlaw19.PeepKeeps': WHATEVER THE INPUT: true; the input reads as it did. -/
def peepKeepsSpec : ChangeSpec := { name := "peepKeeps", fn := fun _ => fun
  | [d] => { results := [.lit (.bool true)], args := [d] }
  | _ => none }
def peepKeepsRow : OpenClaim := { program := "ytmiclhjnjhoijaa", sum := "3c6f56b0a464b0ef7b332c12e46a1ddb7505bbb9e915a27f4f815d1e727a338f", func := "sloth/slothlaw19.PeepKeeps", spec := "peepKeeps", unfollowed := true, recurses := true, apart := false }
def PeepKeepsSaid : Prop := peepKeepsRow.holds Try.pinned (OpenSpec.ofChange peepKeepsSpec)

/-- ITS FALSE NEIGHBOUR: 'it returns false'. Refute it at one input. -/
def peepKeepsWrong : ChangeSpec := { name := "peepKeeps", fn := fun _ => fun
  | [d] => { results := [.lit (.bool false)], args := [d] }
  | _ => none }
def PeepKeepsWrongFalsely : Prop := peepKeepsRow.holds Try.pinned (OpenSpec.ofChange peepKeepsWrong)

/-- 'slothlaw19.PeepAlone': WHATEVER THE INPUT: true; the input reads as it did. -/
def peepAloneSpec : ChangeSpec := { name := "peepAlone", fn := fun _ => fun
  | [d1, d2] => { results := [.lit (.bool true)], args := [d1, d2] }
  | _ => none }
def peepAloneRow : OpenClaim := { program := "ytmiclhjnjhoijaa", sum := "3c6f56b0a464b0ef7b332c12e46a1ddb7505bbb9e915a27f4f815d1e727a338f", func := "sloth/slothlaw19.PeepAlone", spec := "peepAlone", unfollowed := true, recurses := true, apart := false }
def PeepAloneSaid : Prop := peepAloneRow.holds Try.pinned (OpenSpec.ofChange peepAloneSpec)

/-- ITS FALSE NEIGHBOUR: 'it returns false'. Refute it at one input. -/
def peepAloneWrong : ChangeSpec := { name := "peepAlone", fn := fun _ => fun
  | [d1, d2] => { results := [.lit (.bool false)], args := [d1, d2] }
  | _ => none }
def PeepAloneWrongFalsely : Prop := peepAloneRow.holds Try.pinned (OpenSpec.ofChange peepAloneWrong)

/- THE SECOND FORM. 'bulk': how many values and letters a reading holds, each counted each time it is reached (what is shared counts as often as it is met; a slice's spare places count too). A statement '..UptoSaid' is the law's where the arguments, and the package variables that the reading takes, are together of bulk at most 1048576: NARROWER than '..Said'. Prove '..Said' where nothing that the law and all that it calls make is longer than what came in: it says more and counts as full. Else prove '..UptoSaid'. A law counts once. -/
mutual
def uptoBulk {H : Type} : DataW H → Nat
  | .lit (.string bytes) => bytes.length + 1
  | .lit _ => 1
  | .nil => 1
  | .ptr d => uptoBulk d + 1
  | .slice elems spare => uptoBulkAll elems + uptoBulkAll spare + 1
  | .agg parts => uptoBulkAll parts + 1
  | .iface _ d => uptoBulk d + 1
  | .map entries => uptoBulkEntries entries + 1
  | .held _ => 1
def uptoBulkAll {H : Type} : List (DataW H) → Nat
  | [] => 0
  | d :: r => uptoBulk d + uptoBulkAll r
def uptoBulkEntries {H : Type} : List (Lit × DataW H) → Nat
  | [] => 0
  | x :: r => uptoBulkEntry x + uptoBulkEntries r
def uptoBulkEntry {H : Type} : Lit × DataW H → Nat
  | (.string bytes, d) => bytes.length + uptoBulk d + 1
  | (_, d) => uptoBulk d + 1
 end
def uptoSmall : (H : Type) → List (DataW H) → Bool := fun _ ds => decide (uptoBulkAll ds ≤ 1048576)
def OpenSpec.upto (s : _root_.Go.ChangeSpec) : _root_.Go.OpenSpec := { _root_.Go.OpenSpec.ofChange s with cond := some uptoSmall }

/-- 'slothlaw19.PeepPeeps', WHERE WHAT IT READS IS OF BULK AT MOST 1048576: true; the input reads as it did. -/
def peepPeepsUptoRow : OpenClaim := { program := "ytmiclhjnjhoijaa", sum := "3c6f56b0a464b0ef7b332c12e46a1ddb7505bbb9e915a27f4f815d1e727a338f", func := "sloth/slothlaw19.PeepPeeps", spec := "peepPeeps", unfollowed := true, recurses := true, apart := false, narrowed := true }
def PeepPeepsUptoSaid : Prop := peepPeepsUptoRow.holds Try.pinned (OpenSpec.upto peepPeepsSpec)

/-- 'slothlaw19.PeepKeeps', WHERE WHAT IT READS IS OF BULK AT MOST 1048576: true; the input reads as it did. -/
def peepKeepsUptoRow : OpenClaim := { program := "ytmiclhjnjhoijaa", sum := "3c6f56b0a464b0ef7b332c12e46a1ddb7505bbb9e915a27f4f815d1e727a338f", func := "sloth/slothlaw19.PeepKeeps", spec := "peepKeeps", unfollowed := true, recurses := true, apart := false, narrowed := true }
def PeepKeepsUptoSaid : Prop := peepKeepsUptoRow.holds Try.pinned (OpenSpec.upto peepKeepsSpec)

/-- 'slothlaw19.PeepAlone', WHERE WHAT IT READS IS OF BULK AT MOST 1048576: true; the input reads as it did. -/
def peepAloneUptoRow : OpenClaim := { program := "ytmiclhjnjhoijaa", sum := "3c6f56b0a464b0ef7b332c12e46a1ddb7505bbb9e915a27f4f815d1e727a338f", func := "sloth/slothlaw19.PeepAlone", spec := "peepAlone", unfollowed := true, recurses := true, apart := false, narrowed := true }
def PeepAloneUptoSaid : Prop := peepAloneUptoRow.holds Try.pinned (OpenSpec.upto peepAloneSpec)

end Rows
end Go.Proofs.Ytmiclhjnjhoijaa
