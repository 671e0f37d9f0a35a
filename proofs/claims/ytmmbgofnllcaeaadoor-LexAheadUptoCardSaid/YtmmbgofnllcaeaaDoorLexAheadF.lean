/-
  LexAhead comes to true, whatever the input (of bulk at most 1048576); the input reads as it did.
  Conditions: the listed package-level tables read as the program's text lays them, and errors.errorType holds error's handle (tied by the card).
-/
import Derived.Test.YtmmbgofnllcaeaaDoorLexJoinsE
import Derived.Test.YtmmbgofnllcaeaaDoorProg
import Derived.WalkKit
import Derived.LaidEql
import Derived.Stop.Asserts
import Derived.RowKitTokens
import Derived.Test.YtmmbgofnllcaeaaDoorChecked
import Derived.Below
import Derived.Handy
import Derived.Shelf.Strings.BuilderK
import Derived.Test.YtmmbgofnllcaeaaDoorRows
import Derived.ProofKit
import Derived.OpenShut
import Derived.Deep.DeepHandedRow
import Derived.Lib.LaidTab
import Derived.Lib.LaidIn
import Derived.ChangeMaps5
import Derived.LaidHandle
import Derived.Test.YtmmbgofnllcaeaaDoorCards
import Derived.Test.YtmmbgofnllcaeaaDoorTie
set_option linter.unusedVariables false
set_option linter.unusedSimpArgs false

section
namespace Go.Vm
open Go.Shelf Go.Proofs

theorem eTok_inj (a b : Tok) (h : eTok a = eTok b) : a = b := by
  cases a; cases b
  simp only [eTok, List.cons.injEq, D.int.injEq, D.str.injEq, true_and, and_true] at h
  simp only [Tok.mk.injEq]
  exact h
theorem mapT_inj : ∀ l l' : List Tok, l.map eTok = l'.map eTok → l = l'
  | [], [], _ => rfl
  | [], _ :: _, h => by simp at h
  | _ :: _, [], h => by simp at h
  | a :: l, b :: l', h => by
    simp only [List.map_cons, List.cons.injEq] at h
    rw [eTok_inj a b h.1, mapT_inj l l' h.2]
theorem mT (l l' : List Tok) : l.map eTok = l'.map eTok ↔ l = l' := ⟨mapT_inj l l', fun h => by rw [h]⟩
theorem vT_inj (t u : Tok) : vT t = vT u ↔ t = u := by
  constructor
  · intro h
    cases t; cases u
    simp only [vT, V.agg.injEq, List.cons.injEq, V.d.injEq, D.int.injEq, D.str.injEq, true_and, and_true] at h
    simp only [Tok.mk.injEq]
    exact h
  · intro h; rw [h]
theorem lexV_ease (s : BS) : (lexV0 s).ease = lexV s := by
  unfold lexV0 lexV
  split
  · rfl
  · split
    · rename_i h; rw [h]; rfl
    · rename_i h; rw [h]; rfl
    · rename_i h; rw [h]; rfl

noncomputable def z85 : Sp where
  α := UInt8
  f := 85
  ok := fun c => True
  args := fun c => [vS hexd, .d false (.int .u8 (c : UInt8).toNat)]
  res := fun c => (vI (hexB c), [])
  inj := by
    rintro c c' _ _ h
    simp only [vS, vI, slT, vT_inj, List.cons.injEq, V.agg.injEq, V.d.injEq, D.sl.injEq, D.int.injEq, D.str.injEq, D.ptr.injEq, Int.natCast_inj, UInt8.toNat_inj, mT, true_and, and_true] at h
    rw [h]
noncomputable def z38 : Sp where
  α := Int
  f := 38
  ok := fun n => (-9223372036854775808 ≤ n) ∧ (n ≤ 9223372036854775807)
  args := fun n => [vI n]
  res := fun n => (vS (Lib.itoa n), [])
  inj := by
    rintro n n' _ _ h
    simp only [vS, vI, slT, vT_inj, List.cons.injEq, V.agg.injEq, V.d.injEq, D.sl.injEq, D.int.injEq, D.str.injEq, D.ptr.injEq, Int.natCast_inj, UInt8.toNat_inj, mT, true_and, and_true] at h
    rw [h]
noncomputable def z27 : Sp where
  α := BS × Nat
  f := 27
  ok := fun (s, i) => (i ≤ s.length)
  args := fun (s, i) => [vS s, vI i]
  res := fun (s, i) => (.d false (.int .u8 (cls (s.drop i))), [])
  inj := by
    rintro ⟨s, i⟩ ⟨s', i'⟩ _ _ h
    simp only [vS, vI, slT, vT_inj, List.cons.injEq, V.agg.injEq, V.d.injEq, D.sl.injEq, D.int.injEq, D.str.injEq, D.ptr.injEq, Int.natCast_inj, UInt8.toNat_inj, mT, true_and, and_true] at h
    simp only [h]
noncomputable def z30 : Sp where
  α := BS × Nat × Nat
  f := 30
  ok := fun (s, i, k) => (i ≤ s.length) ∧ (s.length ≤ 2000000) ∧ (k ≠ 0)
  args := fun (s, i, k) => [vS s, vI i, .d false (.int .u8 k)]
  res := fun (s, i, k) => (vI ((i + runL k (s.drop i) : Nat)), [])
  inj := by
    rintro ⟨s, i, k⟩ ⟨s', i', k'⟩ _ _ h
    simp only [vS, vI, slT, vT_inj, List.cons.injEq, V.agg.injEq, V.d.injEq, D.sl.injEq, D.int.injEq, D.str.injEq, D.ptr.injEq, Int.natCast_inj, UInt8.toNat_inj, mT, true_and, and_true] at h
    simp only [h]
noncomputable def z48 : Sp where
  α := BS × Nat
  f := 48
  ok := fun (s, i) => (i ≤ s.length)
  args := fun (s, i) => [vS s, vI i]
  res := fun (s, i) => (.d false (.bool (inNm (s.drop i))), [])
  inj := by
    rintro ⟨s, i⟩ ⟨s', i'⟩ _ _ h
    simp only [vS, vI, slT, vT_inj, List.cons.injEq, V.agg.injEq, V.d.injEq, D.sl.injEq, D.int.injEq, D.str.injEq, D.ptr.injEq, Int.natCast_inj, UInt8.toNat_inj, mT, true_and, and_true] at h
    simp only [h]
noncomputable def z42 : Sp where
  α := BS × Nat
  f := 42
  ok := fun (s, i) => (i ≤ s.length) ∧ (s.length ≤ 2000000)
  args := fun (s, i) => [vS s, vI i]
  res := fun (s, i) => (vI ((i + nameL (s.drop i) : Nat)), [])
  inj := by
    rintro ⟨s, i⟩ ⟨s', i'⟩ _ _ h
    simp only [vS, vI, slT, vT_inj, List.cons.injEq, V.agg.injEq, V.d.injEq, D.sl.injEq, D.int.injEq, D.str.injEq, D.ptr.injEq, Int.natCast_inj, UInt8.toNat_inj, mT, true_and, and_true] at h
    simp only [h]
noncomputable def z40 : Sp where
  α := BS × BS
  f := 40
  ok := fun (p, s) => (s.length ≤ 2000000) ∧ (p.length ≤ 2000000)
  args := fun (p, s) => [vS s, vS p]
  res := fun (p, s) => (.d false (.bool (pre p s)), [])
  inj := by
    rintro ⟨p, s⟩ ⟨p', s'⟩ _ _ h
    simp only [vS, vI, slT, vT_inj, List.cons.injEq, V.agg.injEq, V.d.injEq, D.sl.injEq, D.int.injEq, D.str.injEq, D.ptr.injEq, Int.natCast_inj, UInt8.toNat_inj, mT, true_and, and_true] at h
    simp only [h]
noncomputable def z28 : Sp where
  α := BS × BS
  f := 28
  ok := fun (p, s) => (s.length ≤ 2000000) ∧ (p.length ≤ 2000000)
  args := fun (p, s) => [vS s, vS p]
  res := fun (p, s) => (.d false (.bool (pre p s)), [])
  inj := by
    rintro ⟨p, s⟩ ⟨p', s'⟩ _ _ h
    simp only [vS, vI, slT, vT_inj, List.cons.injEq, V.agg.injEq, V.d.injEq, D.sl.injEq, D.int.injEq, D.str.injEq, D.ptr.injEq, Int.natCast_inj, UInt8.toNat_inj, mT, true_and, and_true] at h
    simp only [h]
noncomputable def z43 : Sp where
  α := BS
  f := 43
  ok := fun s => True
  args := fun s => [vS s]
  res := fun s => (.d false (.bool (resv s)), [])
  inj := by
    rintro s s' _ _ h
    simp only [vS, vI, slT, vT_inj, List.cons.injEq, V.agg.injEq, V.d.injEq, D.sl.injEq, D.int.injEq, D.str.injEq, D.ptr.injEq, Int.natCast_inj, UInt8.toNat_inj, mT, true_and, and_true] at h
    rw [h]
noncomputable def z46 : Sp where
  α := BS
  f := 46
  ok := fun s => True
  args := fun s => [vS s]
  res := fun s => (.d false (.bool (isSg s)), [])
  inj := by
    rintro s s' _ _ h
    simp only [vS, vI, slT, vT_inj, List.cons.injEq, V.agg.injEq, V.d.injEq, D.sl.injEq, D.int.injEq, D.str.injEq, D.ptr.injEq, Int.natCast_inj, UInt8.toNat_inj, mT, true_and, and_true] at h
    rw [h]
noncomputable def z61 : Sp where
  α := BS × UInt8
  f := 61
  ok := fun (s, c) => (s.length ≤ 2000000)
  args := fun (s, c) => [vS s, .d false (.int .u8 (c : UInt8).toNat)]
  res := fun (s, c) => (vS (trL c s), [])
  inj := by
    rintro ⟨s, c⟩ ⟨s', c'⟩ _ _ h
    simp only [vS, vI, slT, vT_inj, List.cons.injEq, V.agg.injEq, V.d.injEq, D.sl.injEq, D.int.injEq, D.str.injEq, D.ptr.injEq, Int.natCast_inj, UInt8.toNat_inj, mT, true_and, and_true] at h
    simp only [h]
noncomputable def z62 : Sp where
  α := BS × UInt8
  f := 62
  ok := fun (s, c) => (s.length ≤ 2000000)
  args := fun (s, c) => [vS s, .d false (.int .u8 (c : UInt8).toNat)]
  res := fun (s, c) => (vS (trR c s), [])
  inj := by
    rintro ⟨s, c⟩ ⟨s', c'⟩ _ _ h
    simp only [vS, vI, slT, vT_inj, List.cons.injEq, V.agg.injEq, V.d.injEq, D.sl.injEq, D.int.injEq, D.str.injEq, D.ptr.injEq, Int.natCast_inj, UInt8.toNat_inj, mT, true_and, and_true] at h
    simp only [h]
noncomputable def z41 : Sp where
  α := BS
  f := 41
  ok := fun s => (s ≠ []) ∧ (s.length ≤ 2000000)
  args := fun s => [vS s, vS [45]]
  res := fun s => (vS (trL 45 (trR 45 s)), [])
  inj := by
    rintro s s' _ _ h
    simp only [vS, vI, slT, vT_inj, List.cons.injEq, V.agg.injEq, V.d.injEq, D.sl.injEq, D.int.injEq, D.str.injEq, D.ptr.injEq, Int.natCast_inj, UInt8.toNat_inj, mT, true_and, and_true] at h
    rw [h]
noncomputable def z31 : Sp where
  α := BS
  f := 31
  ok := fun s => (s.length ≤ 2000000)
  args := fun s => [vS s]
  res := fun s => (.d false (.bool (dsh s)), [])
  inj := by
    rintro s s' _ _ h
    simp only [vS, vI, slT, vT_inj, List.cons.injEq, V.agg.injEq, V.d.injEq, D.sl.injEq, D.int.injEq, D.str.injEq, D.ptr.injEq, Int.natCast_inj, UInt8.toNat_inj, mT, true_and, and_true] at h
    rw [h]
noncomputable def z29 : Sp where
  α := BS × Nat
  f := 29
  ok := fun (s, i) => (i ≤ s.length) ∧ (s.length ≤ 2000000)
  args := fun (s, i) => [vS s, vI i]
  res := fun (s, i) => (vI (match comL 0 (s.drop i) with | some n => ((i + n : Nat) : Int) | none => -1), [])
  inj := by
    rintro ⟨s, i⟩ ⟨s', i'⟩ _ _ h
    simp only [vS, vI, slT, vT_inj, List.cons.injEq, V.agg.injEq, V.d.injEq, D.sl.injEq, D.int.injEq, D.str.injEq, D.ptr.injEq, Int.natCast_inj, UInt8.toNat_inj, mT, true_and, and_true] at h
    simp only [h]
noncomputable def z68 : Sp where
  α := BS × Nat
  f := 68
  ok := fun (s, i) => (s.length ≤ 2000000)
  args := fun (s, i) => [vS s, vI i]
  res := fun (s, i) => (.d false (.int .u8 (bAt (s.drop i)).toNat), [])
  inj := by
    rintro ⟨s, i⟩ ⟨s', i'⟩ _ _ h
    simp only [vS, vI, slT, vT_inj, List.cons.injEq, V.agg.injEq, V.d.injEq, D.sl.injEq, D.int.injEq, D.str.injEq, D.ptr.injEq, Int.natCast_inj, UInt8.toNat_inj, mT, true_and, and_true] at h
    simp only [h]
noncomputable def z69 : Sp where
  α := BS × Nat
  f := 69
  ok := fun (s, i) => (s.length ≤ 2000000)
  args := fun (s, i) => [vS s, vI i]
  res := fun (s, i) => (vI (hexL (s.drop i)), [])
  inj := by
    rintro ⟨s, i⟩ ⟨s', i'⟩ _ _ h
    simp only [vS, vI, slT, vT_inj, List.cons.injEq, V.agg.injEq, V.d.injEq, D.sl.injEq, D.int.injEq, D.str.injEq, D.ptr.injEq, Int.natCast_inj, UInt8.toNat_inj, mT, true_and, and_true] at h
    simp only [h]
noncomputable def z44 : Sp where
  α := BS × Nat
  f := 44
  ok := fun (s, i) => (i ≤ s.length) ∧ (s.length ≤ 2000000)
  args := fun (s, i) => [vS s, vI i]
  res := fun (s, i) => (.tup [vI (upS (s.drop i)).1, vI ((i + (upS (s.drop i)).2 : Nat))], [])
  inj := by
    rintro ⟨s, i⟩ ⟨s', i'⟩ _ _ h
    simp only [vS, vI, slT, vT_inj, List.cons.injEq, V.agg.injEq, V.d.injEq, D.sl.injEq, D.int.injEq, D.str.injEq, D.ptr.injEq, Int.natCast_inj, UInt8.toNat_inj, mT, true_and, and_true] at h
    simp only [h]
noncomputable def z70 : Sp where
  α := BS × Nat × UInt8
  f := 70
  ok := fun (s, i, q) => (s.length ≤ 2000000) ∧ (i ≤ s.length)
  args := fun (s, i, q) => [vS s, vI i, .d false (.int .u8 (q : UInt8).toNat)]
  res := fun (s, i, q) => (vSound i (soundS (s.drop i) q), [])
  inj := by
    rintro ⟨s, i, q⟩ ⟨s', i', q'⟩ _ _ h
    simp only [vS, vI, slT, vT_inj, List.cons.injEq, V.agg.injEq, V.d.injEq, D.sl.injEq, D.int.injEq, D.str.injEq, D.ptr.injEq, Int.natCast_inj, UInt8.toNat_inj, mT, true_and, and_true] at h
    simp only [h]
noncomputable def z45 : Sp where
  α := BS × Nat
  f := 45
  ok := fun (s, i) => (i < s.length) ∧ (s.length ≤ 2000000)
  args := fun (s, i) => [vS s, vI i]
  res := fun (s, i) => (stV i (numS (s.drop i)), [])
  inj := by
    rintro ⟨s, i⟩ ⟨s', i'⟩ _ _ h
    simp only [vS, vI, slT, vT_inj, List.cons.injEq, V.agg.injEq, V.d.injEq, D.sl.injEq, D.int.injEq, D.str.injEq, D.ptr.injEq, Int.natCast_inj, UInt8.toNat_inj, mT, true_and, and_true] at h
    simp only [h]
noncomputable def z47 : Sp where
  α := BS × Nat
  f := 47
  ok := fun (s, i) => (i < s.length) ∧ (s.length ≤ 2000000) ∧ ((bAt (s.drop i) = 34 ∨ bAt (s.drop i) = 39))
  args := fun (s, i) => [vS s, vI i]
  res := fun (s, i) => (stV i (quotS (s.drop i)), [])
  inj := by
    rintro ⟨s, i⟩ ⟨s', i'⟩ _ _ h
    simp only [vS, vI, slT, vT_inj, List.cons.injEq, V.agg.injEq, V.d.injEq, D.sl.injEq, D.int.injEq, D.str.injEq, D.ptr.injEq, Int.natCast_inj, UInt8.toNat_inj, mT, true_and, and_true] at h
    simp only [h]
noncomputable def z32 : Sp where
  α := BS × Nat
  f := 32
  ok := fun (s, i) => (i < s.length) ∧ (s.length ≤ 2000000)
  args := fun (s, i) => [vS s, vI i]
  res := fun (s, i) => (stV i (tokS (s.drop i)), [])
  inj := by
    rintro ⟨s, i⟩ ⟨s', i'⟩ _ _ h
    simp only [vS, vI, slT, vT_inj, List.cons.injEq, V.agg.injEq, V.d.injEq, D.sl.injEq, D.int.injEq, D.str.injEq, D.ptr.injEq, Int.natCast_inj, UInt8.toNat_inj, mT, true_and, and_true] at h
    simp only [h]
noncomputable def z13 : Sp where
  α := BS
  f := 13
  ok := fun s => (s.length ≤ 2000000)
  args := fun s => [vS s]
  res := fun s => (lexV s, [])
  inj := by
    rintro s s' _ _ h
    simp only [vS, vI, slT, vT_inj, List.cons.injEq, V.agg.injEq, V.d.injEq, D.sl.injEq, D.int.injEq, D.str.injEq, D.ptr.injEq, Int.natCast_inj, UInt8.toNat_inj, mT, true_and, and_true] at h
    rw [h]
noncomputable def z39 : Sp where
  α := BS × UInt8
  f := 39
  ok := fun (s, q) => (s.length ≤ 2000000) ∧ ((q = 39 ∨ q = 34))
  args := fun (s, q) => [vS s, .d false (.int .u8 (q : UInt8).toNat)]
  res := fun (s, q) => (vS (escS s q), [])
  inj := by
    rintro ⟨s, q⟩ ⟨s', q'⟩ _ _ h
    simp only [vS, vI, slT, vT_inj, List.cons.injEq, V.agg.injEq, V.d.injEq, D.sl.injEq, D.int.injEq, D.str.injEq, D.ptr.injEq, Int.natCast_inj, UInt8.toNat_inj, mT, true_and, and_true] at h
    simp only [h]
noncomputable def z25 : Sp where
  α := Tok
  f := 25
  ok := fun t => (TokI t)
  args := fun t => [vT t]
  res := fun t => (vS (writS t), [])
  inj := by
    rintro t t' _ _ h
    simp only [vS, vI, slT, vT_inj, List.cons.injEq, V.agg.injEq, V.d.injEq, D.sl.injEq, D.int.injEq, D.str.injEq, D.ptr.injEq, Int.natCast_inj, UInt8.toNat_inj, mT, true_and, and_true] at h
    rw [h]
noncomputable def z21 : Sp where
  α := Tok
  f := 21
  ok := fun t => (TokI t)
  args := fun t => [vT t]
  res := fun t => (.d false (.bool (escTokS t)), [])
  inj := by
    rintro t t' _ _ h
    simp only [vS, vI, slT, vT_inj, List.cons.injEq, V.agg.injEq, V.d.injEq, D.sl.injEq, D.int.injEq, D.str.injEq, D.ptr.injEq, Int.natCast_inj, UInt8.toNat_inj, mT, true_and, and_true] at h
    rw [h]
noncomputable def z11 : Sp where
  α := List Tok
  f := 11
  ok := fun l => (TokL l)
  args := fun l => [slT l]
  res := fun l => (printV l, [])
  inj := by
    rintro l l' _ _ h
    simp only [vS, vI, slT, vT_inj, List.cons.injEq, V.agg.injEq, V.d.injEq, D.sl.injEq, D.int.injEq, D.str.injEq, D.ptr.injEq, Int.natCast_inj, UInt8.toNat_inj, mT, true_and, and_true] at h
    rw [h]
noncomputable def z12 : Sp where
  α := List Tok × List Tok
  f := 12
  ok := fun (a, b) => (a.length ≤ 4611686018427387903) ∧ (b.length ≤ 4611686018427387903)
  args := fun (a, b) => [slT a, slT b]
  res := fun (a, b) => (.d false (.bool (decide (a = b))), [])
  inj := by
    rintro ⟨a, b⟩ ⟨a', b'⟩ _ _ h
    simp only [vS, vI, slT, vT_inj, List.cons.injEq, V.agg.injEq, V.d.injEq, D.sl.injEq, D.int.injEq, D.str.injEq, D.ptr.injEq, Int.natCast_inj, UInt8.toNat_inj, mT, true_and, and_true] at h
    simp only [h]
noncomputable def z14 : Sp where
  α := List Tok × List Tok
  f := 14
  ok := fun (a, b) => (a.length ≤ 4611686018427387903) ∧ (b.length ≤ 4611686018427387903)
  args := fun (a, b) => [slT a, slT b]
  res := fun (a, b) => (.d false (.bool (likeL a b)), [])
  inj := by
    rintro ⟨a, b⟩ ⟨a', b'⟩ _ _ h
    simp only [vS, vI, slT, vT_inj, List.cons.injEq, V.agg.injEq, V.d.injEq, D.sl.injEq, D.int.injEq, D.str.injEq, D.ptr.injEq, Int.natCast_inj, UInt8.toNat_inj, mT, true_and, and_true] at h
    simp only [h]
noncomputable def z15 : Sp where
  α := BS
  f := 15
  ok := fun c => (c.length ≤ 2000000)
  args := fun c => [vS c]
  res := fun c => (vS (c.filter plainB), [])
  inj := by
    rintro c c' _ _ h
    simp only [vS, vI, slT, vT_inj, List.cons.injEq, V.agg.injEq, V.d.injEq, D.sl.injEq, D.int.injEq, D.str.injEq, D.ptr.injEq, Int.natCast_inj, UInt8.toNat_inj, mT, true_and, and_true] at h
    rw [h]
noncomputable def z16 : Sp where
  α := List Tok × Nat
  f := 16
  ok := fun (l, j) => (l.length ≤ 2000000) ∧ (j ≤ 2000000) ∧ ((∀ t ∈ l, 0 ≤ t.at_ ∧ t.at_ ≤ 2000000))
  args := fun (l, j) => [slT l, vI j]
  res := fun (l, j) => (outN (l.map (mvT j)), newsN (l.map (mvT j)))
  inj := by
    rintro ⟨l, j⟩ ⟨l', j'⟩ _ _ h
    simp only [vS, vI, slT, vT_inj, List.cons.injEq, V.agg.injEq, V.d.injEq, D.sl.injEq, D.int.injEq, D.str.injEq, D.ptr.injEq, Int.natCast_inj, UInt8.toNat_inj, mT, true_and, and_true] at h
    simp only [h]
noncomputable def z9 : Sp where
  α := Unit
  f := 9
  ok := fun u => True
  args := fun u => []
  res := fun u => (.d false (.bool true), [])
  inj := by
    rintro u u' _ _ h
    rfl
noncomputable def y22 : Se where
  α := BS × UInt8
  f := 22
  ok := fun (b, c) => b.length ≤ 100000000
  args := fun (b, c) => [.ptr 0 0 0, .d false (.int .u8 (c : UInt8).toNat)]
  blks := fun (b, c) => [bldB 50 1 b.length, bufB 5 b]
  res := fun (b, c) => (.d false .nilif, [bldB 50 1 (b ++ [c]).length, bufB 5 (b ++ [c])], [1])
  inj := by
    rintro ⟨b, c⟩ ⟨b', c'⟩ _ _ h g
    simp only [vS, vI, bldB, bufB, List.cons.injEq, V.d.injEq, D.int.injEq, D.str.injEq, Blk.map.injEq, Prod.mk.injEq, Int.natCast_inj, UInt8.toNat_inj, true_and, and_true] at h g
    simp only [h, g]
noncomputable def y24 : Se where
  α := BS × BS
  f := 24
  ok := fun (b, s) => b.length ≤ 100000000 ∧ s.length ≤ 100000000
  args := fun (b, s) => [.ptr 0 0 0, vS s]
  blks := fun (b, s) => [bldB 50 1 b.length, bufB 5 b]
  res := fun (b, s) => (.tup [vI s.length, .d false .nilif], [bldB 50 1 (b ++ s).length, bufB 5 (b ++ s)], [1])
  inj := by
    rintro ⟨b, s⟩ ⟨b', s'⟩ _ _ h g
    simp only [vS, vI, bldB, bufB, List.cons.injEq, V.d.injEq, D.int.injEq, D.str.injEq, Blk.map.injEq, Prod.mk.injEq, Int.natCast_inj, UInt8.toNat_inj, true_and, and_true] at h g
    simp only [h, g]
noncomputable def y23 : Se where
  α := BS
  f := 23
  ok := fun b => True
  args := fun b => [.ptr 0 0 0]
  blks := fun b => [bldB 50 1 b.length, bufB 5 b]
  res := fun b => (vI b.length, [bldB 50 1 b.length, bufB 5 b], [])
  inj := by
    rintro b b' _ _ h g
    simp only [vS, vI, bldB, bufB, List.cons.injEq, V.d.injEq, D.int.injEq, D.str.injEq, Blk.map.injEq, Prod.mk.injEq, Int.natCast_inj, UInt8.toNat_inj, true_and, and_true] at h g
    simp only [g]
noncomputable def y26 : Se where
  α := BS
  f := 26
  ok := fun b => True
  args := fun b => [.ptr 0 0 0]
  blks := fun b => [bldB 50 1 b.length, bufB 5 b]
  res := fun b => (vS b, [bldB 50 1 b.length, bufB 5 b], [1])
  inj := by
    rintro b b' _ _ h g
    simp only [vS, vI, bldB, bufB, List.cons.injEq, V.d.injEq, D.int.injEq, D.str.injEq, Blk.map.injEq, Prod.mk.injEq, Int.natCast_inj, UInt8.toNat_inj, true_and, and_true] at h g
    simp only [g]
theorem e22_of {L E} (h : HasE E y22) : E22 (cx GT L E) := fun b c h1 => h (b, c) h1
theorem e24_of {L E} (h : HasE E y24) : E24 (cx GT L E) := fun b s h1 h2 => h (b, s) ⟨h1, h2⟩
theorem e23_of {L E} (h : HasE E y23) : E23 (cx GT L E) := fun b => h b trivial
theorem e26_of {L E} (h : HasE E y26) : E26 (cx GT L E) := fun b => h b trivial
theorem k85_of {L E} (h : Has L z85) : K85 (cx GT L E) := fun c => h c trivial
theorem k38_of {L E} (h : Has L z38) : K38 (cx GT L E) := fun n h1 h2 => h n ⟨h1, h2⟩
theorem k27_of {L E} (h : Has L z27) : K27 (cx GT L E) := fun s i h1 => h (s, i) h1
theorem k30_of {L E} (h : Has L z30) : K30 (cx GT L E) := fun s i k h1 h2 h3 => h (s, i, k) ⟨h1, h2, h3⟩
theorem k48_of {L E} (h : Has L z48) : K48 (cx GT L E) := fun s i h1 => h (s, i) h1
theorem k42_of {L E} (h : Has L z42) : K42 (cx GT L E) := fun s i h1 h2 => h (s, i) ⟨h1, h2⟩
theorem k40_of {L E} (h : Has L z40) : K40 (cx GT L E) := fun p s h1 h2 => h (p, s) ⟨h1, h2⟩
theorem k28_of {L E} (h : Has L z28) : K28 (cx GT L E) := fun p s h1 h2 => h (p, s) ⟨h1, h2⟩
theorem k43_of {L E} (h : Has L z43) : K43 (cx GT L E) := fun s => h s trivial
theorem k46_of {L E} (h : Has L z46) : K46 (cx GT L E) := fun s => h s trivial
theorem k61_of {L E} (h : Has L z61) : K61 (cx GT L E) := fun s c h1 => h (s, c) h1
theorem k62_of {L E} (h : Has L z62) : K62 (cx GT L E) := fun s c h1 => h (s, c) h1
theorem k41_of {L E} (h : Has L z41) : K41 (cx GT L E) := fun s h1 h2 => h s ⟨h1, h2⟩
theorem k31_of {L E} (h : Has L z31) : K31 (cx GT L E) := fun s h1 => h s h1
theorem k29_of {L E} (h : Has L z29) : K29 (cx GT L E) := fun s i h1 h2 => h (s, i) ⟨h1, h2⟩
theorem k68_of {L E} (h : Has L z68) : K68 (cx GT L E) := fun s i h1 => h (s, i) h1
theorem k69_of {L E} (h : Has L z69) : K69 (cx GT L E) := fun s i h1 => h (s, i) h1
theorem k44_of {L E} (h : Has L z44) : K44 (cx GT L E) := fun s i h1 h2 => h (s, i) ⟨h1, h2⟩
theorem k70_of {L E} (h : Has L z70) : K70 (cx GT L E) := fun s i q h1 h2 => h (s, i, q) ⟨h1, h2⟩
theorem k45_of {L E} (h : Has L z45) : K45 (cx GT L E) := fun s i h1 h2 => h (s, i) ⟨h1, h2⟩
theorem k47_of {L E} (h : Has L z47) : K47 (cx GT L E) := fun s i h1 h2 h3 => h (s, i) ⟨h1, h2, h3⟩
theorem k32_of {L E} (h : Has L z32) : K32 (cx GT L E) := fun s i h1 h2 => h (s, i) ⟨h1, h2⟩
theorem k13_of {L E} (h : Has L z13) : K13 (cx GT L E) := fun s h1 => h s h1
theorem k39_of {L E} (h : Has L z39) : K39 (cx GT L E) := fun s q h1 h2 => h (s, q) ⟨h1, h2⟩
theorem k25_of {L E} (h : Has L z25) : K25 (cx GT L E) := fun t h1 => h t h1
theorem k21_of {L E} (h : Has L z21) : K21 (cx GT L E) := fun t h1 => h t h1
theorem k11_of {L E} (h : Has L z11) : K11 (cx GT L E) := fun l h1 => h l h1
theorem k12_of {L E} (h : Has L z12) : K12 (cx GT L E) := fun a b h1 h2 => h (a, b) ⟨h1, h2⟩
theorem k14_of {L E} (h : Has L z14) : K14 (cx GT L E) := fun a b h1 h2 => h (a, b) ⟨h1, h2⟩
theorem k15_of {L E} (h : Has L z15) : K15 (cx GT L E) := fun c h1 => h c h1
theorem k16_of {L E} (h : Has L z16) : K16 (cx GT L E) := fun l j h1 h2 h3 => h (l, j) ⟨h1, h2, h3⟩
theorem k9_of {L E} (h : Has L z9) : K9 (cx GT L E) := h () trivial
theorem mixedD : Tryd.prog.follows .mixedOrders = true := by kernel_rfl
noncomputable def EE : List Se := [y22, y23, y24, y26]
theorem he22 : HasE EE y22 := hasE_head _ _
theorem he23 : HasE EE y23 := hasE_tail (hasE_head _ _) (by decide)
theorem he24 : HasE EE y24 := hasE_tail (hasE_tail (hasE_head _ _) (by decide)) (by decide)
theorem he26 : HasE EE y26 := hasE_tail (hasE_tail (hasE_tail (hasE_head _ _) (by decide)) (by decide)) (by decide)
theorem y22h : y22.Holds Tryd.prog GT := fun ⟨b, c⟩ h => ⟨by kernel_rfl, eff_WriteByte tB_wb b c (by have h : b.length ≤ 100000000 := h; omega)⟩
theorem y24h : y24.Holds Tryd.prog GT := fun ⟨b, s⟩ h => ⟨by kernel_rfl, eff_WriteString tB_ws b s (by have h : b.length ≤ 100000000 ∧ s.length ≤ 100000000 := h; omega)⟩
theorem y23h : y23.Holds Tryd.prog GT := fun b _ => ⟨by kernel_rfl, eff_Len Tryd.lays170 b⟩
theorem y26h : y26.Holds Tryd.prog GT := fun b _ => ⟨by kernel_rfl, eff_String Tryd.lays169 Tryd.Builder_Extra_169 b⟩
noncomputable def N0 : List Sp := []
theorem zn0 : Known Tryd.prog GT N0 EE := (((Known.nil.putE y26h).putE y24h).putE y23h).putE y22h
noncomputable def N1 : List Sp := z85 :: N0
theorem zn1 : Known Tryd.prog GT N1 EE := by
  exact zn0.put (fun c _ => ⟨by kernel_rfl, pure_index c⟩)
noncomputable def N2 : List Sp := z38 :: N1
theorem zn2 : Known Tryd.prog GT N2 EE := by
  exact zn1.put (fun n ⟨h1, h2⟩ => ⟨by kernel_rfl, pure_itoa n h1 h2⟩)
noncomputable def N3 : List Sp := z27 :: N2
theorem zn3 : Known Tryd.prog GT N3 EE := by
  exact zn2.add mixedD (fun ⟨s, i⟩ _ => f27_ok) (fun ⟨s, i⟩ h1 => ⟨_, ev_class (cx GT N2 EE) (show (cx GT N2 EE).glob 0 = _ from rfl) s i h1⟩)
noncomputable def N4 : List Sp := z30 :: N3
theorem zn4 : Known Tryd.prog GT N4 EE := by
  have k27 := k27_of (E := EE) (show Has N3 z27 by repeat (first | exact has_head _ _ | refine has_tail ?_ (by decide)))
  exact zn3.add mixedD (fun ⟨s, i, k⟩ _ => f30_ok) (fun ⟨s, i, k⟩ ⟨h1, h2, h3⟩ => ⟨_, ev_run _ k27 s i k h1 h2 h3⟩)
noncomputable def N5 : List Sp := z48 :: N4
theorem zn5 : Known Tryd.prog GT N5 EE := by
  have k27 := k27_of (E := EE) (show Has N4 z27 by repeat (first | exact has_head _ _ | refine has_tail ?_ (by decide)))
  exact zn4.add mixedD (fun ⟨s, i⟩ _ => f48_ok) (fun ⟨s, i⟩ h1 => ⟨_, ev_inName _ k27 s i h1⟩)
noncomputable def N6 : List Sp := z42 :: N5
theorem zn6 : Known Tryd.prog GT N6 EE := by
  have k48 := k48_of (E := EE) (show Has N5 z48 by repeat (first | exact has_head _ _ | refine has_tail ?_ (by decide)))
  exact zn5.add mixedD (fun ⟨s, i⟩ _ => f42_ok) (fun ⟨s, i⟩ ⟨h1, h2⟩ => ⟨_, ev_name _ k48 s i h1 h2⟩)
noncomputable def N7 : List Sp := z40 :: N6
theorem zn7 : Known Tryd.prog GT N7 EE := by
  exact zn6.add mixedD (fun ⟨p, s⟩ _ => f40_ok) (fun ⟨p, s⟩ ⟨h1, h2⟩ => ⟨_, ev_pre _ p s h1 h2⟩)
noncomputable def N8 : List Sp := z28 :: N7
theorem zn8 : Known Tryd.prog GT N8 EE := by
  have k40 := k40_of (E := EE) (show Has N7 z40 by repeat (first | exact has_head _ _ | refine has_tail ?_ (by decide)))
  exact zn7.add mixedD (fun ⟨p, s⟩ _ => f28_ok) (fun ⟨p, s⟩ ⟨h1, h2⟩ => ⟨_, ev_hasPrefix _ k40 p s h1 h2⟩)
noncomputable def N9 : List Sp := z43 :: N8
theorem zn9 : Known Tryd.prog GT N9 EE := by
  exact zn8.add mixedD (fun s _ => f43_ok) (fun s _ => ⟨_, ev_reserved _ s⟩)
noncomputable def N10 : List Sp := z46 :: N9
theorem zn10 : Known Tryd.prog GT N10 EE := by
  exact zn9.add mixedD (fun s _ => f46_ok) (fun s _ => ⟨_, ev_isSign _ s⟩)
noncomputable def N11 : List Sp := z61 :: N10
theorem zn11 : Known Tryd.prog GT N11 EE := by
  exact zn10.add mixedD (fun ⟨s, c⟩ _ => f61_ok) (fun ⟨s, c⟩ h1 => ⟨_, ev_trimLeft _ s c h1⟩)
noncomputable def N12 : List Sp := z62 :: N11
theorem zn12 : Known Tryd.prog GT N12 EE := by
  exact zn11.add mixedD (fun ⟨s, c⟩ _ => f62_ok) (fun ⟨s, c⟩ h1 => ⟨_, ev_trimRight _ s c h1⟩)
noncomputable def N13 : List Sp := z41 :: N12
theorem zn13 : Known Tryd.prog GT N13 EE := by
  have k61 := k61_of (E := EE) (show Has N12 z61 by repeat (first | exact has_head _ _ | refine has_tail ?_ (by decide)))
  have k62 := k62_of (E := EE) (show Has N12 z62 by repeat (first | exact has_head _ _ | refine has_tail ?_ (by decide)))
  exact zn12.add mixedD (fun s _ => f41_ok) (fun s ⟨h1, h2⟩ => ⟨_, ev_trim _ k61 k62 s h1 h2⟩)
noncomputable def N14 : List Sp := z31 :: N13
theorem zn14 : Known Tryd.prog GT N14 EE := by
  have k41 := k41_of (E := EE) (show Has N13 z41 by repeat (first | exact has_head _ _ | refine has_tail ?_ (by decide)))
  exact zn13.add mixedD (fun s _ => f31_ok) (fun s h1 => ⟨_, ev_dashes _ k41 s h1⟩)
noncomputable def N15 : List Sp := z29 :: N14
theorem zn15 : Known Tryd.prog GT N15 EE := by
  exact zn14.add mixedD (fun ⟨s, i⟩ _ => f29_ok) (fun ⟨s, i⟩ ⟨h1, h2⟩ => ⟨_, ev_comment _ s i h1 h2⟩)
noncomputable def N16 : List Sp := z68 :: N15
theorem zn16 : Known Tryd.prog GT N16 EE := by
  exact zn15.add mixedD (fun ⟨s, i⟩ _ => f68_ok) (fun ⟨s, i⟩ h1 => ⟨_, ev_byteAt _ s i h1⟩)
noncomputable def N17 : List Sp := z69 :: N16
theorem zn17 : Known Tryd.prog GT N17 EE := by
  have k68 := k68_of (E := EE) (show Has N16 z68 by repeat (first | exact has_head _ _ | refine has_tail ?_ (by decide)))
  have k85 := k85_of (E := EE) (show Has N16 z85 by repeat (first | exact has_head _ _ | refine has_tail ?_ (by decide)))
  exact zn16.add mixedD (fun ⟨s, i⟩ _ => f69_ok) (fun ⟨s, i⟩ h1 => ⟨_, ev_hex _ k68 k85 s i h1⟩)
noncomputable def N18 : List Sp := z44 :: N17
theorem zn18 : Known Tryd.prog GT N18 EE := by
  have k42 := k42_of (E := EE) (show Has N17 z42 by repeat (first | exact has_head _ _ | refine has_tail ?_ (by decide)))
  have k27 := k27_of (E := EE) (show Has N17 z27 by repeat (first | exact has_head _ _ | refine has_tail ?_ (by decide)))
  have k43 := k43_of (E := EE) (show Has N17 z43 by repeat (first | exact has_head _ _ | refine has_tail ?_ (by decide)))
  exact zn17.add mixedD (fun ⟨s, i⟩ _ => f44_ok) (fun ⟨s, i⟩ ⟨h1, h2⟩ => ⟨_, ev_upper _ k42 k27 k43 s i h1 h2⟩)
noncomputable def N19 : List Sp := z70 :: N18
theorem zn19 : Known Tryd.prog GT N19 EE := by
  have k68 := k68_of (E := EE) (show Has N18 z68 by repeat (first | exact has_head _ _ | refine has_tail ?_ (by decide)))
  have k27 := k27_of (E := EE) (show Has N18 z27 by repeat (first | exact has_head _ _ | refine has_tail ?_ (by decide)))
  exact zn18.add mixedD (fun ⟨s, i, q⟩ _ => f70_ok) (fun ⟨s, i, q⟩ ⟨h1, h2⟩ => ⟨_, ev_sound _ k68 k27 s i q h1 h2⟩)
noncomputable def N20 : List Sp := z45 :: N19
theorem zn20 : Known Tryd.prog GT N20 EE := by
  have k68 := k68_of (E := EE) (show Has N19 z68 by repeat (first | exact has_head _ _ | refine has_tail ?_ (by decide)))
  have k69 := k69_of (E := EE) (show Has N19 z69 by repeat (first | exact has_head _ _ | refine has_tail ?_ (by decide)))
  have k48 := k48_of (E := EE) (show Has N19 z48 by repeat (first | exact has_head _ _ | refine has_tail ?_ (by decide)))
  exact zn19.add mixedD (fun ⟨s, i⟩ _ => f45_ok) (fun ⟨s, i⟩ ⟨h1, h2⟩ => ⟨_, ev_number _ k68 k69 k48 s i h1 h2⟩)
noncomputable def N21 : List Sp := z47 :: N20
theorem zn21 : Known Tryd.prog GT N21 EE := by
  have k68 := k68_of (E := EE) (show Has N20 z68 by repeat (first | exact has_head _ _ | refine has_tail ?_ (by decide)))
  have k70 := k70_of (E := EE) (show Has N20 z70 by repeat (first | exact has_head _ _ | refine has_tail ?_ (by decide)))
  exact zn20.add mixedD (fun ⟨s, i⟩ _ => f47_ok) (fun ⟨s, i⟩ ⟨h1, h2, h3⟩ => ⟨_, ev_quoted _ k68 k70 s i h1 h2 h3⟩)
noncomputable def N22 : List Sp := z32 :: N21
theorem zn22 : Known Tryd.prog GT N22 EE := by
  have k27 := k27_of (E := EE) (show Has N21 z27 by repeat (first | exact has_head _ _ | refine has_tail ?_ (by decide)))
  have k42 := k42_of (E := EE) (show Has N21 z42 by repeat (first | exact has_head _ _ | refine has_tail ?_ (by decide)))
  have k43 := k43_of (E := EE) (show Has N21 z43 by repeat (first | exact has_head _ _ | refine has_tail ?_ (by decide)))
  have k44 := k44_of (E := EE) (show Has N21 z44 by repeat (first | exact has_head _ _ | refine has_tail ?_ (by decide)))
  have k45 := k45_of (E := EE) (show Has N21 z45 by repeat (first | exact has_head _ _ | refine has_tail ?_ (by decide)))
  have k30 := k30_of (E := EE) (show Has N21 z30 by repeat (first | exact has_head _ _ | refine has_tail ?_ (by decide)))
  have k46 := k46_of (E := EE) (show Has N21 z46 by repeat (first | exact has_head _ _ | refine has_tail ?_ (by decide)))
  have k47 := k47_of (E := EE) (show Has N21 z47 by repeat (first | exact has_head _ _ | refine has_tail ?_ (by decide)))
  have k48 := k48_of (E := EE) (show Has N21 z48 by repeat (first | exact has_head _ _ | refine has_tail ?_ (by decide)))
  exact zn21.add mixedD (fun ⟨s, i⟩ _ => f32_ok) (fun ⟨s, i⟩ ⟨h1, h2⟩ => ⟨_, ev_token _ k27 k42 k43 k44 k45 k30 k46 k47 k48 s i h1 h2⟩)
noncomputable def N23 : List Sp := z13 :: N22
theorem zn23 : Known Tryd.prog GT N23 EE := by
  have k27 := k27_of (E := EE) (show Has N22 z27 by repeat (first | exact has_head _ _ | refine has_tail ?_ (by decide)))
  have k28 := k28_of (E := EE) (show Has N22 z28 by repeat (first | exact has_head _ _ | refine has_tail ?_ (by decide)))
  have k29 := k29_of (E := EE) (show Has N22 z29 by repeat (first | exact has_head _ _ | refine has_tail ?_ (by decide)))
  have k30 := k30_of (E := EE) (show Has N22 z30 by repeat (first | exact has_head _ _ | refine has_tail ?_ (by decide)))
  have k31 := k31_of (E := EE) (show Has N22 z31 by repeat (first | exact has_head _ _ | refine has_tail ?_ (by decide)))
  have k32 := k32_of (E := EE) (show Has N22 z32 by repeat (first | exact has_head _ _ | refine has_tail ?_ (by decide)))
  exact zn22.addEase mixedD (fun s _ => f13_ok) (fun s h1 => ⟨_, _, ev_Lex _ k27 k28 k29 k30 k31 k32 s h1, lexV_ease s⟩)
noncomputable def N24 : List Sp := z39 :: N23
theorem zn24 : Known Tryd.prog GT N24 EE := by
  have k38 := k38_of (E := EE) (show Has N23 z38 by repeat (first | exact has_head _ _ | refine has_tail ?_ (by decide)))
  have e22 := e22_of (L := N23) he22
  have e24 := e24_of (L := N23) he24
  have e26 := e26_of (L := N23) he26
  exact zn23.add mixedD (fun ⟨s, q⟩ _ => f39_ok) (fun ⟨s, q⟩ ⟨h1, h2⟩ => ⟨_, ev_escaped _ e22 e24 e26 k38 s h1 q h2⟩)
noncomputable def N25 : List Sp := z25 :: N24
theorem zn25 : Known Tryd.prog GT N25 EE := by
  have k38 := k38_of (E := EE) (show Has N24 z38 by repeat (first | exact has_head _ _ | refine has_tail ?_ (by decide)))
  have k39 := k39_of (E := EE) (show Has N24 z39 by repeat (first | exact has_head _ _ | refine has_tail ?_ (by decide)))
  exact zn24.add mixedD (fun t _ => f25_ok) (fun t h1 => ⟨_, ev_written _ k38 k39 t h1⟩)
noncomputable def N26 : List Sp := z21 :: N25
theorem zn26 : Known Tryd.prog GT N26 EE := by
  have k27 := k27_of (E := EE) (show Has N25 z27 by repeat (first | exact has_head _ _ | refine has_tail ?_ (by decide)))
  have k31 := k31_of (E := EE) (show Has N25 z31 by repeat (first | exact has_head _ _ | refine has_tail ?_ (by decide)))
  have k32 := k32_of (E := EE) (show Has N25 z32 by repeat (first | exact has_head _ _ | refine has_tail ?_ (by decide)))
  exact zn25.add mixedD (fun t _ => f21_ok) (fun t h1 => ⟨_, ev_isToken _ k27 k31 k32 t h1⟩)
noncomputable def N27 : List Sp := z11 :: N26
theorem zn27 : Known Tryd.prog GT N27 EE := by
  have k21 := k21_of (E := EE) (show Has N26 z21 by repeat (first | exact has_head _ _ | refine has_tail ?_ (by decide)))
  have k25 := k25_of (E := EE) (show Has N26 z25 by repeat (first | exact has_head _ _ | refine has_tail ?_ (by decide)))
  have e22 := e22_of (L := N26) he22
  have e23 := e23_of (L := N26) he23
  have e24 := e24_of (L := N26) he24
  have e26 := e26_of (L := N26) he26
  exact zn26.add mixedD (fun l _ => f11_ok) (fun l h1 => ⟨_, ev_Print _ k21 e22 e23 e24 k25 e26 l h1⟩)
noncomputable def N28 : List Sp := z12 :: N27
theorem zn28 : Known Tryd.prog GT N28 EE := by
  exact zn27.add mixedD (fun ⟨a, b⟩ _ => f12_ok) (fun ⟨a, b⟩ ⟨h1, h2⟩ => ⟨_, ev_same _ a b h1 h2⟩)
noncomputable def N29 : List Sp := z14 :: N28
theorem zn29 : Known Tryd.prog GT N29 EE := by
  exact zn28.add mixedD (fun ⟨a, b⟩ _ => f14_ok) (fun ⟨a, b⟩ ⟨h1, h2⟩ => ⟨_, ev_alike _ a b h1 h2⟩)
noncomputable def N30 : List Sp := z15 :: N29
theorem zn30 : Known Tryd.prog GT N30 EE := by
  exact zn29.add mixedD (fun c _ => f15_ok) (fun c h1 => ⟨_, ev_plain _ c h1⟩)
noncomputable def N31 : List Sp := z16 :: N30
theorem zn31 : Known Tryd.prog GT N31 EE := by
  exact zn30.add mixedD (fun ⟨l, j⟩ _ => f16_ok) (fun ⟨l, j⟩ ⟨h1, h2, h3⟩ => ⟨_, ev_moved _ l j h1 h2 h3⟩)
noncomputable def N32 : List Sp := z9 :: N31
theorem zn32 : Known Tryd.prog GT N32 EE := by
  have k13 := k13_of (E := EE) (show Has N31 z13 by repeat (first | exact has_head _ _ | refine has_tail ?_ (by decide)))
  have k12 := k12_of (E := EE) (show Has N31 z12 by repeat (first | exact has_head _ _ | refine has_tail ?_ (by decide)))
  have k11 := k11_of (E := EE) (show Has N31 z11 by repeat (first | exact has_head _ _ | refine has_tail ?_ (by decide)))
  exact zn31.add mixedD (fun u _ => f9_ok) (fun u _ => ⟨_, ev_awake _ k13 k12 k11⟩)
end Go.Vm
end

section
namespace Go.Vm
open Go.Proofs Go.RowKit Go.Extern.Stop Go.Stop Go.Extern
theorem as_nil (t : Value) (w : World) :
    Calls Tryd.prog 33 #[.nilIface, t] w fun e w' => e = .returned (.bool false) ∧ w' = w := by
  go_enter Tryd.func33, Tryd.ntmps33
  go_wp2
  go_ret
  exact ⟨rfl, rfl⟩

theorem As.valueOf27 (t : Addr) (w : World) : (ReflectliteValue.unpack (.iface 64 (.pointer (some t)))).run Tryd.prog w
    = .ok (.agg #[.pointer (some ⟨8, 64, none⟩), .pointer (some ⟨w.heap.size, 0, none⟩), .int .u64 150]) (w.alloc (.cells #[.pointer (some t)] 64)) := by kernel_rfl
theorem As.type27 (a : Addr) (w : World) : (ReflectliteValue.methodAny (ReflectliteValue.valueError "reflectlite.Value.Type" 0) (fun t _ _ _ => ReflectliteType.toType t) #[.agg #[.pointer (some ⟨8, 64, none⟩), .pointer (some a), .int .u64 150]]).run Tryd.prog w
    = .ok (.iface 101 (.agg #[.pointer (some ⟨8, 64, none⟩)])) w := by kernel_rfl
theorem As.methodKind (h : Value) (w : World) : (Go.method 271 101 (.agg #[h]) "Kind").run Tryd.prog w = .ok (121, h) w := by kernel_rfl
theorem As.kind27 (w : World) : ((ReflectliteType.abiMethod fun t => (fun a : Nat => Value.int IntKind.u8 (a : Int)) <$> Rtype.kind t) #[.pointer (some ⟨8, 64, none⟩)]).run Tryd.prog w = .ok (.int .u8 22) w := by kernel_rfl
theorem As.kind25 (w : World) : ((ReflectliteType.abiMethod fun t => (fun a : Nat => Value.int IntKind.u8 (a : Int)) <$> Rtype.kind t) #[.pointer (some ⟨8, 57, none⟩)]).run Tryd.prog w = .ok (.int .u8 22) w := by kernel_rfl

theorem rlm (z : Sem Value) (f : TypeId → Addr → Nat → Nat → Sem Value) (v : Value) :
    ReflectliteValue.method z f #[v] = (do match ← ReflectliteValue.parts v with | none => z | some (t, a, fl) => f t a fl (fl % 32)) := rfl
theorem As.parts27 (a : Addr) (w : World) : (ReflectliteValue.parts (.agg #[.pointer (some ⟨8, 64, none⟩), .pointer (some a), .int .u64 150])).run Tryd.prog w = .ok (some (64, a, 150)) w := by kernel_rfl
theorem As.isNil27 (a p : Addr) (W : World) (ha : W.cell? a = some (.pointer (some p))) :
    (ReflectliteValue.method (ReflectliteValue.valueError "reflectlite.Value.IsNil" 0) ReflectliteValue.isNil #[.agg #[.pointer (some ⟨8, 64, none⟩), .pointer (some a), .int .u64 150]]).run Tryd.prog W = .ok (.bool false) W := by
  rw [rlm]
  simp only [Sem.run_bind, As.parts27, Result.andThen]
  simp [ReflectliteValue.isNil, loadVar, isAgg, underlying, Tryd.underlying64, ha, Result.andThen]

theorem As.methodElem (h : Value) (w : World) : (Go.method 271 101 (.agg #[h]) "Elem").run Tryd.prog w = .ok (134, .agg #[h]) w := by kernel_rfl
theorem As.methodImplements (h : Value) (w : World) : (Go.method 271 101 (.agg #[h]) "Implements").run Tryd.prog w = .ok (135, .agg #[h]) w := by kernel_rfl
theorem As.methodAssignableTo (h : Value) (w : World) : (Go.method 271 101 (.agg #[h]) "AssignableTo").run Tryd.prog w = .ok (132, .agg #[h]) w := by kernel_rfl
theorem As.elem27 (w : World) : (ReflectliteType.method ReflectliteType.elem #[.agg #[.pointer (some ⟨8, 64, none⟩)]]).run Tryd.prog w = .ok (.iface 101 (.agg #[.pointer (some ⟨8, 57, none⟩)])) w := by kernel_rfl
theorem As.implements25 (w : World) : (ReflectliteType.relation "Implements" ReflectliteType.implements_ #[.agg #[.pointer (some ⟨8, 57, none⟩)], .iface 101 (.agg #[.pointer (some ⟨8, 31, none⟩)])]).run Tryd.prog w = .ok (.bool true) w := by kernel_rfl
theorem As.typeOf25 (v : Value) (w : World) : (ReflectliteType.typeOf #[.iface 57 v]).run Tryd.prog w = .ok (.iface 101 (.agg #[.pointer (some ⟨8, 57, none⟩)])) w := by kernel_rfl
theorem As.assignable25 (w : World) : (ReflectliteType.relation "AssignableTo" ReflectliteType.assignableTo #[.agg #[.pointer (some ⟨8, 57, none⟩)], .iface 101 (.agg #[.pointer (some ⟨8, 57, none⟩)])]).run Tryd.prog w = .ok (.bool true) w := by kernel_rfl
theorem As.valueOf25 (e : Addr) (w : World) : (ReflectliteValue.unpack (.iface 57 (.pointer (some e)))).run Tryd.prog w
    = .ok (.agg #[.pointer (some ⟨8, 57, none⟩), .pointer (some ⟨w.heap.size, 0, none⟩), .int .u64 150]) (w.alloc (.cells #[.pointer (some e)] 57)) := by kernel_rfl

theorem As.elemOf27 (w : World) : (Rtype.elem? 64).run Tryd.prog w = .ok (some 57) w := by kernel_rfl
theorem As.mk25 (p : Addr) (w : World) : (ReflectliteValue.mk 57 p ReflectliteValue.flagAddr).run Tryd.prog w = .ok (.agg #[.pointer (some ⟨8, 57, none⟩), .pointer (some p), .int .u64 406]) w := by kernel_rfl
theorem As.elemV27 (a p : Addr) (W : World) (ha : W.cell? a = some (.pointer (some p))) :
    (ReflectliteValue.method (ReflectliteValue.valueError "reflectlite.Value.Elem" 0) ReflectliteValue.elem #[.agg #[.pointer (some ⟨8, 64, none⟩), .pointer (some a), .int .u64 150]]).run Tryd.prog W
      = .ok (.agg #[.pointer (some ⟨8, 57, none⟩), .pointer (some p), .int .u64 406]) W := by
  rw [rlm]
  simp only [Sem.run_bind, As.parts27, Result.andThen]
  simp [ReflectliteValue.elem, loadVar, isAgg, underlying, Tryd.underlying64, ha, Result.andThen, As.elemOf27, As.mk25]
theorem rls (v x : Value) : ReflectliteValue.set #[v, x] = (do
    let (some (dst, a, fl), some (src, b, _)) := (← ReflectliteValue.parts v, ← ReflectliteValue.parts x)
      | unsupported (.noEntry "extern/(internal/reflectlite.Value).Set.zeroValue")
    if fl / ReflectliteValue.flagAddr % 2 == 0 then unsupported (.noEntry "extern/(internal/reflectlite.Value).Set.unaddressable")
    let val ← loadVar src b
    if ← Rtype.directlyAssignable dst src then storeVar dst a val
    else if ← Rtype.implements dst src then
      if (← Rtype.kind src) == 20 then
        match val with
        | .nilIface => unsupported (.noEntry "extern/reflectlite: a nil value of one interface type handed on as a value of another")
        | _ => storeVar dst a val
      else storeVar dst a (.iface src val)
    else panicString ("reflectlite.Set: value of type " ++ (← Rtype.spelt src) ++ " is not assignable to type " ++ (← Rtype.spelt dst))
    pure (.tuple #[])) := rfl
theorem As.parts25a (a : Addr) (w : World) : (ReflectliteValue.parts (.agg #[.pointer (some ⟨8, 57, none⟩), .pointer (some a), .int .u64 406])).run Tryd.prog w = .ok (some (57, a, 406)) w := by kernel_rfl
theorem As.parts25 (a : Addr) (w : World) : (ReflectliteValue.parts (.agg #[.pointer (some ⟨8, 57, none⟩), .pointer (some a), .int .u64 150])).run Tryd.prog w = .ok (some (57, a, 150)) w := by kernel_rfl
theorem As.direct25 (w : World) : (Rtype.directlyAssignable 57 57).run Tryd.prog w = .ok true w := by kernel_rfl
theorem As.size25 (w : World) : (sizeOf 57).run Tryd.prog w = .ok 1 w := by kernel_rfl
theorem As.set25 (ta b e : Addr) (old : Value) (W : World) (hb : W.cell? b = some (.pointer (some e))) (ht : W.cell? ta = some old) (hf : W.frozen? ta = false) :
    (ReflectliteValue.set #[.agg #[.pointer (some ⟨8, 57, none⟩), .pointer (some ta), .int .u64 406], .agg #[.pointer (some ⟨8, 57, none⟩), .pointer (some b), .int .u64 150]]).run Tryd.prog W
      = .ok (.tuple #[]) (W.setCell ta (.pointer (some e))) := by
  rw [rls]
  simp only [Sem.run_bind, As.parts25a, As.parts25, Result.andThen]
  simp [ReflectliteValue.flagAddr, loadVar, isAgg, underlying, Tryd.underlying57, hb, Result.andThen, As.direct25, storeVar, Value.cells, storeCells, Addr.add]
  rw [run_store Tryd.prog W ta _ _ (by rfl)]
  simp [ht, hf]

set_option maxHeartbeats 4000000 in
theorem as_hit (e t : Addr) (old : Value) (w : World) (hg : w.cell? ⟨1, 0, none⟩ = some (.iface 101 (.agg #[.pointer (some ⟨8, 31, none⟩)]))) (ht0 : w.cell? t = some old) (hf0 : w.frozen? t = false) :
    Calls Tryd.prog 33 #[.iface 57 (.pointer (some e)), .iface 64 (.pointer (some t))] w fun ev w' => ev = .returned (.bool true) ∧ w' = ((((w.alloc (.cells #[.pointer (some t)] 64)).alloc (.cells #[.pointer (some ⟨8, 64, none⟩), .pointer (some ⟨w.heap.size, 0, none⟩), .int .u64 150] 79)).alloc (.cells #[.pointer (some ⟨8, 64, none⟩), .pointer (some ⟨w.heap.size, 0, none⟩), .int .u64 150] 79)).alloc (.cells #[.pointer (some e)] 57)).setCell t (.pointer (some e)) := by
  have h6 := @run_callFunc_extern Tryd.prog 49 _ (fun args => ReflectliteValue.unpack (args.getD 0 (.tuple #[]))) Tryd.func49 (by kernel_rfl) (by kernel_rfl) (by kernel_rfl) (by kernel_rfl)
  have h7 := @run_callFunc_extern Tryd.prog 50 _ (ReflectliteValue.methodAny (ReflectliteValue.valueError "reflectlite.Value.Type" 0) (fun t _ _ _ => ReflectliteType.toType t)) Tryd.func50 (by kernel_rfl) (by kernel_rfl) (by kernel_rfl) (by kernel_rfl)
  have h8 := @run_callFunc_extern Tryd.prog 51 _ (ReflectliteValue.method (ReflectliteValue.valueError "reflectlite.Value.IsNil" 0) ReflectliteValue.isNil) Tryd.func51 (by kernel_rfl) (by kernel_rfl) (by kernel_rfl) (by kernel_rfl)
  have h27 := @run_callFunc_extern Tryd.prog 121 _ (ReflectliteType.abiMethod fun t => do pure (.int .u8 (← Rtype.kind t))) Tryd.func121 (by kernel_rfl) (by kernel_rfl) (by kernel_rfl) (by kernel_rfl)
  have h37 := @run_callFunc_extern Tryd.prog 134 _ (ReflectliteType.method ReflectliteType.elem) Tryd.func134 (by kernel_rfl) (by kernel_rfl) (by kernel_rfl) (by kernel_rfl)
  have h38 := @run_callFunc_extern Tryd.prog 135 _ (ReflectliteType.relation "Implements" ReflectliteType.implements_) Tryd.func135 (by kernel_rfl) (by kernel_rfl) (by kernel_rfl) (by kernel_rfl)
  have h10 := @run_callFunc_extern Tryd.prog 71 _ ReflectliteType.typeOf Tryd.func71 (by kernel_rfl) (by kernel_rfl) (by kernel_rfl) (by kernel_rfl)
  have h35 := @run_callFunc_extern Tryd.prog 132 _ (ReflectliteType.relation "AssignableTo" ReflectliteType.assignableTo) Tryd.func132 (by kernel_rfl) (by kernel_rfl) (by kernel_rfl) (by kernel_rfl)
  have h11 := @run_callFunc_extern Tryd.prog 72 _ (ReflectliteValue.method (ReflectliteValue.valueError "reflectlite.Value.Elem" 0) ReflectliteValue.elem) Tryd.func72 (by kernel_rfl) (by kernel_rfl) (by kernel_rfl) (by kernel_rfl)
  have h12 := @run_callFunc_extern Tryd.prog 73 _ ReflectliteValue.set Tryd.func73 (by kernel_rfl) (by kernel_rfl) (by kernel_rfl) (by kernel_rfl)
  have tO := As.typeOf25
  have mA := As.methodAssignableTo
  have a25 := As.assignable25
  have v25 := As.valueOf25
  have f6 := As.valueOf27
  have f7 := As.type27
  have mK := As.methodKind
  have mE := As.methodElem
  have mI := As.methodImplements
  have k27 := As.kind27
  have k25 := As.kind25
  have e27 := As.elem27
  have i25 := As.implements25
  have n8 := As.isNil27 ⟨w.heap.size, 0, none⟩ t ((w.alloc (.cells #[.pointer (some t)] 64)).alloc (.cells #[.pointer (some ⟨8, 64, none⟩), .pointer (some ⟨w.heap.size, 0, none⟩), .int .u64 150] 79)) (by simp)
  have hlt : 1 < w.heap.size := by
    rcases Nat.lt_or_ge 1 w.heap.size with h | h
    · exact h
    · simp [World.cell?, Array.getElem?_eq_none h] at hg
  have hg2 : ((w.alloc (.cells #[.pointer (some t)] 64)).alloc (.cells #[.pointer (some ⟨8, 64, none⟩), .pointer (some ⟨w.heap.size, 0, none⟩), .int .u64 150] 79)).cell? ⟨1, 0, none⟩ = some (.iface 101 (.agg #[.pointer (some ⟨8, 31, none⟩)])) := by
    rw [World.cell?_alloc_lt _ _ ⟨1, 0, none⟩ (by simp; omega), World.cell?_alloc_lt _ _ ⟨1, 0, none⟩ hlt]; exact hg
  have htl : t.block < w.heap.size := by
    rcases Nat.lt_or_ge t.block w.heap.size with h | h
    · exact h
    · simp [World.cell?, Array.getElem?_eq_none h] at ht0
  have el := As.elemV27 ⟨w.heap.size, 0, none⟩ t (((w.alloc (.cells #[.pointer (some t)] 64)).alloc (.cells #[.pointer (some ⟨8, 64, none⟩), .pointer (some ⟨w.heap.size, 0, none⟩), .int .u64 150] 79)).alloc (.cells #[.pointer (some ⟨8, 64, none⟩), .pointer (some ⟨w.heap.size, 0, none⟩), .int .u64 150] 79)) (by rw [World.cell?_alloc_lt _ _ ⟨w.heap.size, 0, none⟩ (by simp; omega)]; simp)
  have st := As.set25 t ⟨w.heap.size + 1 + 1 + 1, 0, none⟩ e old ((((w.alloc (.cells #[.pointer (some t)] 64)).alloc (.cells #[.pointer (some ⟨8, 64, none⟩), .pointer (some ⟨w.heap.size, 0, none⟩), .int .u64 150] 79)).alloc (.cells #[.pointer (some ⟨8, 64, none⟩), .pointer (some ⟨w.heap.size, 0, none⟩), .int .u64 150] 79)).alloc (.cells #[.pointer (some e)] 57))
    (by rw [World.cell?_alloc_at _ _ _ _ (by simp)]; rfl)
    (by rw [World.cell?_alloc_lt _ _ t (by simp; omega), World.cell?_alloc_lt _ _ t (by simp; omega), World.cell?_alloc_lt _ _ t (by simp; omega), World.cell?_alloc_lt _ _ t htl]; exact ht0)
    (by rw [World.frozen?_alloc_old _ _ t (by simp; omega), World.frozen?_alloc_old _ _ t (by simp; omega), World.frozen?_alloc_old _ _ t (by simp; omega), World.frozen?_alloc_old _ _ t (Nat.ne_of_lt htl)]; exact hf0)
  go_enter Tryd.func33, Tryd.ntmps33
  go_wp2
  refine Go.wp_loop_rounds 1 ?_
  rw [rounds_succ]
  go_wp2
  go_ret
  exact ⟨rfl, rfl⟩
end Go.Vm
end

section
namespace Go.Vm
open Go.Proofs Go.RowKit Go.Extern.Stop Go.Stop Go.Extern

def fault0 : Value := .agg #[.int .i64 0, .int .i64 0, .int .i64 0, .string ⟨#[]⟩]

structure AsKept (w w' : World) (t : Nat) : Prop where
  os : w'.os = w.os
  tape : w'.tape = w.tape
  output : w'.output = w.output
  size : w.heap.size ≤ w'.heap.size
  blk : ∀ k, k < w.heap.size → k ≠ t → w'.heap[k]? = w.heap[k]?
theorem as_after (e : Addr) (t : Nat) (ty : TypeId) (w : World) (hg : w.cell? ⟨1, 0, none⟩ = some (.iface 101 (.agg #[.pointer (some ⟨8, 31, none⟩)]))) (ht : w.heap[t]? = some (.cells #[.pointer none] ty (0, 0))) :
    Calls Tryd.prog 33 #[.iface 57 (.pointer (some e)), .iface 64 (.pointer (some ⟨t, 0, none⟩))] w fun ev w' => ev = .returned (.bool true) ∧ w'.heap[t]? = some (.cells #[.pointer (some e)] ty (0, 0)) ∧ AsKept w w' t := by
  have hlt : t < w.heap.size := by
    rcases Nat.lt_or_ge t w.heap.size with h | h
    · exact h
    · simp [Array.getElem?_eq_none h] at ht
  have hc : w.cell? ⟨t, 0, none⟩ = some (.pointer none) := by rw [Lib.cell_of_heap ht]; rfl
  have hf : w.frozen? ⟨t, 0, none⟩ = false := Lib.frozen_of_heap ht 0
  refine (as_hit e ⟨t, 0, none⟩ (.pointer none) w hg hc hf).mono ?_
  rintro ev w' ⟨rfl, rfl⟩
  generalize hA : (Obj.cells #[Value.pointer (some ⟨t, 0, none⟩)] 64) = o1
  generalize hB : (Obj.cells #[Value.pointer (some ⟨8, 64, none⟩), Value.pointer (some ⟨w.heap.size, 0, none⟩), Value.int .u64 150] 79) = o2
  generalize hC : (Obj.cells #[Value.pointer (some e)] 57) = o3
  have old : ∀ k, k < w.heap.size → ((((w.alloc o1).alloc o2).alloc o2).alloc o3).heap[k]? = w.heap[k]? := by
    intro k hk
    rw [Lib.alloc_old _ _ k (by simp; omega), Lib.alloc_old _ _ k (by simp; omega), Lib.alloc_old _ _ k (by simp; omega), Lib.alloc_old _ _ k hk]
  refine ⟨rfl, ?_, ⟨rfl, rfl, rfl, by simp; omega, fun k hk hne => ?_⟩⟩
  · have := (old t hlt).trans ht
    show (((((w.alloc o1).alloc o2).alloc o2).alloc o3).setCell ⟨t, 0, none⟩ (.pointer (some e))).heap[t]? = _
    generalize (((w.alloc o1).alloc o2).alloc o2).alloc o3 = W at this
    simp [World.setCell, Array.getElem?_modify, this]
  · rw [Below.heap_setCell _ _ _ _ hne, old k hk]

set_option maxRecDepth 100000 in
set_option maxHeartbeats 4000000 in
theorem seen_nil (w : World) : Calls Tryd.prog 17 #[.nilIface] w fun e w' => e = .returned (.tuple #[fault0, .bool true]) ∧ Below w.heap.size w w' := by
  go_enter Tryd.func17, Tryd.ntmps17
  go_wp2
  go_returns
  exact ⟨rfl, (Below.refl _ _).alloc (Nat.le_refl _) _⟩

set_option maxRecDepth 100000 in
set_option maxHeartbeats 4000000 in
theorem seen_hit (b o : Nat) (c t a : Int) (s : ByteArray) (w : World) (hg : w.cell? ⟨1, 0, none⟩ = some (.iface 101 (.agg #[.pointer (some ⟨8, 31, none⟩)])))
    (h0 : w.cell? ⟨b, o, none⟩ = some (.int .i64 c)) (h1 : w.cell? ⟨b, o + 1, none⟩ = some (.int .i64 t)) (h2 : w.cell? ⟨b, o + 2, none⟩ = some (.int .i64 a)) (h3 : w.cell? ⟨b, o + 3, none⟩ = some (.string s)) :
    Calls Tryd.prog 17 #[.iface 57 (.pointer (some ⟨b, o, none⟩))] w fun x w' => x = .returned (.tuple #[.agg #[.int .i64 c, .int .i64 t, .int .i64 a, .string s], .bool true]) ∧ Below w.heap.size w w' := by
  have hlt : 1 < w.heap.size := by
    rcases Nat.lt_or_ge 1 w.heap.size with h | h
    · exact h
    · simp [World.cell?, Array.getElem?_eq_none h] at hg
  have hb : b < w.heap.size := by
    rcases Nat.lt_or_ge b w.heap.size with h | h
    · exact h
    · simp [World.cell?, Array.getElem?_eq_none h] at h0
  go_enter Tryd.func17, Tryd.ntmps17
  go_wp2_with (go_at_call 33; refine (as_after ⟨b, o, none⟩ (w.heap.size + 1) 57 _ ?hgA ?htA).mono ?_)
  case hgA =>
    rw [World.cell?_alloc_lt _ _ ⟨1, 0, none⟩ (by simp; omega), World.cell?_alloc_lt _ _ ⟨1, 0, none⟩ hlt]; exact hg
  case htA =>
    have e : w.heap.size + 1 = (w.alloc (.cells #[.int .i64 0, .int .i64 0, .int .i64 0, .string ⟨#[]⟩] 40)).heap.size := by simp
    rw [e]
    exact heap_alloc_new _ _
  rintro ev w2 ⟨rfl, ft, kp⟩
  have hs2 : w.heap.size + 2 ≤ w2.heap.size := by
    have := kp.size
    simpa using this
  have ob : ∀ k, k < w.heap.size → w2.heap[k]? = w.heap[k]? := fun k hk => by
    rw [kp.blk k (by simp; omega) (by omega), Lib.alloc_old _ _ k (by simp; omega), Lib.alloc_old _ _ k hk]
  have rb : w2.heap[w.heap.size]? = some (.cells #[.int .i64 0, .int .i64 0, .int .i64 0, .string ⟨#[]⟩] 40 (0, 0)) := by
    rw [kp.blk w.heap.size (by simp; omega) (by omega), Lib.alloc_old _ _ _ (by simp)]
    exact heap_alloc_new _ _
  have d0 : w2.cell? ⟨b, o, none⟩ = some (.int .i64 c) := by rw [World.cell?_of_block (ob b hb)]; exact h0
  have d1 : w2.cell? ⟨b, o + 1, none⟩ = some (.int .i64 t) := by rw [World.cell?_of_block (ob b hb)]; exact h1
  have d2 : w2.cell? ⟨b, o + 2, none⟩ = some (.int .i64 a) := by rw [World.cell?_of_block (ob b hb)]; exact h2
  have d3 : w2.cell? ⟨b, o + 3, none⟩ = some (.string s) := by rw [World.cell?_of_block (ob b hb)]; exact h3
  have f0 : w2.cell? ⟨w.heap.size + 1, 0, none⟩ = some (.pointer (some ⟨b, o, none⟩)) := by rw [Lib.cell_of_heap ft]; rfl
  have r0 : w2.cell? ⟨w.heap.size, 0, none⟩ = some (.int .i64 0) := by rw [Lib.cell_of_heap rb]; rfl
  have r1 : w2.cell? ⟨w.heap.size, 1, none⟩ = some (.int .i64 0) := by rw [Lib.cell_of_heap rb]; rfl
  have r2 : w2.cell? ⟨w.heap.size, 2, none⟩ = some (.int .i64 0) := by rw [Lib.cell_of_heap rb]; rfl
  have r3 : w2.cell? ⟨w.heap.size, 3, none⟩ = some (.string ⟨#[]⟩) := by rw [Lib.cell_of_heap rb]; rfl
  have q0 : w2.frozen? ⟨w.heap.size, 0, none⟩ = false := Lib.frozen_of_heap rb 0
  have q1 : w2.frozen? ⟨w.heap.size, 1, none⟩ = false := Lib.frozen_of_heap rb 1
  have q2 : w2.frozen? ⟨w.heap.size, 2, none⟩ = false := Lib.frozen_of_heap rb 2
  have q3 : w2.frozen? ⟨w.heap.size, 3, none⟩ = false := Lib.frozen_of_heap rb 3
  have ne : ∀ i j : Nat, i ≠ j → (⟨w.heap.size, i, none⟩ : Addr) ≠ ⟨w.heap.size, j, none⟩ := fun i j h e => h (by injection e)
  have z0 := World.cell?_setCell_same w2 ⟨w.heap.size, 0, none⟩ (.int .i64 c) r0
  have z1 := World.cell?_setCell_same (w2.setCell ⟨w.heap.size, 0, none⟩ (.int .i64 c)) ⟨w.heap.size, 1, none⟩ (.int .i64 t) ((World.cell?_setCell_other _ _ _ _ (ne 0 1 (by decide))).trans r1)
  have z2 := World.cell?_setCell_same ((w2.setCell ⟨w.heap.size, 0, none⟩ (.int .i64 c)).setCell ⟨w.heap.size, 1, none⟩ (.int .i64 t)) ⟨w.heap.size, 2, none⟩ (.int .i64 a) ((World.cell?_setCell_other _ _ _ _ (ne 1 2 (by decide))).trans ((World.cell?_setCell_other _ _ _ _ (ne 0 2 (by decide))).trans r2))
  have z3 := World.cell?_setCell_same (((w2.setCell ⟨w.heap.size, 0, none⟩ (.int .i64 c)).setCell ⟨w.heap.size, 1, none⟩ (.int .i64 t)).setCell ⟨w.heap.size, 2, none⟩ (.int .i64 a)) ⟨w.heap.size, 3, none⟩ (.string s) ((World.cell?_setCell_other _ _ _ _ (ne 2 3 (by decide))).trans ((World.cell?_setCell_other _ _ _ _ (ne 1 3 (by decide))).trans ((World.cell?_setCell_other _ _ _ _ (ne 0 3 (by decide))).trans r3)))
  have y2 := (World.cell?_setCell_other (((w2.setCell ⟨w.heap.size, 0, none⟩ (.int .i64 c)).setCell ⟨w.heap.size, 1, none⟩ (.int .i64 t)).setCell ⟨w.heap.size, 2, none⟩ (.int .i64 a)) ⟨w.heap.size, 3, none⟩ ⟨w.heap.size, 2, none⟩ (.string s) (ne 3 2 (by decide))).trans z2
  have y1 := (World.cell?_setCell_other (((w2.setCell ⟨w.heap.size, 0, none⟩ (.int .i64 c)).setCell ⟨w.heap.size, 1, none⟩ (.int .i64 t)).setCell ⟨w.heap.size, 2, none⟩ (.int .i64 a)) ⟨w.heap.size, 3, none⟩ ⟨w.heap.size, 1, none⟩ (.string s) (ne 3 1 (by decide))).trans ((World.cell?_setCell_other _ _ _ _ (ne 2 1 (by decide))).trans z1)
  go_wp2
  refine bodyPost_ret (by simp [results, go_sem]; simp only [z0, z1, z2, z3, y1, y2, Result.andThen]; try rfl) rfl ?_
  refine ⟨rfl, ((((?_ : Below w.heap.size w w2).setCell (Nat.le_refl _) _).setCell (Nat.le_refl _) _).setCell (Nat.le_refl _) _).setCell (Nat.le_refl _) _⟩
  exact ⟨kp.os, kp.tape, kp.output, by omega, ob⟩
end Go.Vm
end

section
namespace Go.Vm
open Go.RowKit Go.Shelf Go.Proofs Go.Sort

abbrev errI (e i : Int) : V := .d false (.iface 57 [.ptr [.int .i64 e, .int .i64 0, .int .i64 i, .str []]])
abbrev fltV (e t i : Int) (s : BS) : V := .agg [.d false (.int .i64 e), .d false (.int .i64 t), .d false (.int .i64 i), .d false (.str s)]
abbrev seenV (e t i : Int) (s : BS) : V := .tup [fltV e t i s, .d false (.bool true)]
def K17 (K : Cx) : Prop := K.call 17 [.d false .nilif] = some (seenV 0 0 0 [], []) ∧ ∀ e i : Int, K.call 17 [errI e i] = some (seenV e 0 i [], [])

theorem repD_str {w : World} {F : Nat → Prop} {v : Value} {s : BS} (h : RepD w F v (.str s)) : ∃ t : ByteArray, v = .string t ∧ t.data.toList = s := by
  cases h with | str t => exact ⟨t, rfl, rfl⟩

theorem rep_seen {w : World} {F : Nat → Prop} {base : Nat} {σ : Nat → Option Loc} (e t i : Int) (s : ByteArray) :
    RepV w F base σ (.tuple #[.agg #[.int .i64 e, .int .i64 t, .int .i64 i, .string s], .bool true]) (seenV e t i s.data.toList) := by
  refine .tup _ _ rfl fun j v x hv hx => ?_
  match j, hv, hx with
  | 0, hv, hx =>
    simp at hv hx
    subst hv hx
    refine .agg _ _ rfl (fun j v x hv hx => ?_) (fun v hv => by simp at hv; rcases hv with rfl | rfl | rfl | rfl <;> rfl)
    match j, hv, hx with
    | 0, hv, hx => simp at hv hx; subst hv hx; exact .d _ _ _ (.int _ _)
    | 1, hv, hx => simp at hv hx; subst hv hx; exact .d _ _ _ (.int _ _)
    | 2, hv, hx => simp at hv hx; subst hv hx; exact .d _ _ _ (.int _ _)
    | 3, hv, hx => simp at hv hx; subst hv hx; exact .d _ _ _ (.str _)
    | j + 4, hv, hx => simp at hv
  | 1, hv, hx => simp at hv hx; subst hv hx; exact .d _ _ _ (.bool _)
  | j + 2, hv, hx => simp at hv

theorem pure_seen_nil : PureCall Tryd.prog GT 17 [.d false .nilif] (seenV 0 0 0 []) [] := by
  intro w F vals hF hG hR
  obtain ⟨hsz, hval⟩ := hR
  obtain ⟨l⟩ := vals
  match l, hsz, hval with
  | [v0], hsz, hval =>
    have h0 := hval 0 v0 _ rfl rfl
    cases h0 with
    | d c v x h =>
    cases h with
    | nilif =>
    refine (seen_nil w).mono ?_
    rintro ev w' ⟨rfl, hb⟩
    refine ⟨_, F, fun _ => none, rfl, hb, fun b h => .inl h, rep_seen 0 0 0 ⟨#[]⟩, nothing_new (fun b h => Nat.lt_of_lt_of_le (hF b h) hb.size)⟩
  | [], hsz, _ => simp at hsz
  | _ :: _ :: _, hsz, _ => simp at hsz

theorem pure_seen (e i : Int) : PureCall Tryd.prog GT 17 [errI e i] (seenV e 0 i []) [] := by
  intro w F vals hF hG hR
  obtain ⟨hsz, hval⟩ := hR
  obtain ⟨l⟩ := vals
  match l, hsz, hval with
  | [v0], hsz, hval =>
    have h0 := hval 0 v0 _ rfl rfl
    cases h0 with
    | d c v x h =>
    cases h with
    | iface t v d hp =>
    cases hp with
    | ptr b o cells g hf hc hr =>
    have c0 := hc 0 _ rfl
    have c1 := hc 1 _ rfl
    have c2 := hc 2 _ rfl
    have c3 := hc 3 _ rfl
    rw [repD_int (hr 0 _ rfl), Nat.add_zero] at c0
    rw [repD_int (hr 1 _ rfl)] at c1
    rw [repD_int (hr 2 _ rfl)] at c2
    obtain ⟨s, es, hs⟩ := repD_str (hr 3 _ rfl)
    rw [es] at c3
    refine (seen_hit b o e 0 i s w (hand_of_glob hG) c0 c1 c2 c3).mono ?_
    rintro ev w' ⟨rfl, hb⟩
    have r := rep_seen (w := w') (F := F) (base := w.heap.size) (σ := fun _ => none) e 0 i s
    rw [hs] at r
    refine ⟨_, F, fun _ => none, rfl, hb, fun b h => .inl h, r, nothing_new (fun b h => Nat.lt_of_lt_of_le (hF b h) hb.size)⟩
  | [], hsz, _ => simp at hsz
  | _ :: _ :: _, hsz, _ => simp at hsz
end Go.Vm
end

section
namespace Go.Vm
set_option maxRecDepth 20000
/- 'sloth/slothlaw01.LexJoins' -/
def f7 : Fun := ⟨
 (.seq
  (.reg [⟨[], [], [(.bool false)], none, [0, 1], 1, [], [], []⟩])
  (.seq
   (.reg [⟨[], [(5, (.call 9 .nil))], [], none, [0, 1], 2, [], [], []⟩])
   (.seq
    (.seq
     (.reg [⟨[], [(24, (.bin .gtr (.bin .add (.bin .add (.len true (.sl 0)) (.len true (.sl 1))) (.int .i64 1)) (.int .i64 20000)))], [], none, [0, 1, 5], 7, [], [], []⟩])
     (.cond (.sl 24)
      (.seq
       (.reg [⟨[], [(4, (.sl 5))], [], none, [], 2, [], [], []⟩])
       (.seq
        (.tidy 0 [4])
        .ret))
      .skip))
    (.seq
     (.reg [⟨[], [(6, (.ext 0 (.call 13 (.cons (.sl 0) .nil)))), (7, (.ext 1 (.call 13 (.cons (.sl 0) .nil))))], [], none, [0, 1, 5], 7, [], [], []⟩])
     (.seq
      (.seq
       (.reg [⟨[], [(36, (.or (.un .not (.sl 5)) (.eqs true false [5] (.sl 7) .nilif)))], [], none, [0, 1, 5, 6], 6, [], [], []⟩])
       (.cond (.sl 36)
        (.seq
         (.reg [⟨[], [(4, (.sl 5))], [], none, [], 2, [], [], []⟩])
         (.seq
          (.tidy 0 [4])
          .ret))
        .skip))
      (.seq
       (.reg [⟨[], [(8, (.ext 0 (.call 13 (.cons (.sl 1) .nil)))), (9, (.ext 1 (.call 13 (.cons (.sl 1) .nil))))], [], none, [0, 1, 6], 7, [], [], []⟩])
       (.seq
        (.reg [⟨[], [(10, (.ext 0 (.call 13 (.cons (.bin .add (.bin .add (.sl 0) (.str [10])) (.sl 1)) .nil)))), (11, (.ext 1 (.call 13 (.cons (.bin .add (.bin .add (.sl 0) (.str [10])) (.sl 1)) .nil))))], [], none, [0, 6, 8, 9], 10, [], [], []⟩])
        (.seq
         (.reg [⟨[(12, .box (.agg (.cons (.int .i64 0) (.cons (.int .i64 0) (.cons (.int .i64 0) (.cons (.str []) .nil))))))], [(55, (.ext 1 (.call 17 (.cons (.sl 9) .nil))))], [], some (none, .store 4 (.sl 12) (.ext 0 (.call 17 (.cons (.sl 9) .nil)))), [0, 6, 8, 9, 10, 11, 12], 7, [], [], []⟩, ⟨[], [(13, (.sl 55))], [], none, [0, 6, 8, 9, 10, 11, 12], 1, [], [], []⟩])
         (.seq
          (.seq
           (.reg [⟨[], [(57, (.un .not (.sl 13)))], [], none, [0, 6, 8, 9, 10, 11, 12], 2, [], [], []⟩])
           (.cond (.sl 57)
            (.seq
             (.reg [⟨[], [(4, (.bool false))], [], none, [], 1, [], [], []⟩])
             (.seq
              (.tidy 0 [4])
              .ret))
            .skip))
          (.seq
           (.seq
            (.reg [⟨[], [(59, (.eqs true false [5] (.sl 9) .nilif))], [], none, [0, 6, 8, 10, 11, 12], 2, [], [], []⟩])
            (.cond (.sl 59)
             (.seq
              (.reg [⟨[], [], [], some (none, .store 1 (.fa 2 (.sl 12)) (.bin .add (.bin .add (.ld 1 false (.fa 2 (.sl 12))) (.len true (.sl 0))) (.int .i64 1))), [10, 11, 12], 8, [], [], []⟩])
              (.seq
               (.reg [⟨[], [(14, (.call 18 (.cons (.sl 11) (.cons (.ld 4 true (.sl 12)) .nil))))], [], none, [10], 4, [], [], []⟩])
               (.seq
                (.reg [⟨[], [(4, (.and (.sl 14) (.bin .eql (.len false (.sl 10)) (.int .i64 0))))], [], none, [], 7, [], [], []⟩])
                (.seq
                 (.tidy 0 [4])
                 .ret))))
             .skip))
           (.seq
            (.reg [⟨[(77, .callo 16 (.cons (.sl 6) (.cons (.int .i64 0) .nil))), (82, .callo 16 (.cons (.sl 8) (.cons (.bin .add (.len true (.sl 0)) (.int .i64 1)) .nil)))], [], [], some (some 83, .app 4 (.sl 77) (.sl 82)), [10, 11], 8, [], [], []⟩, ⟨[], [(15, (.sl 83))], [], none, [10, 11], 1, [], [], []⟩])
            (.seq
             (.reg [⟨[], [(16, (.call 12 (.cons (.sl 10) (.cons (.sl 15) .nil))))], [], none, [11], 4, [], [], []⟩])
             (.seq
              (.reg [⟨[], [(4, (.and (.eqs false false [5] (.sl 11) .nilif) (.sl 16)))], [], none, [], 6, [], [], []⟩])
              (.seq
               (.tidy 0 [4])
               .ret)))))))))))))),
 [(.sl 4)], false⟩
theorem f7_ok : funOk Go.Proofs.Tryd.prog 7 0 2 f7 = true := by kernel_rfl

/- 'sloth/slothlaw01.faulted' -/
def f18 : Fun := ⟨
 (.seq
  (.reg [⟨[(3, .box (.sl 1))], [], [(.bool false)], none, [0, 3], 2, [], [], []⟩])
  (.seq
   (.reg [⟨[(5, .box (.agg (.cons (.int .i64 0) (.cons (.int .i64 0) (.cons (.int .i64 0) (.cons (.str []) .nil))))))], [(11, (.ext 1 (.call 17 (.cons (.sl 0) .nil))))], [], some (none, .store 4 (.sl 5) (.ext 0 (.call 17 (.cons (.sl 0) .nil)))), [0, 3, 5], 7, [], [], []⟩, ⟨[], [(6, (.sl 11))], [], none, [0, 3, 5], 1, [], [], []⟩])
   (.seq
    (.reg [⟨[], [(4, (.and (.and (.sl 6) (.eqs false true [0, 0, 0, 2] (.ld 4 true (.sl 5)) (.ld 4 true (.sl 3)))) (.eqs false false [1] (.eqs false false [5] (.sl 0) .nilif) (.bin .eql (.ld 1 false (.fa 0 (.sl 3))) (.int .i64 0)))))], [], none, [], 15, [[], [0], [0, 1], [0, 1], [3, 1, 0, 2], [2, 3, 4, 0, 1], [1, 0, 4, 3, 2, 5], [5, 2, 3, 4, 0, 1, 6], [6, 1, 0, 4, 3, 2, 5, 7], [5, 2, 3, 4, 0, 1, 6], [6, 1, 0, 4, 3, 2, 5, 9], [9, 5, 2, 3, 4, 0, 1, 6, 10], [10, 9, 11, 7, 5, 2, 3, 4, 0, 1, 6, 8], [8, 7, 11, 9, 10, 12, 5, 2, 3, 4, 0, 1, 6], [6, 1, 0, 4, 3, 2, 5, 12, 10, 9, 11, 7, 8, 13]], [], []⟩])
    (.seq
     (.tidy 0 [4])
     .ret)))),
 [(.sl 4)], false⟩
theorem f18_ok : funOk Go.Proofs.Tryd.prog 18 0 2 f18 = true := by kernel_rfl


def K18 (K : Cx) : Prop := ∀ e i : Int, e ≠ 0 → K.call 18 [errI e i, fltV e 0 i []] = some (.d false (.bool true), [])

theorem ev_faulted (K : Cx) (h17 : K17 K) (e i : Int) (he : e ≠ 0) : runFun K f18 [errI e i, fltV e 0 i []] [] = some (.d false (.bool true), [], []) := by
  have h := h17.2 e i
  have g : decide (e = 0) = false := decide_eq_false he
  simp (disch := first | decide | omega | (simp only [LN]; omega) | (simp only [LN]; done) | fail) only [SV, f18, Nat.zero_add, Nat.reduceAdd, Nat.reduceBEq, beq_self_eq_true, V.laid, V.cells, if_true, Bool.and_self, V.own, V.own1, Bool.or_self, V.new, V.new1, D.flat, Bool.and_true, V.flatV, V.flat1, Bool.not_false, Bool.false_and, view, viewD, h, Bool.or_true, Bool.not_true, Bool.false_eq_true, if_false, evExt, List.getElem?_cons_succ, List.getElem?_cons_zero, Nat.le_refl, lose, evEqs, cellsEq, cellEq, decide_true, e_nilif, V.isNilI, evFa, Nat.add_zero, evBin, intBin, V.refs, oneOr, finV, finA, finC]

theorem ite_code {c : Prop} [Decidable c] {e0 e : Nat} {k : Nat} {t : BS} {m : Int} {n : Nat} (h : (if c then St.bad e0 else St.tok k t m n) = .bad e) : e0 = e := by
  split at h
  · injection h
  · cases h
theorem tokS_code {r : BS} {e : Nat} (h : tokS r = .bad e) : 3 ≤ e := by
  unfold tokS at h
  split at h
  · cases h
  · split at h
    · cases h
    · split at h
      · unfold numS at h
        have := ite_code h
        omega
      · split at h
        · unfold opS at h
          simp only at h
          split at h
          · cases h
          · split at h
            · injection h; omega
            · cases h
        · have q : ∀ e, quotS r = .bad e → 3 ≤ e := by
            intro e h
            unfold quotS at h
            split at h
            · injection h; omega
            · split at h
              · cases h
              · split at h
                · cases h
                · injection h; omega
          split at h
          · cases h
          · split at h
            · split at h
              · exact q e h
              · split at h
                · injection h; omega
                · cases h
            · split at h
              · exact q e h
              · injection h; omega
theorem stepS_code {r : BS} {e : Nat} (h : stepS r = .bad e) : 3 ≤ e := by
  unfold stepS at h
  split at h
  · cases h
  · split at h
    · split at h
      · injection h; omega
      · cases h
    · split at h
      · cases h
      · exact tokS_code h
theorem lex_bad : ∀ (k : Nat) (r : BS), r.length = k → ∀ (i n e p : Nat), lexS r i n = .bad e p → 3 ≤ e ∧ i ≤ p ∧ p < i + r.length := by
  intro k
  induction k using Nat.strongRecOn with
  | ind k ih =>
    intro r hr i n e p h
    subst hr
    by_cases h0 : r = []
    · subst h0; rw [lexS_nil] at h; cases h
    · obtain ⟨s1, s2⟩ := stepS_len h0
      have hl : 1 ≤ r.length := by cases r with | nil => exact absurd rfl h0 | cons a b => simp
      rw [lexS_cons h0] at h
      cases hs : stepS r with
      | bad e =>
        rw [hs] at h
        injection h with h1 h2
        subst h1 h2
        exact ⟨stepS_code hs, Nat.le_refl _, by omega⟩
      | skip k =>
        rw [hs] at h
        obtain ⟨k1, k2⟩ := s1 k hs
        have := ih (r.drop k).length (by rw [List.length_drop]; omega) (r.drop k) rfl _ _ _ _ h
        rw [List.length_drop] at this
        exact ⟨this.1, by omega, by omega⟩
      | tok kd tx nm k =>
        rw [hs] at h
        obtain ⟨k1, k2⟩ := s2 kd tx nm k hs
        simp only at h
        split at h
        · injection h with h1 h2
          subst h1 h2
          exact ⟨by omega, Nat.le_refl _, by omega⟩
        · cases hx : lexS (r.drop k) (i + k) (n + 1) with
          | ok l' => rw [hx] at h; cases h
          | bad e' p' =>
            rw [hx] at h
            injection h with h1 h2
            subst h1 h2
            have := ih (r.drop k).length (by rw [List.length_drop]; omega) (r.drop k) rfl _ _ _ _ hx
            rw [List.length_drop] at this
            exact ⟨this.1, by omega, by omega⟩

theorem lexV_er {s : BS} (h : s.length ≤ 65536) {e p : Nat} (hl : lexS s 0 0 = .bad e p) : lexV s = errD e p := by
  unfold lexV
  rw [if_neg (by omega), hl]

set_option maxHeartbeats 2000000 in
theorem ev_LexJoins (K : Cx) (h9 : K9 K) (h13 : K13 K) (h16 : K16 K) (h12 : K12 K) (h17 : K17 K) (h18 : K18 K) (a b : BS) (ha : a.length ≤ 1100000) (hb : b.length ≤ 1100000) :
    runFun K f7 [vS a, vS b] [] = some (.d false (.bool true), [], []) := by
  have e9 : K.call 9 [] = some (.d false (.bool true), []) := h9
  by_cases gb : (20000 : Int) < a.length + b.length + 1
  · simp (disch := first | decide | omega | (simp only [LN]; omega) | (simp only [LN]; done) | fail) only [SV, f7, Nat.zero_add, Nat.reduceAdd, Bool.and_self, beq_self_eq_true, Nat.reduceBEq, Bool.not_true, Bool.and_false, Bool.false_and, e9, V.new, V.new1, D.flat, Bool.or_true, Bool.false_eq_true, if_false, evLen, evBin, intBin, if_true, decide_true, V.refs, oneOr, finV, finA, finC]
  · have a13 := h13 a (by omega)
    have b13 := h13 b (by omega)
    have c13 := h13 (a ++ [10] ++ b) (by simp only [List.length_append, List.length_singleton]; omega)
    cases hl : lexS a 0 0 with
    | bad e1 e2 =>
      rw [lexV_er (by omega) hl] at a13
      unfold errD at a13
      simp (disch := first | decide | omega | (simp only [LN]; omega) | (simp only [LN]; done) | fail) only [SV, f7, Nat.zero_add, Nat.reduceAdd, Bool.and_self, beq_self_eq_true, Nat.reduceBEq, Bool.not_true, Bool.and_false, Bool.false_and, e9, V.new, V.new1, D.flat, Bool.or_true, Bool.false_eq_true, if_false, evLen, evBin, intBin, if_true, decide_false, V.own, V.own1, Bool.or_self, V.flatV, V.flat1, view, viewD, a13, Bool.or_false, Bool.and_true, Bool.not_false, evExt, List.getElem?_cons_zero, List.getElem?_cons_succ, evUn, e_nilif, evEqs, cellsEq, cellEq, V.isNilI, V.refs, decide_true, oneOr, finV, finA, finC]
    | ok l =>
      rw [lexV_ok (by omega) hl] at a13
      have hj := lex_join b _ a rfl 0 0 l hl (by omega)
      have hc := lex_count _ a rfl 0 0 l hl
      rw [show 0 + a.length + 1 = 0 + (a.length + 1) from by omega, lex_shift _ b rfl 0 (a.length + 1) (0 + l.length) 0 (by omega) (by omega)] at hj
      have eab : a ++ [10] ++ b = a ++ 10 :: b := by simp
      rw [← eab] at hj
      cases hm : lexS b 0 0 with
      | bad e p =>
        rw [hm] at hj
        obtain ⟨q0, q1, q2⟩ := lex_bad _ b rfl 0 0 e p hm
        have hj' : lexS (a ++ [10] ++ b) 0 0 = .bad e (p + (a.length + 1)) := hj
        rw [lexV_er (by omega) hm] at b13
        rw [lexV_er (by simp only [List.length_append, List.length_singleton]; omega) hj'] at c13
        unfold errD at b13 c13
        have k17 := h17.2 e p
        have k18 := h18 e ((p : Int) + (a.length : Int) + 1) (by omega)
        rw [show ((p + (a.length + 1) : Nat) : Int) = (p : Int) + (a.length : Int) + 1 from by omega] at c13
        clear hj hj' hl hm h9 h13 h16 h12 h17 h18 eab
        simp (disch := first | decide | omega | (simp only [LN]; omega) | (simp only [LN]; done) | fail) only [SV, f7, Nat.zero_add, Nat.reduceAdd, Bool.and_self, beq_self_eq_true, Nat.reduceBEq, Bool.not_true, Bool.and_false, Bool.false_and, e9, V.new, V.new1, D.flat, Bool.or_true, Bool.false_eq_true, if_false, evLen, evBin, intBin, if_true, decide_false, V.own, V.own1, Bool.or_self, V.flatV, V.flat1, view, viewD, a13, Bool.or_false, evExt, List.getElem?_cons_zero, List.getElem?_cons_succ, evUn, e_nilif, evEqs, cellsEq, cellEq, V.isNilI, b13, Bool.and_true, Bool.not_false, strBin, List.length_append, c13, V.laid, V.cells, k17, Nat.le_refl, lose, evFa, V.cell, k18, eq_t, V.refs, decide_true, oneOr, finV, finA, finC]
      | ok m =>
        rw [hm] at hj
        have hj' : lexS (a ++ [10] ++ b) 0 0 = .ok (l ++ m.map (mvT (a.length + 1))) := hj
        rw [lexV_ok (by omega) hm] at b13
        rw [lexV_ok (by simp only [List.length_append, List.length_singleton]; omega) hj'] at c13
        have k17 := h17.1
        have la := lex_at _ a rfl 0 0 l hl
        have lb := lex_at _ b rfl 0 0 m hm
        have lcb := lex_count _ b rfl 0 0 m hm
        have la' : ∀ t ∈ l, 0 ≤ t.at_ ∧ t.at_ ≤ 2000000 := fun t ht => by have := la t ht; omega
        have lb' : ∀ t ∈ m, 0 ≤ t.at_ ∧ t.at_ ≤ 2000000 := fun t ht => by have := lb t ht; omega
        have y0 := h16 l 0 (by omega) (by omega) la'
        rw [mv0, Int.natCast_zero] at y0
        have y1 := h16 m (a.length + 1) (by omega) (by omega) lb'
        rw [show ((a.length + 1 : Nat) : Int) = (a.length : Int) + 1 from by omega] at y1
        have v1 := h12 (l ++ m.map (mvT (a.length + 1))) (l ++ m.map (mvT (a.length + 1))) (by simp; omega) (by simp; omega)
        simp only [decide_true] at v1
        have ml1 : (m.map (mvT (a.length + 1))).length = m.length := by simp
        clear la lb la' lb' hl hm h9 h13 h16 h12 h17 h18 hj hj' eab
        by_cases gl : l = []
        · by_cases gm : m = []
          · subst gl gm
            simp only [slT, List.map_nil, outN, newsN, List.append_nil, List.nil_append] at *
            simp (disch := first | decide | omega | (simp only [LN]; omega) | (simp only [LN]; done) | fail) only [SV, f7, Nat.zero_add, Nat.reduceAdd, Bool.and_self, beq_self_eq_true, Nat.reduceBEq, Bool.not_true, Bool.and_false, Bool.false_and, e9, V.new, V.new1, D.flat, Bool.or_true, Bool.false_eq_true, if_false, evLen, evBin, intBin, if_true, decide_false, V.own, V.own1, Bool.or_self, V.flatV, V.flat1, view, viewD, a13, Bool.or_false, evExt, List.getElem?_cons_zero, List.getElem?_cons_succ, evUn, e_nilif, evEqs, cellsEq, cellEq, V.isNilI, b13, strBin, List.length_append, c13, V.laid, V.cells, k17, Nat.le_refl, lose, y0, Bool.not_false, V.new2, V.newR, V.shift, Nat.add_zero, y1, rows_fs0, Bool.and_true, v1, V.refs, decide_true, oneOr, finV, finA, finC]
          · subst gl
            have n1 : m.map (mvT (a.length + 1)) ≠ [] := by simpa using gm
            rw [(outN_ne n1).1, (outN_ne n1).2] at y1
            generalize m.map (mvT (a.length + 1)) = m1 at *
            simp only [slT, List.map_nil, outN, newsN, List.append_nil, List.nil_append] at *
            clear n1 gm
            simp (disch := first | decide | omega | (simp only [LN]; omega) | (simp only [LN]; done) | fail) only [SV, f7, Nat.zero_add, Nat.reduceAdd, Bool.and_self, beq_self_eq_true, Nat.reduceBEq, Bool.not_true, Bool.and_false, Bool.false_and, e9, V.new, V.new1, D.flat, Bool.or_true, Bool.false_eq_true, if_false, evLen, evBin, intBin, if_true, decide_false, V.own, V.own1, Bool.or_self, V.flatV, V.flat1, view, viewD, a13, Bool.or_false, evExt, List.getElem?_cons_zero, List.getElem?_cons_succ, evUn, e_nilif, evEqs, cellsEq, cellEq, V.isNilI, b13, strBin, List.length_append, c13, V.laid, V.cells, k17, Nat.le_refl, lose, y0, Bool.not_false, V.new2, V.newR, V.shift, Nat.add_zero, y1, Bool.true_or, Bool.and_true, v1, V.refs, decide_true, oneOr, finV, finA, finC]
        · rw [(outN_ne gl).1, (outN_ne gl).2] at y0
          by_cases gm : m = []
          · subst gm
            simp only [slT, List.map_nil, outN, newsN, List.append_nil, List.nil_append] at *
            clear gl
            simp (disch := first | decide | omega | (simp only [LN]; omega) | (simp only [LN]; done) | fail) only [SV, f7, Nat.zero_add, Nat.reduceAdd, Bool.and_self, beq_self_eq_true, Nat.reduceBEq, Bool.not_true, Bool.and_false, Bool.false_and, e9, V.new, V.new1, D.flat, Bool.or_true, Bool.false_eq_true, if_false, evLen, evBin, intBin, if_true, decide_false, V.own, V.own1, Bool.or_self, V.flatV, V.flat1, view, viewD, a13, Bool.or_false, evExt, List.getElem?_cons_zero, List.getElem?_cons_succ, evUn, e_nilif, evEqs, cellsEq, cellEq, V.isNilI, b13, strBin, List.length_append, c13, V.laid, V.cells, k17, Nat.le_refl, lose, y0, Bool.not_false, V.new2, V.newR, V.shift, y1, Nat.add_zero, rows_fs0, V.forget, V.drop1, beq_iff_eq, V.ref0, Bool.and_true, v1, V.refs, decide_true, oneOr, finV, finA, finC]
          · have n1 : m.map (mvT (a.length + 1)) ≠ [] := by simpa using gm
            rw [(outN_ne n1).1, (outN_ne n1).2] at y1
            generalize m.map (mvT (a.length + 1)) = m1 at *
            clear n1 gm gl
            simp (disch := first | decide | omega | (simp only [LN]; omega) | (simp only [LN]; done) | fail) only [SV, f7, Nat.zero_add, Nat.reduceAdd, Bool.and_self, beq_self_eq_true, Nat.reduceBEq, Bool.not_true, Bool.and_false, Bool.false_and, e9, V.new, V.new1, D.flat, Bool.or_true, Bool.false_eq_true, if_false, evLen, evBin, intBin, if_true, decide_false, V.own, V.own1, Bool.or_self, V.flatV, V.flat1, view, viewD, a13, Bool.or_false, evExt, List.getElem?_cons_zero, List.getElem?_cons_succ, evUn, e_nilif, evEqs, cellsEq, cellEq, V.isNilI, b13, strBin, List.length_append, c13, V.laid, V.cells, k17, Nat.le_refl, lose, y0, Bool.not_false, V.new2, V.newR, V.shift, y1, Bool.true_or, fTokA, V.forget, V.drop1, beq_iff_eq, V.ref0, Bool.and_true, v1, V.refs, decide_true, oneOr, finV, finA, finC]
end Go.Vm
end

section
namespace Go.Vm
open Go.Shelf Go.Proofs

noncomputable def z17 : Sp where
  α := Option (Int × Int)
  f := 17
  ok := fun _ => True
  args := fun | none => [.d false .nilif] | some (e, i) => [errI e i]
  res := fun | none => (seenV 0 0 0 [], []) | some (e, i) => (seenV e 0 i [], [])
  inj := by
    rintro a b _ _ h
    match a, b, h with
    | none, none, _ => rfl
    | none, some _, h => simp at h
    | some _, none, h => simp at h
    | some (e, i), some (e', i'), h =>
      simp only [List.cons.injEq, V.d.injEq, D.iface.injEq, D.ptr.injEq, D.int.injEq, true_and, and_true] at h
      rw [h.1, h.2]
noncomputable def z18 : Sp where
  α := Int × Int
  f := 18
  ok := fun (e, i) => e ≠ 0
  args := fun (e, i) => [errI e i, fltV e 0 i []]
  res := fun _ => (.d false (.bool true), [])
  inj := by
    rintro a b _ _ h
    rfl
theorem k17_of {L E} (h : Has L z17) : K17 (cx GT L E) := ⟨h none trivial, fun e i => h (some (e, i)) trivial⟩
theorem k18_of {L E} (h : Has L z18) : K18 (cx GT L E) := fun e i he => h (e, i) he
noncomputable def N33 : List Sp := z17 :: N32
theorem zn33 : Known Tryd.prog GT N33 EE := by
  exact zn32.put (fun a _ => ⟨by kernel_rfl, by
    match a with
    | none => exact pure_seen_nil
    | some (e, i) => exact pure_seen e i⟩)
noncomputable def N34 : List Sp := z18 :: N33
theorem zn34 : Known Tryd.prog GT N34 EE := by
  have k17 := k17_of (E := EE) (show Has N33 z17 by repeat (first | exact has_head _ _ | refine has_tail ?_ (by decide)))
  exact zn33.add mixedD (fun ⟨e, i⟩ _ => f18_ok) (fun ⟨e, i⟩ h => ⟨_, ev_faulted _ k17 e i h⟩)

theorem law_joins (a b : BS) (ha : a.length ≤ 1100000) (hb : b.length ≤ 1100000) : PureCall Tryd.prog GT 7 [vS a, vS b] (.d false (.bool true)) [] := by
  have k9 := k9_of (E := EE) (show Has N34 z9 by repeat (first | exact has_head _ _ | refine has_tail ?_ (by decide)))
  have k13 := k13_of (E := EE) (show Has N34 z13 by repeat (first | exact has_head _ _ | refine has_tail ?_ (by decide)))
  have k16 := k16_of (E := EE) (show Has N34 z16 by repeat (first | exact has_head _ _ | refine has_tail ?_ (by decide)))
  have k12 := k12_of (E := EE) (show Has N34 z12 by repeat (first | exact has_head _ _ | refine has_tail ?_ (by decide)))
  have k17 := k17_of (E := EE) (show Has N34 z17 by repeat (first | exact has_head _ _ | refine has_tail ?_ (by decide)))
  have k18 := k18_of (E := EE) (show Has N34 z18 by repeat (first | exact has_head _ _ | refine has_tail ?_ (by decide)))
  exact (pure_sound (args := [vS a, vS b]) mixedD zn34.sound f7_ok (ev_LexJoins _ k9 k13 k16 k12 k17 k18 a b ha hb)).2
end Go.Vm
end

section
namespace Go.Vm
open Go.ChangeShapes Go.WideShapes Go.ChangeAt Go.RowKit Go.Proofs Go.Proofs.YtmmbgofnllcaeaaDoor
set_option linter.unusedVariables false

theorem ownD : ownKnob Tryd.prog.godebug = none := by kernel_rfl
theorem laidOutD : laidOutB Tryd.prog = true := by kernel_rfl
theorem gCls : Tryd.prog.globalNamed "sloth/lex.classes" = some 0 := by kernel_rfl
theorem gClsT : (Tryd.prog.globals[0]?).map (·.type) = some 71 := by kernel_rfl
theorem gP10T : (Tryd.prog.globals[2]?).map (·.type) = some 130 := by kernel_rfl

def laidL : List (String × DataW Unit) := [("math/bits.deBruijn32tab", Rows.laid_math_bits_deBruijn32tab), ("math/bits.deBruijn64tab", Rows.laid_math_bits_deBruijn64tab), ("internal/strconv.uint64pow10", Rows.laid_internal_strconv_uint64pow10), ("unicode/utf8.acceptRanges", Rows.laid_unicode_utf8_acceptRanges), ("sloth/lex.classes", Rows.laid_sloth_lex_classes), ("unicode/utf8.first", Rows.laid_unicode_utf8_first)]

def Reads (P : Program) (w : World) (n : String) (d : DataW Unit) : Prop :=
  ∃ g t cs fuel p, P.globalNamed n = some g ∧ (P.globals[g]?).map (·.type) = some t ∧ w.var? P n = some cs ∧ DataW.trod (fun _ => ()) P w 0 (fun _ => true) false fuel t cs.toList = some (d, p)
theorem reads_of {P : Program} {w : World} : ∀ {l : List (String × DataW Unit)} {ps : List MemPlace}, DataW.LaidVars P w l ps → ∀ n d, (n, d) ∈ l → Reads P w n d
  | [], _, _, _, _, hm => by cases hm
  | (n', d') :: r, ps, h, n, d, hm => by
    obtain ⟨g, t, cs, fuel, p, q, h1, h2, h3, h4, h5, _⟩ := h
    rcases List.mem_cons.1 hm with e | e
    · cases e
      exact ⟨g, t, cs, fuel, p, h1, h2, h3, h4⟩
    · exact reads_of h5 n d e
theorem tab_of_reads {P : Program} {W : World} {name : String} {k : IntKind} {zs : List Int} {g : Nat} {t e : TypeId} {n : Nat}
    (hg : P.globalNamed name = some g) (hty : (P.globals[g]?).map (·.type) = some t) (ht : P.underlying t = some (.array n e)) (he : P.underlying e = some (.int k)) (hce : P.cellsOf e = 1) (hct : P.cellsOf t = n)
    (h : Reads P W name (Lib.tabData k zs)) : Lib.TabIs P W name k zs := by
  obtain ⟨g', t', cs, fuel, p, hg', ht', hvar, hd⟩ := h
  obtain rfl := Option.some.inj (hg.symm.trans hg')
  obtain rfl := Option.some.inj (hty.symm.trans ht')
  unfold Lib.TabIs
  rw [hvar, ← Lib.cells_of_tab ht he hce hct hd]

theorem clsData : (Rows.laid_sloth_lex_classes : DataW Unit) = Lib.tabData .u8 (clTab.map fun n => ((n : Nat) : Int)) := by kernel_rfl
theorem p10Data : (Rows.laid_internal_strconv_uint64pow10 : DataW Unit) = Lib.tabData .u64 Lib.pow10Tab := by kernel_rfl

theorem glob_of_tab {W : World} {name : String} {k : IntKind} {zs : List Int} {g : Nat} (h : Lib.TabIs Tryd.prog W name k zs) (hg : Tryd.prog.globalNamed name = some g) :
    RepD W (There W) (.pointer (some ⟨g, 0, none⟩)) (.ptr (zs.map fun z => .int k z)) ∧ ∃ cs t fz, W.heap[g]? = some (.cells cs t fz) ∧ cs.size = (zs.map fun z => D.int k z).length := by
  have hb : ∃ cs t fz, W.heap[g]? = some (.cells cs t fz) ∧ cs.size = (zs.map fun z => D.int k z).length := by
    unfold Lib.TabIs World.var? at h
    rw [hg] at h
    replace h : (match W.heap[g]? with | some (.cells cs _ _) => some cs | _ => none) = some (zs.map fun z => Value.int k z).toArray := h
    split at h
    · rename_i cs t fz hh
      obtain rfl := Option.some.inj h
      exact ⟨_, t, fz, hh, by simp⟩
    · cases h
  refine ⟨?_, hb⟩
  obtain ⟨cs, t, fz, hh, hsz⟩ := hb
  refine .ptr g 0 _ (fun j => .int k (zs.getD j 0)) ?_ (fun j d hd => ?_) (fun j d hd => ?_)
  · show g < W.heap.size
    rcases Nat.lt_or_ge g W.heap.size with h' | h'
    · exact h'
    · simp [Array.getElem?_eq_none h'] at hh
  · have hj : j < zs.length := by
      rcases Nat.lt_or_ge j zs.length with h' | h'
      · exact h'
      · rw [List.getElem?_eq_none (by simpa using h')] at hd; cases hd
    rw [Nat.zero_add]
    exact h.cell hg j hj
  · rw [List.getElem?_map, Option.map_eq_some_iff] at hd
    obtain ⟨z, hz, rfl⟩ := hd
    have : zs.getD j 0 = z := by rw [List.getD_eq_getElem?_getD, hz]; rfl
    rw [this]
    exact .int k z

def laidJ : List (String × DataW Unit) := [("math/bits.deBruijn32tab", Rows.laid_math_bits_deBruijn32tab), ("math/bits.deBruijn64tab", Rows.laid_math_bits_deBruijn64tab), ("internal/strconv.uint64pow10", Rows.laid_internal_strconv_uint64pow10), ("unicode/utf8.acceptRanges", Rows.laid_unicode_utf8_acceptRanges), ("errors.errorType", Rows.laid_errors_errorType), ("sloth/lex.classes", Rows.laid_sloth_lex_classes), ("unicode/utf8.first", Rows.laid_unicode_utf8_first)]
theorem hanEt : Tryd.prog.globalNamed "errors.errorType" = some 1 := by kernel_rfl
theorem hanRt : (Tryd.prog.cutTypes.find? (·.1 == "internal/reflectlite.rtype")).map (·.2) = some 101 := by kernel_rfl
theorem hanRow : ((List.range 171).filter fun t => Tryd.prog.rowNamed t [101, 114, 114, 111, 114]) = [31] := by kernel_rfl
theorem hanSize : Tryd.prog.types.size = 171 := by kernel_rfl
theorem handle_of_laid {W : World} (h : handlesMet Tryd.prog [("errors.errorType", Rows.laid_errors_errorType)] W) : W.cell? ⟨1, 0, none⟩ = some (.iface 101 (.agg #[.pointer (some ⟨8, 31, none⟩)])) := by
  obtain ⟨name, u, ty, e1, e2, e3, e4, e5⟩ := h _ (List.mem_singleton.2 rfl)
  have en : name = [101, 114, 114, 111, 114] := (Option.some.inj e1).symm
  subst en
  obtain rfl := Option.some.inj (hanRt.symm.trans e2)
  have hm : ty ∈ (List.range 171).filter fun t => Tryd.prog.rowNamed t [101, 114, 114, 111, 114] := List.mem_filter.2 ⟨List.mem_range.2 (by rw [← hanSize]; exact e3), e4⟩
  rw [hanRow] at hm
  obtain rfl := List.mem_singleton.1 hm
  have hh : typeHandle Tryd.prog 31 = .pointer (some ⟨8, 31, none⟩) := by kernel_rfl
  rw [hh] at e5
  simpa using World.var?_cell hanEt e5 0

theorem glob_of_laidJ {W : World} (h : laidMetH Tryd.prog laidJ W) : GlobRel W (There W) GT := by
  have h' : laidMet Tryd.prog laidL W ∧ handlesMet Tryd.prog [("errors.errorType", Rows.laid_errors_errorType)] W := h
  obtain ⟨ps, hv, _⟩ : laidMet Tryd.prog laidL W := h'.1
  have hc := handle_of_laid h'.2
  have h0 := reads_of hv "sloth/lex.classes" Rows.laid_sloth_lex_classes (by simp [laidL])
  have h2 := reads_of hv "internal/strconv.uint64pow10" Rows.laid_internal_strconv_uint64pow10 (by simp [laidL])
  rw [clsData] at h0
  rw [p10Data] at h2
  have t0 := tab_of_reads gCls gClsT Tryd.underlying71 Tryd.underlying5 (by kernel_rfl) (by kernel_rfl) h0
  have t2 := tab_of_reads gP10 gP10T Tryd.underlying130 Tryd.underlying122 (by kernel_rfl) (by kernel_rfl) h2
  intro g cells hg
  match g, hg with
  | 0, hg =>
    obtain rfl := Option.some.inj hg
    rw [if_neg (show ¬ isHandle (clTab.map fun n => D.int .u8 (n : Nat)) = true from fun e => Bool.noConfusion (show false = true from e))]
    have := glob_of_tab t0 gCls
    rw [List.map_map] at this
    exact this
  | 2, hg =>
    obtain rfl := Option.some.inj hg
    rw [if_neg (show ¬ isHandle (Lib.pow10Tab.map fun z => D.int .u64 z) = true from fun e => Bool.noConfusion (show false = true from e))]
    exact glob_of_tab t2 gP10
  | 1, hg =>
    obtain rfl := Option.some.inj hg
    rw [if_pos (show isHandle [D.nilfn, .int .i64 101, .int .i64 8, .int .i64 31] = true from rfl)]
    refine ⟨?_, hc⟩
    show 1 < W.heap.size
    rcases Nat.lt_or_ge 1 W.heap.size with h | h
    · exact h
    · simp [World.cell?, Array.getElem?_eq_none h] at hc
  | n + 3, hg => cases hg

def flatN : Nat → DataW Unit → List Value
  | _, .lit (.int k n) => [.int k n]
  | n + 1, .agg ps => ps.flatMap (flatN n)
  | _, _ => []
def lay (g : Nat) (d : DataW Unit) (h : Array Obj) : Array Obj := h.modify g fun
  | .cells _ t frozen => .cells (flatN 3 d).toArray t frozen
  | o => o
def layH (h : Array Obj) : Array Obj := h.modify 1 fun
  | .cells _ t frozen => .cells #[.iface 101 (.agg #[.pointer (some ⟨8, 31, none⟩)])] t frozen
  | o => o
noncomputable def laidWorldJ (os : Os) : World :=
  { World.holding Tryd.prog os ⟨#[], #[], []⟩ with heap := layH (lay 7 Rows.laid_math_bits_deBruijn64tab (lay 6 Rows.laid_math_bits_deBruijn32tab (lay 4 Rows.laid_unicode_utf8_acceptRanges (lay 3 Rows.laid_unicode_utf8_first (lay 2 Rows.laid_internal_strconv_uint64pow10 (lay 0 Rows.laid_sloth_lex_classes (World.holding Tryd.prog os ⟨#[], #[], []⟩).heap)))))) }
set_option maxRecDepth 100000 in
theorem laid_metJ (os : Os) (args : Array Value) : laidMetH Tryd.prog laidJ ((laidWorldJ os).forCall (fun _ _ => 0) ⟨#[], args, []⟩).memory :=
  laidMetH_of_parts (show laidMet Tryd.prog laidL _ from (LaidIn.of_run [0, 2, 3, 4, 6, 7] 8 (by kernel_rfl) (by kernel_rfl) (by kernel_rfl) (by kernel_rfl)).met) (by kernel_rfl)
end Go.Vm
end

section
namespace Go.Vm

theorem runL_cut (k : Nat) (y : BS) : ∀ x : BS, runL k (x ++ y) ≤ x.length → runL k x = runL k (x ++ y)
  | [], h => by
    simp only [List.nil_append, List.length_nil] at h ⊢
    rw [Nat.le_zero.1 h]; rfl
  | c :: x, h => by
    simp only [List.cons_append, runL, List.length_cons] at h ⊢
    split
    · rename_i hc
      rw [if_pos hc] at h
      rw [runL_cut k y x (by omega)]
    · rfl
theorem inNm_cut {x : BS} (y : BS) (h : x ≠ []) : inNm (x ++ y) = inNm x := by
  unfold inNm; rw [cls_app h]
theorem nameL_cut (y : BS) : ∀ x : BS, nameL (x ++ y) ≤ x.length → nameL x = nameL (x ++ y)
  | [], h => by
    simp only [List.nil_append, List.length_nil] at h ⊢
    rw [Nat.le_zero.1 h]; rfl
  | c :: x, h => by
    simp only [List.cons_append, nameL, List.length_cons] at h ⊢
    rw [show inNm (c :: (x ++ y)) = inNm (c :: x) from rfl] at h ⊢
    split
    · rename_i hc
      rw [if_pos hc] at h
      rw [nameL_cut y x (by omega)]
    · rfl
theorem nlL_cut (y : BS) : ∀ x : BS, nlL (x ++ y) ≤ x.length → nlL x = nlL (x ++ y)
  | [], h => by
    simp only [List.nil_append, List.length_nil] at h ⊢
    rw [Nat.le_zero.1 h]; rfl
  | c :: x, h => by
    simp only [List.cons_append, nlL, List.length_cons] at h ⊢
    split
    · rfl
    · rename_i hc
      rw [if_neg hc] at h
      rw [nlL_cut y x (by omega)]
theorem numL_0 (b : Int) (y : BS) (g : Bool) (n : Int) (h : (numL b y g n).2.2 = 0) : numL b y g n = (g, n, 0) := by
  cases y with
  | nil => rfl
  | cons c y =>
    simp only [numL] at h ⊢
    split
    · rename_i hc
      rw [if_pos hc] at h
      exfalso
      split at h <;> simp at h
    · rfl
theorem numL_cut (b : Int) (y : BS) : ∀ (x : BS) (g : Bool) (n : Int), (numL b (x ++ y) g n).2.2 ≤ x.length → numL b x g n = numL b (x ++ y) g n
  | [], g, n, h => by
    simp only [List.nil_append, List.length_nil] at h ⊢
    rw [numL_0 b y g n (Nat.le_zero.1 h)]; rfl
  | c :: x, g, n, h => by
    simp only [List.cons_append, numL, List.length_cons] at h ⊢
    split
    · rename_i hc
      rw [if_pos hc] at h
      by_cases hg : (4611686018427387903 - hexB c) / b < n
      · rw [if_pos hg] at h ⊢
        rw [if_pos hg, numL_cut b y x true (hexB c) (by simp only at h; omega)]
      · rw [if_neg hg] at h ⊢
        rw [if_neg hg, numL_cut b y x g (n * b + hexB c) (by simp only at h; omega)]
    · rfl
theorem bAt_cut {x : BS} (y : BS) {k : Nat} (h : k < x.length) : bAt ((x ++ y).drop k) = bAt (x.drop k) := by
  rw [drop_app (by omega), bAt_app (by rw [ne_eq, List.drop_eq_nil_iff]; omega)]
theorem cls_cut {x : BS} (y : BS) {k : Nat} (h : k < x.length) : cls ((x ++ y).drop k) = cls (x.drop k) := by
  rw [drop_app (by omega), cls_app (by rw [ne_eq, List.drop_eq_nil_iff]; omega)]
theorem soundS_cut (y : BS) {x : BS} {q : UInt8} {z : UInt8 × Nat} (h : soundS (x ++ y) q = some z) (hk : z.2 ≤ x.length) : soundS x q = some z := by
  have h1 : 1 ≤ x.length := by have := (soundS_len h).1; omega
  have h0 : x ≠ [] := by rintro rfl; simp at h1
  unfold soundS at h ⊢
  rw [bAt_app h0] at h
  by_cases g1 : bAt x ≠ 92
  · rw [if_pos g1] at h ⊢; exact h
  · rw [if_neg g1] at h ⊢
    have h2 : 2 ≤ x.length := by
      have e4 : ∀ u v, escD u = some v → v.2 = 4 := fun u v h => (escD_app [] h).2.1
      split at h
      · obtain rfl := Option.some.inj h; exact hk
      · split at h
        · obtain rfl := Option.some.inj h; exact hk
        · split at h
          · obtain rfl := Option.some.inj h; exact hk
          · have := e4 _ _ h; omega
    rw [bAt_cut y (k := 1) (by omega)] at h
    split
    · rename_i g2; rw [if_pos g2] at h; exact h
    · rename_i g2
      rw [if_neg g2] at h
      split
      · rename_i g3; rw [if_pos g3] at h; exact h
      · rename_i g3
        rw [if_neg g3] at h
        split
        · rename_i g4; rw [if_pos g4] at h; exact h
        · rename_i g4
          rw [if_neg g4] at h
          have e4 : 4 ≤ x.length := by have := (escD_app [] h).2.1; omega
          unfold escD at h ⊢
          rw [cls_cut y (k := 1) (by omega), cls_cut y (k := 2) (by omega), cls_cut y (k := 3) (by omega), bAt_cut y (k := 1) (by omega), bAt_cut y (k := 2) (by omega), bAt_cut y (k := 3) (by omega)] at h
          exact h
theorem quotL_cut (q : UInt8) (y : BS) : ∀ (n : Nat) (x : BS), x.length = n → ∀ z, quotL q (x ++ y) = some z → z.2 < x.length → quotL q x = some z := by
  intro n
  induction n using Nat.strongRecOn with
  | ind n ih =>
    intro x hx z h hk
    subst hx
    match x with
    | [] => exact absurd hk (by simp)
    | c :: x =>
      rw [List.cons_append, quotL] at h
      rw [quotL]
      split
      · rename_i hc; rw [if_pos hc] at h; exact h
      · rename_i hc
        rw [if_neg hc] at h
        split at h
        · cases h
        · rename_i a k hs
          rw [Option.map_eq_some_iff] at h
          obtain ⟨u, hu, rfl⟩ := h
          simp only [List.length_cons] at hk
          have hs1 := soundS_len hs
          simp only at hs1
          rw [soundS_cut y (x := c :: x) (by rw [List.cons_append]; exact hs) (by simp only [List.length_cons]; omega)]
          simp only
          rw [drop_app (by omega)] at hu
          rw [ih _ (by simp only [List.length_drop, List.length_cons]; omega) (x.drop (k - 1)) rfl u hu (by rw [List.length_drop]; omega)]
          rfl
theorem comL_cut (y : BS) : ∀ (d : Int) (x : BS) (k : Nat), comL d (x ++ y) = some k → k ≤ x.length → comL d x = some k
  | d, [], k, h, hk => by
    have := (comL_app [] _ _ _ h).2.1
    simp only [List.length_nil] at hk
    omega
  | d, [a], k, h, hk => by
    exfalso
    cases y with
    | nil => simp [comL] at h
    | cons b y =>
      simp only [List.cons_append, List.nil_append, comL, List.length_cons, List.length_nil] at h hk
      split at h
      · rw [Option.map_eq_some_iff] at h
        obtain ⟨z, hz, rfl⟩ := h
        omega
      · split at h
        · split at h
          · obtain rfl := Option.some.inj h; omega
          · rw [Option.map_eq_some_iff] at h
            obtain ⟨z, hz, rfl⟩ := h
            omega
        · rw [Option.map_eq_some_iff] at h
          obtain ⟨z, hz, rfl⟩ := h
          have := (comL_app [] _ _ _ hz).2.1
          omega
  | d, a :: b :: x, k, h, hk => by
    simp only [List.cons_append, comL] at h
    simp only [comL]
    simp only [List.length_cons] at hk
    split
    · rename_i h1
      rw [if_pos h1] at h
      rw [Option.map_eq_some_iff] at h ⊢
      obtain ⟨z, hz, rfl⟩ := h
      exact ⟨z, comL_cut y (d + 1) x z hz (by omega), rfl⟩
    · rename_i h1
      rw [if_neg h1] at h
      split
      · rename_i h2
        rw [if_pos h2] at h
        split
        · rename_i h3; rw [if_pos h3] at h; exact h
        · rename_i h3
          rw [if_neg h3] at h
          rw [Option.map_eq_some_iff] at h ⊢
          obtain ⟨z, hz, rfl⟩ := h
          exact ⟨z, comL_cut y (d - 1) x z hz (by omega), rfl⟩
      · rename_i h2
        rw [if_neg h2] at h
        rw [Option.map_eq_some_iff] at h ⊢
        obtain ⟨z, hz, rfl⟩ := h
        exact ⟨z, comL_cut y d (b :: x) z (by rw [List.cons_append]; exact hz) (by simp only [List.length_cons]; omega), rfl⟩
  termination_by _ x => x.length

theorem hexP_cut (y : BS) {x : BS} (h : 3 ≤ x.length) : hexP (x ++ y) = hexP x := by
  match x, h with
  | a :: b :: c :: x, _ => rfl
theorem hexP_up (y : BS) {x : BS} (h : hexP x = true) : hexP (x ++ y) = true := by
  rw [hexP_cut y (hexP_len h)]; exact h
theorem ite_tok_n {c : Prop} [Decidable c] {e : Nat} {a : Nat} {t : BS} {m m' : Int} {n n' : Nat} {k : Nat} {t' : BS} (h : (if c then St.bad e else St.tok a t m n) = .tok k t' m' n') : ¬ c ∧ a = k ∧ t = t' ∧ m = m' ∧ n = n' := by
  split at h
  · cases h
  · rename_i hc
    injection h with h1 h2 h3 h4
    exact ⟨hc, h1, h2, h3, h4⟩
theorem numS_cut (y : BS) {x : BS} {kd : Nat} {t : BS} {m : Int} {n : Nat} (h1 : cls (x ++ y) = 3) (h : numS (x ++ y) = .tok kd t m n) (hn : n ≤ x.length) (hx : x ≠ []) : numS x = .tok kd t m n := by
  have hl : 1 ≤ x.length := by cases x with | nil => exact absurd rfl hx | cons a b => simp
  unfold numS at h
  obtain ⟨q1, q2, q3, q4, q5⟩ := ite_tok_n h
  subst q2 q3 q4 q5
  have hp : hexP x = hexP (x ++ y) := by
    cases hb : hexP x with
    | true => rw [hexP_up y hb]
    | false =>
      cases hc : hexP (x ++ y) with
      | false => rfl
      | true =>
        exfalso
        have h3 := hexP_len hc
        simp only [hc, if_true] at hn
        have h2 : 1 ≤ (numL 16 ((x ++ y).drop 2) false 0).2.2 := by
          unfold hexP at hc
          simp only [Bool.and_eq_true, decide_eq_true_eq] at hc
          have h5 := hc.2
          match hz : (x ++ y).drop 2 with
          | [] => rw [hz] at h5; exact absurd h5 (show ¬ (0 ≤ hexB 0) by decide)
          | c :: r =>
            rw [hz] at h5
            have h6 : 0 ≤ hexB c := h5
            have h7 := hexB_lt c
            simp only [numL, h6, h7, and_self, if_true]
            omega
        have : hexP (x ++ y) = hexP x := hexP_cut y (by omega)
        rw [hb] at this
        rw [this] at hc
        cases hc
  unfold numS
  simp only [← hp] at q1 hn ⊢
  have ho : (if hexP x = true then 2 else 0) ≤ x.length := by
    split
    · rename_i h; have := hexP_len h; omega
    · omega
  generalize hoo : (if hexP x = true then 2 else 0) = o at ho q1 hn ⊢
  generalize (if hexP x = true then (16 : Int) else 10) = b at q1 hn ⊢
  rw [drop_app ho] at q1 hn ⊢
  have e := numL_cut b y (x.drop o) false 0 (by rw [List.length_drop]; omega)
  rw [← e] at q1 hn ⊢
  rw [if_neg]
  intro hc
  apply q1
  rcases hc with hc | ⟨c1, c2, c3⟩ | hc
  · exact .inl hc
  · refine .inr (.inl ⟨c1, ?_, c3⟩)
    have h4 := numL_le b (x.drop o) false 0
    rw [bAt_app (by intro hz; have h5 := congrArg List.length hz; rw [List.length_nil] at h5; omega)]
    exact c2
  · refine .inr (.inr ?_)
    rw [drop_app (by omega)]
    rw [inNm_cut]
    · exact hc
    · intro hz; rw [hz] at hc; cases hc

def upOk (r : BS) (q : Nat) : Prop := nameL r + 1 < r.length → bAt (r.drop (nameL r)) = 46 → cls (r.drop (nameL r + 1)) = 1 → q ≤ nameL r + 1 ∨ nameL r + 1 + nameL (r.drop (nameL r + 1)) ≤ q
theorem upS_ge (r : BS) : nameL r ≤ (upS r).2 := by
  unfold upS
  simp only
  split
  · exact Nat.le_refl _
  · split
    · split
      · exact Nat.le_refl _
      · simp only; omega
    · split
      · simp only; omega
      · exact Nat.le_refl _
theorem upS_cut (y : BS) {x : BS} (h : (upS (x ++ y)).2 ≤ x.length) (ho : upOk (x ++ y) x.length) : upS x = upS (x ++ y) := by
  have hn : nameL (x ++ y) ≤ x.length := Nat.le_trans (upS_ge _) h
  have en := nameL_cut y x hn
  unfold upOk at ho
  unfold upS at h ⊢
  rw [← en] at h ho hn ⊢
  simp only at h ⊢
  have hy : (x ++ y).length = x.length + y.length := List.length_append
  by_cases h1 : x.length ≤ nameL x + 1
  · rw [if_pos (.inl h1)]
    split
    · rfl
    · rename_i h2
      rw [if_neg h2] at h
      split
      · split
        · rfl
        · rename_i h3 h4
          rw [if_pos h3, if_neg h4] at h
          have := nameL_pos (inNm_cls (r := (x ++ y).drop (nameL x + 1)) (by omega))
          simp only at h
          omega
      · split
        · rename_i h3 h4
          rw [if_neg h3, if_pos h4] at h
          have := nameL_pos (inNm_cls (r := (x ++ y).drop (nameL x + 1)) (by omega))
          simp only at h
          omega
        · rfl
  · have hb : bAt ((x ++ y).drop (nameL x)) = bAt (x.drop (nameL x)) := bAt_cut y (by omega)
    have hc : cls ((x ++ y).drop (nameL x + 1)) = cls (x.drop (nameL x + 1)) := cls_cut y (by omega)
    have h1' : ¬ (x ++ y).length ≤ nameL x + 1 := by omega
    rw [hb] at h ho ⊢
    rw [hc] at h ho ⊢
    simp only [h1, h1', false_or] at h ⊢
    by_cases g : bAt (x.drop (nameL x)) = 46
    · have g' : ¬ (bAt (x.drop (nameL x)) ≠ 46) := fun h => h g
      simp only [if_neg g'] at h ⊢
      by_cases c1 : cls (x.drop (nameL x + 1)) = 1
      · have hz : nameL x + 1 + nameL ((x ++ y).drop (nameL x + 1)) ≤ x.length := by
          have := ho (by omega) g c1
          omega
        rw [drop_app (by omega)] at hz
        have ez := nameL_cut y (x.drop (nameL x + 1)) (by rw [List.length_drop]; omega)
        simp only [if_pos c1]
        rw [drop_app (k := nameL x + 1) (by omega), ← ez, take_app (nameL_le _)]
      · simp only [if_neg c1] at h ⊢
        by_cases c2 : cls (x.drop (nameL x + 1)) = 2
        · simp only [if_pos c2] at h ⊢
          rw [drop_app (by omega)] at h
          have ez := nameL_cut y (x.drop (nameL x + 1)) (by rw [List.length_drop]; omega)
          rw [drop_app (k := nameL x + 1) (by omega), ← ez]
        · simp only [if_neg c2]
    · rw [if_pos g, if_pos g]

theorem tokS_cut (y : BS) {x : BS} (hx : x ≠ []) {k : Nat} {t : BS} {m : Int} {n : Nat} (h : tokS (x ++ y) = .tok k t m n) (hn : n ≤ x.length) (ho : cls x = 2 → upOk (x ++ y) x.length) : tokS x = .tok k t m n := by
  have hl : 1 ≤ x.length := by cases x with | nil => exact absurd rfl hx | cons a b => simp
  have quot : quotS (x ++ y) = .tok k t m n → quotS x = .tok k t m n := by
    intro h
    unfold quotS at h ⊢
    rw [bAt_app hx, drop_app hl] at h
    split at h
    · cases h
    · rename_i bs k' hq
      have hk : k' + 2 ≤ x.length := by
        split at h
        · injection h; omega
        · split at h
          · injection h; omega
          · cases h
      rw [quotL_cut _ y _ (x.drop 1) rfl _ hq (by rw [List.length_drop]; simp only; omega)]
      exact h
  unfold tokS at h ⊢
  rw [cls_app hx] at h
  split
  · rename_i h1
    rw [if_pos h1] at h
    injection h with e1 e2 e3 e4
    subst e4
    rw [← nameL_cut y x hn, take_app (nameL_le x)] at e1 e2
    rw [← nameL_cut y x hn]
    subst e1 e2 e3
    rfl
  · rename_i h1
    rw [if_neg h1] at h
    split
    · rename_i h2
      rw [if_pos h2] at h
      injection h with e1 e2 e3 e4
      rw [← e4] at hn
      have e := upS_cut y hn (ho h2)
      rw [e]
      rw [take_app hn] at e2
      rw [e1, e2, e3, e4]
    · rename_i h2
      rw [if_neg h2] at h
      split
      · rename_i h3
        rw [if_pos h3] at h
        exact numS_cut y (by rw [cls_app hx]; exact h3) h hn hx
      · rename_i h3
        rw [if_neg h3] at h
        split
        · rename_i h4
          rw [if_pos h4] at h
          unfold opS at h ⊢
          have hr : runL 5 (x ++ y) ≤ x.length := by
            simp only at h
            split at h
            · injection h; omega
            · split at h
              · cases h
              · injection h; omega
          rw [← runL_cut 5 y x hr, take_app (runL_le 5 x)] at h
          exact h
        · rename_i h4
          rw [if_neg h4] at h
          split
          · rename_i h5
            rw [if_pos h5] at h
            rw [take_app hl] at h; exact h
          · rename_i h5
            rw [if_neg h5] at h
            rw [bAt_app hx] at h
            split
            · rename_i h6
              rw [if_pos h6] at h
              split
              · rename_i h7
                rw [if_pos h7] at h
                exact quot h
              · rename_i h7
                rw [if_neg h7] at h
                rw [take_app hl] at h
                split at h
                · cases h
                · rename_i h8
                  rw [if_neg]
                  · exact h
                  · intro h9
                    apply h8
                    rw [drop_app hl, inNm_cut]
                    · exact h9
                    · intro hz; rw [hz] at h9; cases h9
            · rename_i h6
              rw [if_neg h6] at h
              split
              · rename_i h7
                rw [if_pos h7] at h
                exact quot h
              · rename_i h7
                rw [if_neg h7] at h
                cases h

theorem cl5_nl : ∀ c : UInt8, clB c = 5 → c ≠ 10 := u8all (by decide +kernel)
theorem runL_nlL : ∀ r : BS, runL 5 r ≤ nlL r
  | [] => Nat.le_refl _
  | c :: r => by
    have := runL_nlL r
    simp only [runL, nlL]
    split
    · rename_i h
      rw [if_neg (cl5_nl c h)]
      omega
    · omega
theorem stepS_cut_skip (y : BS) {x : BS} (hx : x ≠ []) {k : Nat} (h : stepS (x ++ y) = .skip k) (hk : k ≤ x.length) : stepS x = .skip k := by
  unfold stepS at h ⊢
  rw [cls_app hx] at h
  split
  · rename_i h1; rw [if_pos h1] at h; exact h
  · rename_i h1
    rw [if_neg h1] at h
    split at h
    · rename_i h2
      split at h
      · cases h
      · rename_i k' hc
        injection h with h; subst h
        have h3 := comL_cut y 0 x k' hc hk
        have hp : pre [123, 45] x = true := by
          match x, h3 with
          | [], h3 => simp [comL] at h3
          | [a], h3 => simp [comL] at h3
          | a :: b :: x, _ => exact h2
        rw [if_pos hp, h3]
    · rename_i h2
      have hp : ¬ pre [123, 45] x = true := by
        intro hp
        apply h2
        match x, hp with
        | [], hp => simp [pre] at hp
        | [a], hp => simp [pre] at hp
        | a :: b :: x, hp => exact hp
      rw [if_neg hp]
      split at h
      · rename_i h3
        injection h with h; subst h
        have hd : runL 5 (x ++ y) ≤ nlL (x ++ y) := runL_nlL _
        rw [← runL_cut 5 y x (by omega), take_app (runL_le 5 x)] at h3
        rw [if_pos h3, nlL_cut y x hk]
      · exact absurd h (tokS_ns _ _)
theorem stepS_cut_tok (y : BS) {x : BS} (hx : x ≠ []) {k : Nat} {t : BS} {m : Int} {n : Nat} (h : stepS (x ++ y) = .tok k t m n) (hn : n ≤ x.length) (ho : cls x = 2 → upOk (x ++ y) x.length) : stepS x = .tok k t m n := by
  unfold stepS at h ⊢
  rw [cls_app hx] at h
  split
  · rename_i h1; rw [if_pos h1] at h; cases h
  · rename_i h1
    rw [if_neg h1] at h
    split at h
    · split at h <;> cases h
    · rename_i h2
      have hp : ¬ pre [123, 45] x = true := by
        intro hp
        apply h2
        match x, hp with
        | [], hp => simp [pre] at hp
        | [a], hp => simp [pre] at hp
        | a :: b :: x, hp => exact hp
      rw [if_neg hp]
      split at h
      · cases h
      · rename_i h3
        have ht := tokS_cut y hx h hn ho
        rw [if_neg]
        · exact ht
        · intro h4
          apply h3
          have hr : runL 5 (x ++ y) ≤ x.length := by
            by_cases h5 : cls x = 5
            · have h6 : tokS (x ++ y) = opS (x ++ y) := by
                unfold tokS
                rw [cls_app hx, h5]
                rfl
              rw [h6] at h
              unfold opS at h
              simp only at h
              split at h
              · injection h; omega
              · split at h
                · cases h
                · injection h; omega
            · match x, hx, h5 with
              | c :: x, _, h5 =>
                simp only [List.cons_append, runL]
                rw [if_neg (show ¬ clB c = 5 from h5)]
                omega
          rw [← runL_cut 5 y x hr, take_app (runL_le 5 x)]
          exact h4

theorem pt_step {r : BS} (h : cls r = 1) : ∃ kd t, stepS (46 :: r) = .tok kd t 0 1 := by
  have hr : runL 5 (46 :: r) = 1 := by
    simp only [runL]
    rw [if_pos (by decide)]
    cases r with
    | nil => rfl
    | cons c r => simp only [runL]; rw [if_neg (show ¬ clB c = 5 by have h' : clB c = 1 := h; omega)]
  have h5 : cls (46 :: r) = 5 := show clB 46 = 5 by decide
  unfold stepS
  rw [h5, if_neg (by decide)]
  have hp : ¬ pre [123, 45] (46 :: r) = true := by cases r <;> simp [pre]
  rw [if_neg hp, hr]
  have hd : ¬ dsh (List.take 1 (46 :: r)) = true := show ¬ dsh [46] = true by decide
  rw [if_neg hd]
  unfold tokS
  rw [h5, if_neg (by decide), if_neg (by decide), if_neg (by decide), if_pos rfl]
  unfold opS
  simp only [hr]
  by_cases hs : isSg (List.take 1 (46 :: r)) = true
  · rw [if_pos hs]; exact ⟨_, _, rfl⟩
  · rw [if_neg hs, if_neg (by intro hc; exact absurd hc.1 (show ¬ bAt [46] = 58 by decide))]; exact ⟨_, _, rfl⟩
theorem nm_step {r : BS} (h : cls r = 1) : ∃ kd t, stepS r = .tok kd t 0 (nameL r) := by
  cases r with
  | nil => cases h
  | cons c r =>
  have hc : clB c = 1 := h
  have hr : runL 5 (c :: r) = 0 := by simp only [runL]; rw [if_neg (by omega)]
  unfold stepS
  rw [h, if_neg (by decide)]
  have hp : ¬ pre [123, 45] (c :: r) = true := by
    intro hp
    have : c = 123 := by
      cases r with
      | nil => simp [pre] at hp
      | cons d r => simp [pre] at hp; exact hp.1
    subst this
    exact absurd hc (by decide)
  rw [if_neg hp, hr]
  rw [if_neg (by simp [dsh])]
  unfold tokS
  rw [h, if_pos rfl]
  exact ⟨_, _, rfl⟩
theorem lex_le {r : BS} {i n e p : Nat} (h : lexS r i n = .bad e p) : i ≤ p := (lex_bad _ r rfl i n e p h).2.1
theorem up_ok {r : BS} {i n e p : Nat} (h2 : cls r = 2) {kd : Nat} {t : BS} {m : Int} {k : Nat} (hs : stepS r = .tok kd t m k) (h : lexS (r.drop k) (i + k) n = .bad e p) : upOk r (p - i) := by
  have ht : tokS r = .tok kd t m k := by
    unfold stepS at hs
    rw [h2, if_neg (by decide)] at hs
    split at hs
    · split at hs <;> cases hs
    · split at hs
      · cases hs
      · exact hs
  have hk : k = (upS r).2 := by
    unfold tokS at ht
    rw [h2, if_neg (by decide), if_pos rfl] at ht
    injection ht with _ _ _ h4
    exact h4.symm
  have hp := lex_le h
  unfold upOk
  intro c3 c2 c4
  by_cases c5 : resv ((r.drop (nameL r + 1)).take (nameL (r.drop (nameL r + 1)))) = true
  · have hk : k = nameL r := by
      rw [hk]
      unfold upS
      simp only
      rw [if_neg (by simp [c2]; omega), if_pos c4, if_pos c5]
    subst hk
    have hd : r.drop (nameL r) = 46 :: r.drop (nameL r + 1) := by
      rw [List.drop_eq_getElem_cons (by omega)] at c2 ⊢
      have c2' : r[nameL r] = 46 := c2
      rw [c2']
    rw [hd] at h
    rw [lexS_cons (by simp)] at h
    obtain ⟨kd1, t1, s1⟩ := pt_step c4
    rw [s1] at h
    simp only at h
    split at h
    · injection h; omega
    · cases hx : lexS (List.drop 1 (46 :: r.drop (nameL r + 1))) (i + nameL r + 1) (n + 1) with
      | ok l => rw [hx] at h; cases h
      | bad e' p' =>
        rw [hx] at h
        injection h with g1 g2
        subst g1 g2
        have hne : r.drop (nameL r + 1) ≠ [] := by intro hz; rw [hz] at c4; cases c4
        rw [List.drop_succ_cons, List.drop_zero, lexS_cons hne] at hx
        obtain ⟨kd2, t2, s2⟩ := nm_step c4
        rw [s2] at hx
        simp only at hx
        split at hx
        · injection hx; omega
        · cases hy : lexS ((r.drop (nameL r + 1)).drop (nameL (r.drop (nameL r + 1)))) (i + nameL r + 1 + nameL (r.drop (nameL r + 1))) (n + 1 + 1) with
          | ok l => rw [hy] at hx; cases hx
          | bad e2 p2 =>
            rw [hy] at hx
            injection hx with g1 g2
            have := lex_le hy
            omega
  · have hk : k = nameL r + 1 + nameL (r.drop (nameL r + 1)) := by
      rw [hk]
      unfold upS
      simp only
      rw [if_neg (by simp [c2]; omega), if_pos c4, if_neg c5]
    omega

theorem lex_cut : ∀ (k : Nat) (r : BS), r.length = k → ∀ (i n e p : Nat), lexS r i n = .bad e p → ∃ l, lexS (r.take (p - i)) i n = .ok l := by
  intro k
  induction k using Nat.strongRecOn with
  | ind k ih =>
    intro r hr i n e p h
    subst hr
    by_cases h0 : r = []
    · subst h0; rw [lexS_nil] at h; cases h
    · obtain ⟨s1, s2⟩ := stepS_len h0
      have hl : 1 ≤ r.length := by cases r with | nil => exact absurd rfl h0 | cons a b => simp
      obtain ⟨b1, b2, b3⟩ := lex_bad _ r rfl i n e p h
      have zero : p = i → ∃ l, lexS (r.take (p - i)) i n = .ok l := fun hpi => ⟨[], by rw [hpi, Nat.sub_self, List.take_zero, lexS_nil]⟩
      have hr' : r = r.take (p - i) ++ r.drop (p - i) := (List.take_append_drop _ _).symm
      have hlen : (r.take (p - i)).length = p - i := by rw [List.length_take]; omega
      have h' := h
      rw [lexS_cons h0] at h'
      cases hs : stepS r with
      | bad e =>
        rw [hs] at h'
        injection h' with h1 h2
        exact zero h2.symm
      | skip k =>
        rw [hs] at h'
        obtain ⟨k1, k2⟩ := s1 k hs
        have hp := lex_le h'
        have hne : r.take (p - i) ≠ [] := by intro hz; rw [hz] at hlen; simp only [List.length_nil] at hlen; omega
        rw [hr'] at hs
        have hs' := stepS_cut_skip _ hne hs (by omega)
        obtain ⟨l, hl⟩ := ih (r.drop k).length (by rw [List.length_drop]; omega) (r.drop k) rfl _ _ _ _ h'
        refine ⟨l, ?_⟩
        rw [lexS_cons hne, hs']
        simp only
        rw [List.drop_take, show p - i - k = p - (i + k) from by omega]
        exact hl
      | tok kd tx nm k =>
        rw [hs] at h'
        obtain ⟨k1, k2⟩ := s2 kd tx nm k hs
        simp only at h'
        split at h'
        · injection h' with h1 h2
          exact zero h2.symm
        · rename_i hn
          cases hx : lexS (r.drop k) (i + k) (n + 1) with
          | ok l' => rw [hx] at h'; cases h'
          | bad e' p' =>
            rw [hx] at h'
            injection h' with h1 h2
            subst h1 h2
            have hp := lex_le hx
            have hne : r.take (p' - i) ≠ [] := by intro hz; rw [hz] at hlen; simp only [List.length_nil] at hlen; omega
            have ho : cls (r.take (p' - i)) = 2 → upOk (r.take (p' - i) ++ r.drop (p' - i)) (r.take (p' - i)).length := by
              intro hc
              rw [← hr', hlen]
              refine up_ok ?_ hs hx
              rw [hr', cls_app hne]
              exact hc
            have hs2 := hs
            rw [hr'] at hs2
            have hs' := stepS_cut_tok _ hne hs2 (by omega) ho
            obtain ⟨l, hl⟩ := ih (r.drop k).length (by rw [List.length_drop]; omega) (r.drop k) rfl _ _ _ _ hx
            refine ⟨⟨kd, tx, nm, i⟩ :: l, ?_⟩
            rw [lexS_cons hne, hs']
            simp only
            rw [if_neg hn, List.drop_take, show p' - i - k = p' - (i + k) from by omega, hl]
            rfl
end Go.Vm
end

section
namespace Go.Vm
open Go.Shelf Go.Proofs
set_option maxRecDepth 20000
/- 'sloth/slothlaw01.LexAhead' -/
def f8_L0 : C :=
 (.seq
  (.seq
   (.reg [⟨[], [(77, (.bin .lss (.sl 11) (.len false (.sl 4))))], [], none, [0, 4, 10, 11], 4, [], [], []⟩])
   (.cond (.sl 77)
    .skip
    (.seq
     (.tidy 0 [])
     (.exit 0))))
  (.seq
   (.block 1
    (.seq
     (.reg [⟨[(12, .box (.agg (.cons (.int .i64 0) (.cons (.str []) (.cons (.int .i64 0) (.cons (.int .i64 0) .nil))))))], [], [], some (none, .store 4 (.sl 12) (.ld 4 true (.ia 4 (.sl 4) (.sl 11)))), [0, 4, 10, 11, 12], 6, [], [], []⟩])
     (.seq
      (.seq
       (.reg [⟨[], [(94, (.or (.bin .leq (.ld 1 false (.fa 3 (.sl 12))) (.sl 10)) (.bin .geq (.ld 1 false (.fa 3 (.sl 12))) (.len true (.sl 0)))))], [], none, [0, 4, 11, 12], 11, [], [], []⟩])
       (.cond (.sl 94)
        (.seq
         (.reg [⟨[], [(2, (.bool false))], [], none, [], 1, [], [], []⟩])
         (.seq
          (.tidy 0 [2])
          .ret))
        .skip))
      (.seq
       (.reg [⟨[], [(10, (.ld 1 false (.fa 3 (.sl 12))))], [], none, [0, 4, 11, 12], 3, [], [], []⟩])
       (.seq
        (.reg [⟨[], [(13, (.or (.or (.bin .eql (.ld 1 false (.fa 0 (.sl 12))) (.int .i64 8)) (.bin .eql (.ld 1 false (.fa 0 (.sl 12))) (.int .i64 7))) (.bin .eql (.ld 1 false (.fa 0 (.sl 12))) (.int .i64 6))))], [], none, [0, 4, 10, 11, 12], 14, [], [], []⟩])
        (.seq
         (.reg [⟨[], [(142, (.and (.un .not (.sl 13)) (.or (.or (.bin .eql (.ld 1 false (.fa 1 (.sl 12))) (.str [])) (.bin .gtr (.bin .add (.ld 1 false (.fa 3 (.sl 12))) (.len true (.ld 1 false (.fa 1 (.sl 12))))) (.len true (.sl 0)))) (.bin .neq (.cut true true true false 0 (.sl 0) (.ld 1 false (.fa 3 (.sl 12))) (.bin .add (.ld 1 false (.fa 3 (.sl 12))) (.len true (.ld 1 false (.fa 1 (.sl 12))))) .nil) (.ld 1 false (.fa 1 (.sl 12)))))))], [], none, [0, 4, 10, 11], 33, [[], [0], [0, 1], [1, 0, 2], [2, 0, 1, 3], [3, 1, 0, 2, 4], [4, 2, 0, 1, 3, 5], [5, 3, 1, 0, 2, 4, 6], [6, 4, 2, 0, 1, 3, 5, 7], [5, 3, 1, 0, 2, 4, 6], [6, 4, 2, 0, 1, 3, 5, 9], [9, 5, 3, 1, 0, 2, 4, 6, 10], [10, 9, 11, 7, 5, 3, 1, 0, 2, 4, 6, 8], [5, 3, 1, 0, 2, 4, 6], [6, 4, 2, 0, 1, 3, 5, 13], [13, 14, 8, 6, 4, 2, 0, 1, 3, 5, 7, 11, 9, 10, 12], [12, 10, 9, 11, 7, 8, 14, 13, 15, 5, 3, 1, 0, 2, 4, 6], [6, 4, 2, 0, 1, 3, 5, 15, 13, 14, 8, 7, 11, 9, 10, 12, 16], [16, 12, 10, 9, 11, 7, 8, 14, 13, 15, 5, 3, 1, 0, 2, 4, 6, 17], [16, 12, 10, 9, 11, 7, 8, 14, 13, 15, 5, 3, 1, 0, 2, 4, 6, 17], [17, 6, 4, 2, 0, 1, 3, 5, 15, 13, 14, 8, 7, 11, 9, 10, 12, 16, 19], [16, 12, 10, 9, 11, 7, 8, 14, 13, 15, 5, 3, 1, 0, 2, 4, 6, 17], [17, 6, 4, 2, 0, 1, 3, 5, 15, 13, 14, 8, 7, 11, 9, 10, 12, 16, 21], [16, 12, 10, 9, 11, 7, 8, 14, 13, 15, 5, 3, 1, 0, 2, 4, 6, 17], [17, 6, 4, 2, 0, 1, 3, 5, 15, 13, 14, 8, 7, 11, 9, 10, 12, 16, 23], [23, 16, 12, 10, 9, 11, 7, 8, 14, 13, 15, 5, 3, 1, 0, 2, 4, 6, 17, 24], [24, 23, 25, 21, 16, 12, 10, 9, 11, 7, 8, 14, 13, 15, 5, 3, 1, 0, 2, 4, 6, 17, 22], [22, 21, 25, 23, 24, 26, 19, 20, 17, 6, 4, 2, 0, 1, 3, 5, 15, 13, 14, 8, 7, 11, 9, 10, 12, 16, 18], [16, 12, 10, 9, 11, 7, 8, 14, 13, 15, 5, 3, 1, 0, 2, 4, 6, 17], [17, 6, 4, 2, 0, 1, 3, 5, 15, 13, 14, 8, 7, 11, 9, 10, 12, 16, 28], [28, 29, 18, 16, 12, 10, 9, 11, 7, 8, 14, 13, 15, 5, 3, 1, 0, 2, 4, 6, 17, 20, 19, 26, 24, 23, 25, 21, 22, 27], [27, 22, 21, 25, 23, 24, 26, 19, 20, 18, 29, 28, 30, 16, 12, 10, 9, 11, 7, 8, 14, 13, 15, 5, 3, 1, 0, 2, 4, 6, 17], [17, 6, 4, 3, 5, 15, 13, 14, 8, 7, 11, 9, 10, 12, 16, 30, 28, 29, 18, 20, 19, 26, 24, 23, 25, 21, 22, 27, 31, 1, 0, 2]], [], []⟩])
         (.cond (.sl 142)
          (.seq
           (.reg [⟨[], [(2, (.bool false))], [], none, [], 1, [], [], []⟩])
           (.seq
            (.tidy 0 [2])
            .ret))
          .skip)))))))
   (.reg [⟨[], [(11, (.bin .add (.sl 11) (.int .i64 1)))], [], none, [0, 4, 10], 3, [], [], []⟩])))
def f8 : Fun := ⟨
 (.seq
  (.reg [⟨[], [], [(.bool false)], none, [0], 1, [], [], []⟩])
  (.seq
   (.reg [⟨[], [(3, (.call 9 .nil))], [], none, [0], 2, [], [], []⟩])
   (.seq
    (.reg [⟨[], [(4, (.ext 0 (.call 13 (.cons (.sl 0) .nil)))), (5, (.ext 1 (.call 13 (.cons (.sl 0) .nil))))], [], none, [0, 3], 7, [], [], []⟩])
    (.seq
     (.reg [⟨[(6, .box (.agg (.cons (.int .i64 0) (.cons (.int .i64 0) (.cons (.int .i64 0) (.cons (.str []) .nil))))))], [(24, (.ext 1 (.call 17 (.cons (.sl 5) .nil))))], [], some (none, .store 4 (.sl 6) (.ext 0 (.call 17 (.cons (.sl 5) .nil)))), [0, 3, 4, 5, 6], 7, [], [], []⟩, ⟨[], [(7, (.sl 24))], [], none, [0, 3, 4, 5, 6], 1, [], [], []⟩])
     (.seq
      (.seq
       (.reg [⟨[], [(30, (.or (.un .not (.sl 3)) (.un .not (.sl 7))))], [], none, [0, 4, 5, 6], 6, [], [], []⟩])
       (.cond (.sl 30)
        (.seq
         (.reg [⟨[], [(2, (.bool false))], [], none, [], 1, [], [], []⟩])
         (.seq
          (.tidy 0 [2])
          .ret))
        .skip))
      (.seq
       (.seq
        (.reg [⟨[], [(32, (.eqs true false [5] (.sl 5) .nilif))], [], none, [0, 4, 6], 2, [], [], []⟩])
        (.cond (.sl 32)
         (.seq
          (.seq
           (.reg [⟨[], [(35, (.bin .eql (.ld 1 false (.fa 0 (.sl 6))) (.int .i64 2)))], [], none, [0, 6], 3, [], [], []⟩])
           (.cond (.sl 35)
            (.seq
             (.reg [⟨[], [(2, (.and (.bin .gtr (.len true (.sl 0)) (.int .i64 65536)) (.bin .eql (.ld 1 false (.fa 2 (.sl 6))) (.int .i64 (-1)))))], [], none, [], 9, [], [], []⟩])
             (.seq
              (.tidy 0 [2])
              .ret))
            .skip))
          (.seq
           (.seq
            (.reg [⟨[], [(53, (.or (.bin .lss (.ld 1 false (.fa 2 (.sl 6))) (.int .i64 0)) (.bin .geq (.ld 1 false (.fa 2 (.sl 6))) (.len true (.sl 0)))))], [], none, [0, 6], 10, [], [], []⟩])
            (.cond (.sl 53)
             (.seq
              (.reg [⟨[], [(2, (.bool false))], [], none, [], 1, [], [], []⟩])
              (.seq
               (.tidy 0 [2])
               .ret))
             .skip))
           (.seq
            (.reg [⟨[], [(9, (.ext 1 (.call 13 (.cons (.cut true false true false 0 (.sl 0) .nil (.ld 1 false (.fa 2 (.sl 6))) .nil) .nil))))], [(.ext 0 (.call 13 (.cons (.cut true false true false 0 (.sl 0) .nil (.ld 1 false (.fa 2 (.sl 6))) .nil) .nil)))], none, [6], 10, [], [], []⟩])
            (.seq
             (.reg [⟨[], [(2, (.and (.and (.eqs false false [5] (.sl 9) .nilif) (.bin .eql (.ld 1 false (.fa 1 (.sl 6))) (.int .i64 0))) (.bin .eql (.ld 1 false (.fa 3 (.sl 6))) (.str []))))], [], none, [], 13, [], [], []⟩])
             (.seq
              (.tidy 0 [2])
              .ret)))))
         .skip))
       (.seq
        (.reg [⟨[], [(10, (.int .i64 (-1)))], [], none, [0, 4], 1, [], [], []⟩])
        (.seq
         (.seq
          (.reg [⟨[], [(11, (.int .i64 0))], [], none, [0, 4, 10], 1, [], [], []⟩])
          (.block 0
           (.seq (.tidy 0 [0, 4, 10, 11]) (.loop (.seq (.tidy 0 [0, 4, 10, 11]) f8_L0)))))
         (.seq
          (.reg [⟨[], [(2, (.bool true))], [], none, [], 1, [], [], []⟩])
          (.seq
           (.tidy 0 [2])
           .ret)))))))))),
 [(.sl 2)], false⟩
theorem f8_ok : funOk Go.Proofs.Tryd.prog 8 0 1 f8 = true := by kernel_rfl


def okTok (s : BS) (t : Tok) : Prop := ∃ d : Nat, t.at_ = (d : Int) ∧ d < s.length ∧ (t.kind = 8 ∨ t.kind = 7 ∨ t.kind = 6 ∨ (t.text ≠ [] ∧ d + t.text.length ≤ s.length ∧ (s.drop d).take t.text.length = t.text))
def okFrom (s : BS) : Int → List Tok → Prop
  | _, [] => True
  | last, t :: l => last < t.at_ ∧ okTok s t ∧ okFrom s t.at_ l

theorem upS_len (r : BS) : (upS r).2 ≤ r.length := by
  unfold upS
  have a := nameL_le r
  have b := nameL_le (r.drop (nameL r + 1))
  rw [List.length_drop] at b
  simp only
  split
  · exact a
  · split
    · split
      · exact a
      · simp only; omega
    · split
      · simp only; omega
      · exact a
theorem tokS_text {r : BS} {kd : Nat} {t : BS} {m : Int} {k : Nat} (h : tokS r = .tok kd t m k) : kd = 8 ∨ kd = 7 ∨ kd = 6 ∨ t = r.take k := by
  have q : quotS r = .tok kd t m k → kd = 8 ∨ kd = 7 ∨ kd = 6 ∨ t = r.take k := by
    intro h
    unfold quotS at h
    split at h
    · cases h
    · split at h
      · injection h with h1; exact .inl h1.symm
      · split at h
        · injection h with h1; exact .inr (.inl h1.symm)
        · cases h
  unfold tokS at h
  split at h
  · injection h with h1 h2 h3 h4
    subst h4; exact .inr (.inr (.inr h2.symm))
  · split at h
    · injection h with h1 h2 h3 h4
      subst h4; exact .inr (.inr (.inr h2.symm))
    · split at h
      · unfold numS at h
        have := (ite_tok_n h).2.1
        exact .inr (.inr (.inl this.symm))
      · split at h
        · unfold opS at h
          simp only at h
          split at h
          · injection h with h1 h2 h3 h4
            subst h4; exact .inr (.inr (.inr h2.symm))
          · split at h
            · cases h
            · injection h with h1 h2 h3 h4
              subst h4; exact .inr (.inr (.inr h2.symm))
        · split at h
          · injection h with h1 h2 h3 h4
            subst h4; exact .inr (.inr (.inr h2.symm))
          · split at h
            · split at h
              · exact q h
              · split at h
                · cases h
                · injection h with h1 h2 h3 h4
                  subst h4; exact .inr (.inr (.inr h2.symm))
            · split at h
              · exact q h
              · cases h
theorem stepS_text {r : BS} {kd : Nat} {t : BS} {m : Int} {k : Nat} (h : stepS r = .tok kd t m k) : kd = 8 ∨ kd = 7 ∨ kd = 6 ∨ t = r.take k := by
  unfold stepS at h
  split at h
  · cases h
  · split at h
    · split at h <;> cases h
    · split at h
      · cases h
      · exact tokS_text h
theorem lex_stand (s : BS) : ∀ (k : Nat) (r : BS), r.length = k → ∀ (i n : Nat) l, s.drop i = r → lexS r i n = .ok l → ∀ last : Int, last < i → okFrom s last l := by
  intro k
  induction k using Nat.strongRecOn with
  | ind k ih =>
    intro r hr i n l hd h last hlast
    subst hr
    by_cases h0 : r = []
    · subst h0; rw [lexS_nil] at h; injection h with h; subst h; trivial
    · obtain ⟨s1, s2⟩ := stepS_len h0
      have hl : 1 ≤ r.length := by cases r with | nil => exact absurd rfl h0 | cons a b => simp
      have hsl := congrArg List.length hd
      rw [List.length_drop] at hsl
      rw [lexS_cons h0] at h
      cases hs : stepS r with
      | bad e => rw [hs] at h; cases h
      | skip k =>
        rw [hs] at h
        obtain ⟨k1, k2⟩ := s1 k hs
        exact ih (r.drop k).length (by rw [List.length_drop]; omega) (r.drop k) rfl _ _ l (by rw [← hd, List.drop_drop]) h last (by omega)
      | tok kd tx nm k =>
        rw [hs] at h
        obtain ⟨k1, k2⟩ := s2 kd tx nm k hs
        simp only at h
        split at h
        · cases h
        · cases hx : lexS (r.drop k) (i + k) (n + 1) with
          | bad e p => rw [hx] at h; cases h
          | ok l' =>
            rw [hx] at h
            injection h with h
            subst h
            refine ⟨hlast, ⟨i, rfl, by omega, ?_⟩, ih (r.drop k).length (by rw [List.length_drop]; omega) (r.drop k) rfl _ _ l' (by rw [← hd, List.drop_drop]) hx _ (by simp only; omega)⟩
            rcases stepS_text hs with g | g | g | g
            · exact .inl (by simp only [g]; rfl)
            · exact .inr (.inl (by simp only [g]; rfl))
            · exact .inr (.inr (.inl (by simp only [g]; rfl)))
            · subst g
              have hk : (r.take k).length = k := by rw [List.length_take]; omega
              refine .inr (.inr (.inr ⟨?_, ?_, ?_⟩))
              · intro hz; simp only at hz; rw [hz] at hk; simp only [List.length_nil] at hk; omega
              · simp only [hk]; omega
              · simp only [hk, hd]

theorem ah_loop (K : Cx) (s : BS) (l : List Tok) (hs : s.length ≤ 65536) (hl : l.length ≤ 65536) : ∀ (r : List Tok) (k : Nat) (last : Int), l.drop k = r → k ≤ l.length → okFrom s last r → -1 ≤ last → last < 65536 →
    lp K 0 [0, 4, 10, 11] f8_L0 ⟨[(0, vS s), (4, .d true (.sl 4 (l.map eTok))), (10, vI last), (11, vI k)], [], 0, []⟩ = some (.exit 0, ⟨[], [], 0, []⟩) := by
  intro r
  induction r with
  | nil =>
    intro k last hd hk ho h1 h2
    have hx := congrArg List.length hd
    rw [List.length_drop, List.length_nil] at hx
    rw [lp_un f8_L0.eq_1]
    simp (disch := first | decide | omega | (simp only [LN]; omega) | (simp only [LN]; done) | fail) only [SV, Nat.reduceBEq, beq_self_eq_true, evLen, evBin, intBin, decide_false, if_true, decide_true, Bool.and_self]
  | cons t r ih =>
    intro k last hd hk ho h1 h2
    obtain ⟨n1, n2, n3, n4⟩ := nthT hd
    obtain ⟨o1, ⟨d, o2, o3, o4⟩, o5⟩ := ho
    obtain ⟨tk, tt, tn, ta⟩ := t
    simp only at o1 o2 o4 o5
    subst o2
    have ih := ih (k + 1) d n3 (by omega) o5 (by omega) (by omega)
    rw [← ih]
    clear ih o5 n3 n4 hd
    rw [lp_un f8_L0.eq_1]
    by_cases q1 : tk = 8
    · subst q1
      clear o4
      simp (disch := first | decide | omega | (simp only [LN]; omega) | (simp only [LN]; done) | fail) only [SV, Nat.reduceBEq, beq_self_eq_true, evLen, evBin, intBin, decide_true, if_true, V.laid, V.cells, Nat.zero_add, Nat.reduceAdd, eTok, n2, D.flat, Nat.le_refl, Bool.and_self, lose, evFa, List.getElem?_cons_zero, decide_false, Bool.or_self, Nat.add_zero, Bool.or_false, evUn, Bool.not_true, strBin, e_cut, o4_some, cast1, V.refs]
    · have e1 : (tk == 8) = false := by simpa using q1
      by_cases q2 : tk = 7
      · subst q2
        clear o4 q1 e1
        simp (disch := first | decide | omega | (simp only [LN]; omega) | (simp only [LN]; done) | fail) only [SV, Nat.reduceBEq, beq_self_eq_true, evLen, evBin, intBin, decide_true, if_true, V.laid, V.cells, Nat.zero_add, Nat.reduceAdd, eTok, n2, D.flat, Nat.le_refl, Bool.and_self, lose, evFa, List.getElem?_cons_zero, decide_false, Bool.or_self, Nat.add_zero, Bool.or_true, Bool.or_false, evUn, Bool.not_true, strBin, e_cut, o4_some, cast1, V.refs]
      · have e2 : (tk == 7) = false := by simpa using q2
        by_cases q3 : tk = 6
        · subst q3
          clear o4 q1 q2 e1 e2
          simp (disch := first | decide | omega | (simp only [LN]; omega) | (simp only [LN]; done) | fail) only [SV, Nat.reduceBEq, beq_self_eq_true, evLen, evBin, intBin, decide_true, if_true, V.laid, V.cells, Nat.zero_add, Nat.reduceAdd, eTok, n2, D.flat, Nat.le_refl, Bool.and_self, lose, evFa, List.getElem?_cons_zero, decide_false, Bool.or_self, Nat.add_zero, Bool.or_true, evUn, Bool.not_true, strBin, e_cut, o4_some, cast1, V.refs]
        · have e3 : (tk == 6) = false := by simpa using q3
          obtain ⟨t1, t2, t3⟩ : tt ≠ [] ∧ d + tt.length ≤ s.length ∧ (s.drop d).take tt.length = tt := by
            rcases o4 with h | h | h | h
            · exact absurd h q1
            · exact absurd h q2
            · exact absurd h q3
            · exact h
          have hcut : ∀ H, evCutS H true true true false 0 (.d false (.str s)) (.d false (.int .i64 (d : Int))) (.d false (.int .i64 ((d : Int) + (tt.length : Int)))) (.tup []) = some (.d false (.str tt)) := by
            intro H
            have h := cut_slh H s d (d + tt.length) (by omega) t2
            rw [Nat.add_sub_cancel_left, t3, Int.natCast_add] at h
            exact h
          have z0 : decide (tt = []) = false := decide_eq_false t1
          have z1 : (tt = tt) = True := eq_self tt
          clear o4 q1 q2 q3 t1 t3
          simp (disch := first | decide | omega | (simp only [LN]; omega) | (simp only [LN]; done) | fail) only [SV, Nat.reduceBEq, beq_self_eq_true, evLen, evBin, intBin, decide_true, if_true, V.laid, V.cells, Nat.zero_add, Nat.reduceAdd, eTok, n2, D.flat, Nat.le_refl, Bool.and_self, lose, evFa, List.getElem?_cons_zero, decide_false, Bool.or_self, Nat.add_zero, e1, e2, e3, evUn, Bool.not_false, strBin, z0, e_cut, o4_some, hcut, Bool.not_true, Bool.and_false, cast1, V.refs]

set_option maxHeartbeats 2000000 in
theorem ev_LexAhead (K : Cx) (h9 : K9 K) (h13 : K13 K) (h17 : K17 K) (s : BS) (hs : s.length ≤ 1100000) : runFun K f8 [vS s] [] = some (.d false (.bool true), [], []) := by
  have e9 : K.call 9 [] = some (.d false (.bool true), []) := h9
  have s13 := h13 s (by omega)
  by_cases gb : 65536 < s.length
  · unfold lexV at s13
    rw [if_pos gb] at s13
    unfold errD at s13
    have k17 := h17.2 2 (-1)
    clear h9 h13 h17
    simp (disch := first | decide | omega | (simp only [LN]; omega) | (simp only [LN]; done) | fail) only [SV, f8, Int.reduceNeg, Nat.zero_add, Bool.and_self, beq_self_eq_true, Bool.not_true, Bool.and_false, Bool.false_and, e9, V.new, V.new1, D.flat, Bool.or_true, Bool.false_eq_true, if_false, Nat.reduceBEq, V.own, V.own1, Bool.or_self, V.flatV, V.flat1, view, viewD, s13, Bool.or_false, Bool.and_true, Bool.not_false, evExt, List.getElem?_cons_zero, List.getElem?_cons_succ, V.laid, V.cells, Nat.reduceAdd, if_true, k17, Nat.le_refl, lose, evUn, e_nilif, evEqs, cellsEq, cellEq, V.isNilI, evFa, Nat.add_zero, evBin, intBin, evLen, decide_true, V.refs, oneOr, finV, finA, finC]
  · cases hl : lexS s 0 0 with
    | bad e p =>
      obtain ⟨q0, q1, q2⟩ := lex_bad _ s rfl 0 0 e p hl
      obtain ⟨l', hl'⟩ := lex_cut _ s rfl 0 0 e p hl
      have p13 := h13 (s.take p) (by rw [List.length_take]; omega)
      rw [Nat.sub_zero] at hl'
      rw [lexV_ok (by rw [List.length_take]; omega) hl'] at p13
      rw [lexV_er (by omega) hl] at s13
      unfold errD at s13
      have k17 := h17.2 e p
      have e2 : ((e : Int) == 2) = false := by simp; omega
      have hcut := fun H => cut_sh H s (.tup []) (.tup []) p (by omega)
      clear h9 h13 h17 hl hl'
      simp (disch := first | decide | omega | (simp only [LN]; omega) | (simp only [LN]; done) | fail) only [SV, f8, Int.reduceNeg, Nat.zero_add, Bool.and_self, beq_self_eq_true, Bool.not_true, Bool.and_false, Bool.false_and, e9, V.new, V.new1, D.flat, Bool.or_true, Bool.false_eq_true, if_false, Nat.reduceBEq, V.own, V.own1, Bool.or_self, V.flatV, V.flat1, view, viewD, s13, Bool.or_false, Bool.and_true, Bool.not_false, evExt, List.getElem?_cons_zero, List.getElem?_cons_succ, V.laid, V.cells, Nat.reduceAdd, if_true, k17, Nat.le_refl, lose, evUn, e_nilif, evEqs, cellsEq, cellEq, V.isNilI, evFa, Nat.add_zero, evBin, intBin, e2, decide_false, evLen, e_cut, o4_some, hcut, p13, strBin, decide_true, V.refs, oneOr, finV, finA, finC]
    | ok l =>
      have hc := lex_count _ s rfl 0 0 l hl
      have ho := lex_stand s _ s rfl 0 0 l rfl hl (-1) (by omega)
      have w := ah_loop K s l (by omega) (by omega) l 0 (-1) rfl (by omega) ho (by omega) (by omega)
      rw [Int.natCast_zero] at w
      rw [lexV_ok (by omega) hl] at s13
      have k17 := h17.1
      clear h9 h13 h17 hl ho
      simp (disch := first | decide | omega | (simp only [LN]; omega) | (simp only [LN]; done) | fail) only [SV, f8, Int.reduceNeg, Nat.zero_add, Bool.and_self, beq_self_eq_true, Bool.not_true, Bool.and_false, Bool.false_and, e9, V.new, V.new1, D.flat, Bool.or_true, Bool.false_eq_true, if_false, Nat.reduceBEq, V.own, V.own1, Bool.or_self, V.flatV, V.flat1, view, viewD, s13, Bool.or_false, evExt, List.getElem?_cons_zero, List.getElem?_cons_succ, V.laid, V.cells, Nat.reduceAdd, if_true, k17, Nat.le_refl, lose, evUn, e_nilif, evEqs, cellsEq, cellEq, V.isNilI, V.refs, decide_true, w, oneOr, finV, finA, finC]

theorem law_ahead (s : BS) (hs : s.length ≤ 1100000) : PureCall Tryd.prog GT 8 [vS s] (.d false (.bool true)) [] := by
  have k9 := k9_of (E := EE) (show Has N33 z9 by repeat (first | exact has_head _ _ | refine has_tail ?_ (by decide)))
  have k13 := k13_of (E := EE) (show Has N33 z13 by repeat (first | exact has_head _ _ | refine has_tail ?_ (by decide)))
  have k17 := k17_of (E := EE) (show Has N33 z17 by repeat (first | exact has_head _ _ | refine has_tail ?_ (by decide)))
  exact (pure_sound (args := [vS s]) mixedD zn33.sound f8_ok (ev_LexAhead _ k9 k13 k17 s hs)).2
end Go.Vm
end

section
namespace Go.Proofs.YtmmbgofnllcaeaaDoor.lexAhead
open Go.ChangeShapes Go.WideShapes Go.ChangeAt Go.RowKit Go.Vm Go.ChangeMaps
set_option linter.unusedVariables false

theorem post_below {H : Type} {enc : TypeId × Value → H} {P : Program} {f : Func} {s : ChangeSpec} {apart fresh handsOn again : Bool} {W W' : World} {args : Array Value} {v : Value} {ds gs : List (DataW H)} {before : List MemPlace}
    (hW : DataW.Whole enc P f.params.toList s.vars apart W args.toList ds gs before) (hb : Below W.heap.size W W')
    (hres : ∀ (b : Nat) (sp : Nat → Bool) (hd : Bool), DataW.TrodAll enc P W' b sp hd f.resultTypes.toList (v.resultList f.resultTypes.size) (s.fn H (ds ++ gs)).results [])
    (hargs : ∀ sp : Nat → Bool, (∀ p ∈ before, sp p.block = true) → DataW.TrodAll enc P W' 0 sp true f.params.toList args.toList (s.fn H (ds ++ gs)).args before)
    (hvars : ∀ sp : Nat → Bool, DataW.TrodVars enc P W' sp s.vars (s.fn H (ds ++ gs)).vars [])
    (hok : ∀ (j : Nat) (t : TypeId) (r : Value), f.resultTypes[j]? = some t → (v.resultList f.resultTypes.size)[j]? = some r → Value.okWide P W' .any 0 t r) :
    s.post enc P f apart fresh handsOn again W args v W' := by
  have hlt := hW.lt
  have hsp : ∀ p ∈ before, (fun b => decide (b < W.heap.size)) p.block = true := fun p hp => decide_eq_true (hlt p hp)
  have all := trodAll_append (hargs (fun _ => true) (fun _ _ => rfl)) (hres 0 (fun _ => true) true)
  rw [List.nil_append] at all
  obtain ⟨_, _, _, _, _, hz, hn⟩ := id hW
  refine ⟨ds, gs, before, [], before, [], hW, hres _ _ _, hargs _ hsp, hvars _, hb.frame _, fun _ => ⟨hok, _, _, before, ⟨before, [], all, hvars _, by simp, fun b off hp => ?_, hn⟩, fun p hp _ => hp⟩⟩
  rw [hb.frozen (hlt _ hp)]
  exact hz b off hp

theorem bulkN {H : Type} {a : DataW H} (h : Rows.uptoSmall H ([a] ++ []) = true) : Rows.uptoBulk a ≤ 1048576 := by
  have h := of_decide_eq_true h
  simpa only [List.append_nil, Rows.uptoBulkAll, Nat.add_zero] using h
theorem bulk_str {H : Type} (l : List UInt8) : Rows.uptoBulk (DataW.lit (H := H) (.string l)) = l.length + 1 := by simp only [Rows.uptoBulk]

set_option maxRecDepth 100000 in
theorem contract (H : Type) (enc : TypeId × Value → H) (W : World) (base : Nat) (args : Array Value) (ds gs : List (DataW H)) (before : List MemPlace)
    (hval : ∀ (j : Nat) t v, Tryd.f8.params[j]? = some t → args[j]? = some v → Value.okWide Tryd.prog W .any base t v)
    (hW : DataW.Whole enc Tryd.prog Tryd.f8.params.toList Rows.lexAheadSpec.vars false W args.toList ds gs before) (hk : Rows.uptoSmall H (ds ++ gs) = true) (hL : laidMetH Tryd.prog laidJ W) :
    Calls Tryd.prog 8 args W fun e W' => ∃ v, e = .returned v ∧ Rows.lexAheadSpec.post enc Tryd.prog Tryd.f8 false true false false W args v W' := by
  have hW' := hW
  obtain ⟨p, q, hA0, hV, rfl, hfz, hnd⟩ := hW
  have hA : DataW.TrodAll enc Tryd.prog W 0 (fun _ => true) true Tryd.f8.params.toList args.toList ds p := hA0
  rw [Tryd.params8] at hA hval
  obtain ⟨v0, vs0, d0, ds0, p0, q0, hargs, rfl, rfl, h0, r0⟩ := trodAll_cons hA
  obtain ⟨rfl, rfl, rfl⟩ := trodAll_nil r0
  obtain rfl : args = #[v0] := by cases args; simp_all
  obtain ⟨rfl, rfl⟩ := trodVars_none hV
  obtain ⟨t0, rfl, rfl, rfl, m0⟩ := open_string Tryd.underlying9 (hval 0 9 v0 rfl rfl) h0
  clear hA0
  simp only [List.append_nil] at hW'
  have hb := bulkN hk
  rw [bulk_str] at hb
  have hcall := law_ahead t0.data.toList (by omega) W (There W) #[.string t0] (fun b h => h) (glob_of_laidJ hL) ⟨rfl, fun j v x hv hx => by
    match j, hv, hx with
    | 0, hv, hx => simp at hv hx; subst hv; subst hx; exact .d _ _ _ (.str t0)
    | j + 1, hv, hx => simp at hv⟩
  refine hcall.mono fun e W' ⟨v, F', σ', he, hbel, _, hR, _⟩ => ?_
  have hv := hR.bool_inv
  subst hv
  subst he
  exact ⟨_, rfl, post_below hW' hbel (fun _ _ _ => (trodAll_cons_mk (shut_bool Tryd.underlying4 _) trodAll_mk0))
    (fun sp _ => trodAll_cons_mk (shut_string Tryd.underlying9 m0) trodAll_mk0)
    (fun _ => rfl) (ok_one (by kernel_rfl) rfl (okWide_bool_mk Tryd.underlying4 _))⟩

def wargs : Array Value := #[.string ⟨#[]⟩]
theorem reads (os : Os) {H : Type} (enc : TypeId × Value → H) : ∃ places, DataW.whole enc Tryd.prog ((laidWorldJ os).forCall (fun _ _ => 0) ⟨#[], wargs, []⟩).memory Tryd.f8.params.toList Rows.lexAheadSpec.vars false wargs.toList 8 = some ([.lit (.string [])], [], places) :=
  ⟨[], by kernel_rfl⟩

set_option maxRecDepth 100000 in
theorem liftedUpto (os : Os) (started : os.Started) (H : Type) (enc : TypeId × Value → H) (F : Stop.Interp) :
    ReturnsInHanded {} Tryd.checked os 8 .any ((Rows.OpenSpec.upto Rows.lexAheadSpec).preRow enc Tryd.prog Tryd.f8 Rows.lexAheadUptoRow.domain false Rows.lexAheadUptoRow.laid) (((Rows.OpenSpec.upto Rows.lexAheadSpec).at F).post enc Tryd.prog Tryd.f8 false true false false) := by
  obtain ⟨places, hx⟩ := reads os enc
  refine returnsInHanded_of_row (C := Tryd.checked) (s := Rows.OpenSpec.upto Rows.lexAheadSpec) ownD started (by kernel_rfl) Tryd.func8
    (witness_row_at (enc := enc) (C := Tryd.checked) false (laidWorldJ os) wargs rfl (by kernel_rfl) (by kernel_rfl) (by kernel_rfl)
      (OpenSpec.preRow_of_cond 8 hx (by kernel_rfl) (fun k hk => by cases hk; kernel_rfl) (by kernel_rfl) (laid_metJ os wargs))) ?_
  intro W base args ds gs before hval hW _ hcond _ hL _ _
  exact contract H enc W base args ds gs before hval hW (hcond _ rfl) hL

theorem saidUpto : Rows.LexAheadUptoSaid :=
  OpenClaim.holds_of_cond 8 Tryd.f8 rfl rfl rfl rfl rfl rfl rfl ⟨rfl, rfl, rfl, rfl, rfl⟩ rfl rfl rfl rfl rfl (by kernel_rfl) Tryd.func8 (by kernel_rfl)
    (of_decide_eq_true (by kernel_rfl)) (by unfold Func.isWrapper; first | (rw [if_pos (by decide +kernel)]; kernel_rfl) | (rw [if_neg (by decide +kernel)]; exact ⟨rfl, rfl⟩))
    (fun os started H enc _ F => by rw [OpenClaim.pre_eq_preRow]; exact liftedUpto os started H enc F)

theorem plain (f : FuncId) (fn : Func) (hf : Tryd.pinned.checked.prog.funcNamed "sloth/slothlaw01.LexAhead" = some f) (hfn : Tryd.pinned.checked.prog.funcs[f]? = some fn) :
    true = Tryd.pinned.checked.prog.looks [] ∧ ∀ (j : Nat) t, fn.params[j]? = some t → Tryd.pinned.checked.prog.wantsStandIn t = false := by
  obtain rfl : f = 8 := Option.some.inj ((show Tryd.prog.funcNamed "sloth/slothlaw01.LexAhead" = some 8 by kernel_rfl).symm.trans hf) |>.symm
  obtain rfl : fn = Tryd.f8 := (Option.some.inj (Tryd.func8.symm.trans hfn)).symm
  refine ⟨by kernel_rfl, fun j t ht => ?_⟩
  rw [Tryd.params8] at ht
  have h9 : Tryd.prog.wantsStandIn 9 = false := by kernel_rfl
  match j, ht with
  | 0, ht => simp at ht; subst ht; exact h9
  | j + 1, ht => simp at ht

theorem cardUpto : Rows.LexAheadUptoCardSaid :=
  Claim7.holds_tied_plain_at .later [] _ _ _ _ saidUpto (fun _ h => by cases h) (by kernel_rfl) (fun _ h => by cases h) lexAheadUpto_row_tie rfl ⟨rfl, rfl⟩ (by kernel_rfl) rfl plain (by kernel_rfl)
#print axioms cardUpto
end Go.Proofs.YtmmbgofnllcaeaaDoor.lexAhead
end
