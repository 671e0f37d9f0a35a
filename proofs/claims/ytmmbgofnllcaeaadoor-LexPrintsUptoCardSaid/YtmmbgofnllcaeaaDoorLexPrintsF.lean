/-
  LexPrints comes to true, whatever the input (of bulk at most 1048576); the input reads as it did.
  Conditions: the listed package-level tables read as the program's text lays them (tied by the card).
-/
import Derived.Test.YtmmbgofnllcaeaaDoorLexPrintsE
import Derived.Lib.LaidTab
import Derived.Below
import Derived.Test.YtmmbgofnllcaeaaDoorChecked
import Derived.Handy
import Derived.Lib.ConvBytes
import Derived.Laws.CopyRow
import Derived.Laws.OwnMore
import Derived.Laws.AppendOwn
import Derived.Laws.MakeOwn
import Derived.OwnWalk
import Derived.Deep.RegionHeld3
import Derived.Test.YtmmbgofnllcaeaaDoorRows
import Derived.ProofKit
import Derived.OpenShut
import Derived.Deep.DeepHandedRow
import Derived.Lib.LaidIn
import Derived.ChangeMaps5
import Derived.Test.YtmmbgofnllcaeaaDoorCards
import Derived.Test.YtmmbgofnllcaeaaDoorTie
set_option linter.unusedVariables false
set_option linter.unusedSimpArgs false

section
namespace Go.Vm
set_option maxRecDepth 20000

def ptN : BS → Nat
  | [] => 0
  | c :: r => if c = 46 then 0 else ptN r + 1
def ptI (s : BS) : Int := if ptN s < s.length then (ptN s : Int) else -1
def K53 (K : Cx) : Prop := ∀ s : BS, s.length ≤ 4611686018427387903 → K.call 53 [vS s] = some (vI (ptI s), [])
def namedS (s : BS) (big : Bool) : Bool := decide (nameL s = s.length) && (big && decide (cls s = 2) || !big && decide (cls s = 1) && !resv s)
def K54 (K : Cx) : Prop := ∀ (s : BS) (big : Bool), s.length ≤ 4611686018427387903 → K.call 54 [vS s, vT1 big] = some (vT1 (namedS s big), [])
def kindS (s : BS) : Int := if dsh s then 0 else if isSg s then 11 else if bAt s = 58 ∧ 1 < s.length then -1 else 5
def K56 (K : Cx) : Prop := ∀ s : BS, s ≠ [] → s.length ≤ 4611686018427387903 → K.call 56 [vS s] = some (vI (kindS s), [])
def formedS (kd : Int) (s : BS) : Bool :=
  if kd = 1 then namedS s false
  else if kd = 2 then namedS s true
  else if kd = 3 then (decide (ptN s < s.length) && (namedS (s.take (ptN s)) true && namedS (s.drop (ptN s + 1)) false))
  else if kd = 4 then (decide (ptN s < s.length) && (namedS (s.take (ptN s)) true && namedS (s.drop (ptN s + 1)) true))
  else if kd = 5 ∨ kd = 11 then (decide (s ≠ []) && (decide (runL 5 s = s.length) && decide (kindS s = kd)))
  else if kd = 6 ∨ kd = 7 then decide (s = [])
  else if kd = 8 then true
  else if kd = 9 then (decide (s.length = 1) && (spcB (bAt s) || decide (s = [95])))
  else if kd = 10 then resv s
  else false
def K34 (K : Cx) : Prop := ∀ (kd : Int) (s : BS), s.length ≤ 4611686018427387903 → K.call 34 [vI kd, vS s] = some (vT1 (formedS kd s), [])
def isS (t : Tok) : Bool := formedS t.kind t.text && decide (0 ≤ t.num) && decide (t.num ≤ if t.kind = 7 then 255 else if t.kind = 6 then 4611686018427387903 else 0)
def K19 (K : Cx) : Prop := ∀ t : Tok, t.text.length ≤ 4611686018427387903 → K.call 19 [vT t] = some (vT1 (isS t), [])

theorem dash_loop (K : Cx) (s : BS) (hs : s.length ≤ 4611686018427387903) : ∀ (r : BS) (k : Nat), s.drop k = r → k ≤ s.length →
    lp K 0 [0, 3] f78_L0 ⟨[(0, vS s), (3, vI k)], [], 0, []⟩ = some (if r.all (· == 45) = true then (.exit 0, ⟨[(0, vS s)], [], 0, []⟩) else (.ret, ⟨[(2, vT1 false)], [], 0, []⟩)) := by
  intro r
  induction r with
  | nil =>
    intro k hd hk
    have hx := congrArg List.length hd
    rw [List.length_drop, List.length_nil] at hx
    rw [List.all_nil, if_pos rfl, lp_un f78_L0.eq_1]
    simp (disch := first | decide | omega | (simp only [LN]; omega) | (simp only [LN]; done) | fail) only [SV, Nat.reduceBEq, beq_self_eq_true, evLen, evBin, intBin, decide_false, if_true, V.refs, decide_true, Bool.and_self]
  | cons u r ih =>
    intro k hd hk
    have hx := congrArg List.length hd
    rw [List.length_drop, List.length_cons] at hx
    have hn := nth_bAt (s := s) (i := k) (by omega)
    have hn2 : nth s (k : Int) = u := by rw [hn, hd]; rfl
    have ih := ih (k + 1) (by rw [dd, hd]; rfl) (by omega)
    rw [lp_un f78_L0.eq_1, List.all_cons]
    clear hn hd
    by_cases g : u = 45
    · have g1 : ((u.toNat : Int) != 45) = false := by subst g; rfl
      have g2 : (u == 45) = true := by simpa using g
      rw [g2, Bool.true_and, ← ih]
      clear ih g g2
      simp (disch := first | decide | omega | (simp only [LN]; omega) | (simp only [LN]; done) | fail) only [SV, Nat.reduceBEq, beq_self_eq_true, evLen, evBin, intBin, decide_true, if_true, hn2, g1, cast1, V.refs, Bool.and_self]
    · have g1 : ((u.toNat : Int) != 45) = true := by
        rw [bne_iff_ne]
        exact u8n 45 rfl g
      have g2 : (u == 45) = false := by simpa using g
      rw [g2, Bool.false_and, if_neg (by simp)]
      clear ih g g2
      simp (disch := first | decide | omega | (simp only [LN]; omega) | (simp only [LN]; done) | fail) only [SV, Nat.reduceBEq, beq_self_eq_true, evLen, evBin, intBin, decide_true, if_true, hn2, g1, V.refs, Bool.and_self]
theorem ev_dashesR (K : Cx) (s : BS) (hs : s.length ≤ 4611686018427387903) : runFun K f78 [vS s] [] = some (vT1 (dsh s), [], []) := by
  have h := dash_loop K s hs s 0 rfl (by omega)
  rw [Int.natCast_zero] at h
  unfold dsh
  cases g : s.all (· == 45) with
  | true =>
    rw [g, if_pos rfl] at h
    clear g
    by_cases g2 : 2 ≤ s.length
    · have e : decide ((1 : Int) < (s.length : Int)) = true := decide_eq_true (by omega)
      rw [decide_eq_true g2]
      simp (disch := first | decide | omega | (simp only [LN]; omega) | (simp only [LN]; done) | fail) only [SV, f78, Nat.zero_add, Bool.and_self, beq_self_eq_true, Nat.reduceBEq, V.refs, decide_true, if_true, h, evLen, evBin, intBin, oneOr, Bool.false_eq_true, if_false, finV, finA, finC]
    · have e : decide ((1 : Int) < (s.length : Int)) = false := decide_eq_false (by omega)
      rw [decide_eq_false g2]
      simp (disch := first | decide | omega | (simp only [LN]; omega) | (simp only [LN]; done) | fail) only [SV, f78, Nat.zero_add, Bool.and_self, beq_self_eq_true, Nat.reduceBEq, V.refs, decide_true, if_true, h, evLen, evBin, intBin, decide_false, oneOr, Bool.false_eq_true, if_false, finV, finA, finC, Bool.and_true]
  | false =>
    rw [g, if_neg (by simp)] at h
    clear g
    rw [Bool.and_false]
    simp (disch := first | decide | omega | (simp only [LN]; omega) | (simp only [LN]; done) | fail) only [SV, f78, Nat.zero_add, Bool.and_self, beq_self_eq_true, Nat.reduceBEq, V.refs, decide_true, if_true, h, oneOr, Bool.false_eq_true, if_false, finV, finA, finC]
def eW (w : BS) : List D := [.str w]
instance : Inhabited BS := ⟨[]⟩
theorem nthW {l : List BS} {k : Nat} {t : BS} {r : List BS} (h : l.drop k = t :: r) : k < l.length ∧ nth l (k : Int) = t ∧ l.drop (k + 1) = r := by
  have hl : k < l.length := by
    apply Classical.byContradiction
    intro hc
    rw [List.drop_eq_nil_of_le (by omega)] at h
    cases h
  have h2 := List.drop_eq_getElem_cons hl
  rw [h] at h2
  injection h2 with h3 h4
  exact ⟨hl, by simp [nth, hl, h3], h4.symm⟩
theorem res_loop (K : Cx) (s : BS) (l : List BS) (hl : l.length ≤ 1000) : ∀ (r : List BS) (k : Nat), l.drop k = r → k ≤ l.length →
    lp K 0 [0, 3, 4] f58_L0 ⟨[(0, vS s), (3, .bsl 0 0 l.length), (4, vI k)], [(0, .dat true 1 (l.map eW))], 1, []⟩ = some (if s ∈ r then (.ret, ⟨[(2, vT1 true)], [], 0, []⟩) else (.exit 0, ⟨[], [], 0, []⟩)) := by
  intro r
  induction r with
  | nil =>
    intro k hd hk
    have hx := congrArg List.length hd
    rw [List.length_drop, List.length_nil] at hx
    rw [if_neg (by simp), lp_un f58_L0.eq_1]
    simp (disch := first | decide | omega | (simp only [LN]; omega) | (simp only [LN]; done) | fail) only [SV, Nat.reduceBEq, beq_self_eq_true, evLen, evBin, intBin, decide_false, if_true, decide_true, Bool.and_self]
  | cons u r ih =>
    intro k hd hk
    obtain ⟨n1, n2, n3⟩ := nthW hd
    have ih := ih (k + 1) n3 (by omega)
    rw [lp_un f58_L0.eq_1]
    clear hd n3
    by_cases g : u = s
    · subst g
      rw [if_pos (by simp)]
      clear ih
      simp (disch := first | decide | omega | (simp only [LN]; omega) | (simp only [LN]; done) | fail) only [SV, Nat.reduceBEq, beq_self_eq_true, evLen, evBin, intBin, decide_true, if_true, Int.toNat_natCast, Nat.zero_add, eW, n2, D.flat, strBin, V.refs, Bool.and_self]
    · have e : (s ∈ u :: r) = (s ∈ r) := by
        apply propext
        simp [Ne.symm g]
      simp only [e]
      rw [← ih]
      clear ih e
      have g1 : decide (u = s) = false := decide_eq_false g
      clear g
      simp (disch := first | decide | omega | (simp only [LN]; omega) | (simp only [LN]; done) | fail) only [SV, Nat.reduceBEq, beq_self_eq_true, evLen, evBin, intBin, decide_true, if_true, Int.toNat_natCast, Nat.zero_add, eW, n2, D.flat, strBin, g1, cast1, V.refs, not_false_eq_true, and_self, Bool.and_self, Bool.or_false, cond_true]
theorem ev_reservedR (K : Cx) (s : BS) : runFun K f58 [vS s] [] = some (vT1 (resv s), [], []) := by
  have h := res_loop K s words (by decide) words 0 rfl (by decide)
  rw [Int.natCast_zero] at h
  unfold resv
  by_cases g : s ∈ words
  · rw [if_pos g] at h
    rw [decide_eq_true g]
    clear g
    simp only [words, List.map_cons, List.map_nil, eW, List.length_cons, List.length_nil] at h
    simp (disch := first | decide | omega | (simp only [LN]; omega) | (simp only [LN]; done) | fail) only [SV, f58, Nat.zero_add, Bool.and_self, beq_self_eq_true, V.laid, V.cell, V.cells, decide_true, Nat.reduceAdd, asD, V.new1, D.flat, Bool.or_true, if_true, Nat.reduceBEq, V.refs, not_false_eq_true, and_self, Bool.or_false, cond_true, h, oneOr, Bool.false_eq_true, if_false, finV, finA, finC]
  · rw [if_neg g] at h
    rw [decide_eq_false g]
    clear g
    simp only [words, List.map_cons, List.map_nil, eW, List.length_cons, List.length_nil] at h
    simp (disch := first | decide | omega | (simp only [LN]; omega) | (simp only [LN]; done) | fail) only [SV, f58, Nat.zero_add, Bool.and_self, beq_self_eq_true, V.laid, V.cell, V.cells, decide_true, Nat.reduceAdd, asD, V.new1, D.flat, Bool.or_true, if_true, Nat.reduceBEq, V.refs, not_false_eq_true, and_self, Bool.or_false, cond_true, h, oneOr, Bool.false_eq_true, if_false, finV, finA, finC]
theorem point_loop (K : Cx) (s : BS) (hs : s.length ≤ 4611686018427387903) : ∀ (r : BS) (k : Nat), s.drop k = r → k ≤ s.length →
    lp K 0 [0, 3] f53_L0 ⟨[(0, vS s), (3, vI k)], [], 0, []⟩ = some (if k + ptN r < s.length then (.ret, ⟨[(2, vI ((k + ptN r : Nat)))], [], 0, []⟩) else (.exit 0, ⟨[], [], 0, []⟩)) := by
  intro r
  induction r with
  | nil =>
    intro k hd hk
    have hx := congrArg List.length hd
    rw [List.length_drop, List.length_nil] at hx
    rw [if_neg (by simp only [ptN]; omega), lp_un f53_L0.eq_1]
    simp (disch := first | decide | omega | (simp only [LN]; omega) | (simp only [LN]; done) | fail) only [SV, Nat.reduceBEq, beq_self_eq_true, evLen, evBin, intBin, decide_false, if_true, decide_true, Bool.and_self]
  | cons u r ih =>
    intro k hd hk
    have hx := congrArg List.length hd
    rw [List.length_drop, List.length_cons] at hx
    have hn := nth_bAt (s := s) (i := k) (by omega)
    have hn2 : nth s (k : Int) = u := by rw [hn, hd]; rfl
    have ih := ih (k + 1) (by rw [dd, hd]; rfl) (by omega)
    rw [lp_un f53_L0.eq_1]
    clear hn hd
    by_cases g : u = 46
    · have e : ptN (u :: r) = 0 := by simp only [ptN]; rw [if_pos g]
      have g1 := u8y 46 rfl g
      rw [e, Nat.add_zero, if_pos (by omega)]
      clear ih g e
      simp (disch := first | decide | omega | (simp only [LN]; omega) | (simp only [LN]; done) | fail) only [SV, Nat.reduceBEq, beq_self_eq_true, evLen, evBin, intBin, decide_true, if_true, hn2, g1, V.refs, Bool.and_self]
    · have e : ptN (u :: r) = ptN r + 1 := by simp only [ptN]; rw [if_neg g]
      have g1 := u8n 46 rfl g
      rw [e, show k + (ptN r + 1) = k + 1 + ptN r from by omega, ← ih]
      clear ih g e
      simp (disch := first | decide | omega | (simp only [LN]; omega) | (simp only [LN]; done) | fail) only [SV, Nat.reduceBEq, beq_self_eq_true, evLen, evBin, intBin, decide_true, if_true, hn2, cast1, V.refs, Bool.and_self]
theorem ev_point (K : Cx) (s : BS) (hs : s.length ≤ 4611686018427387903) : runFun K f53 [vS s] [] = some (vI (ptI s), [], []) := by
  have h := point_loop K s hs s 0 rfl (by omega)
  rw [Int.natCast_zero, Nat.zero_add] at h
  unfold ptI
  by_cases g : ptN s < s.length
  · rw [if_pos g] at h
    rw [if_pos g]
    clear g
    simp (disch := first | decide | omega | (simp only [LN]; omega) | (simp only [LN]; done) | fail) only [SV, f53, Int.reduceNeg, Nat.zero_add, Bool.and_self, beq_self_eq_true, Nat.reduceBEq, V.refs, decide_true, if_true, h, oneOr, Bool.false_eq_true, if_false, finV, finA, finC]
  · rw [if_neg g] at h
    rw [if_neg g]
    clear g
    simp (disch := first | decide | omega | (simp only [LN]; omega) | (simp only [LN]; done) | fail) only [SV, f53, Int.reduceNeg, Nat.zero_add, Bool.and_self, beq_self_eq_true, Nat.reduceBEq, V.refs, decide_true, if_true, h, oneOr, Bool.false_eq_true, if_false, finV, finA, finC]
theorem ev_named (K : Cx) (h74 : K74 K) (h75 : K75 K) (h76 : K76 K) (h58 : K58 K) (s : BS) (big : Bool) (hs : s.length ≤ 4611686018427387903) : runFun K f54 [vS s, vT1 big] [] = some (vT1 (namedS s big), [], []) := by
  by_cases g0 : s = []
  · subst g0
    have e : namedS [] big = false := by cases big <;> rfl
    rw [e]
    simp (disch := first | decide | omega | (simp only [LN]; omega) | (simp only [LN]; done) | fail) only [SV, f54, Nat.zero_add, Nat.reduceAdd, Bool.and_self, beq_self_eq_true, Nat.reduceBEq, evBin, strBin, decide_true, V.refs, if_true, oneOr, Bool.false_eq_true, if_false, finV, finA, finC]
  · obtain ⟨c, r, rfl⟩ := List.exists_cons_of_ne_nil g0
    have hn : nth (c :: r) 0 = c := rfl
    have a := h74 c
    have b := h75 c
    have d := h76 (c :: r) 0 (by omega) hs
    have e := h58 (c :: r)
    rw [List.drop_zero, Nat.zero_add, Int.natCast_zero] at d
    have z : decide ((c :: r : BS) = []) = false := by simp
    have hcl : cls (c :: r) = clB c := rfl
    unfold namedS
    rw [hcl]
    have hlen : ((c :: r : BS).length : Int) = (r.length : Int) + 1 := rfl
    have e1 : ((nameL (c :: r) : Int) == ((c :: r : BS).length : Int)) = decide (nameL (c :: r) = (c :: r : BS).length) := by
      rw [Bool.eq_iff_iff, beq_iff_eq, decide_eq_true_iff, Int.natCast_inj]
    generalize hrv : resv (c :: r) = rv at e ⊢
    generalize hdl : decide (nameL (c :: r) = (c :: r : BS).length) = dl at e1 ⊢
    have hl0 : (0 : Int) < ((c :: r : BS).length : Int) := by rw [hlen]; omega
    generalize hcr : (c :: r : BS) = w at *
    clear hcr hcl hlen hdl hrv
    generalize decide (clB c = 1) = p1 at a ⊢
    generalize decide (clB c = 2) = p2 at b ⊢
    cases big <;> cases dl <;> cases p1 <;> cases p2 <;> cases rv <;> simp (disch := first | decide | omega | (simp only [LN]; omega) | (simp only [LN]; done) | fail) only [SV, f54, Nat.zero_add, Nat.reduceAdd, Bool.and_self, beq_self_eq_true, Nat.reduceBEq, evBin, strBin, z, hn, V.own, V.own1, Bool.or_self, V.new, V.new1, D.flat, Bool.or_true, V.flatV, V.flat1, Bool.not_true, Bool.and_false, Bool.false_and, view, viewD, a, Bool.false_eq_true, if_false, b, d, e, evLen, intBin, e1, if_true, evUn, Bool.not_false, Bool.and_true, V.refs, decide_true, oneOr, finV, finA, finC, Bool.or_false]
theorem ev_kindOf (K : Cx) (h78 : K78 K) (s : BS) (h0 : s ≠ []) (hs : s.length ≤ 4611686018427387903) : runFun K f56 [vS s] [] = some (vI (kindS s), [], []) := by
  have h := h78 s hs
  unfold kindS
  cases hd : dsh s with
  | true =>
    rw [hd] at h
    rw [if_pos rfl]
    clear hd
    simp (disch := first | decide | omega | (simp only [LN]; omega) | (simp only [LN]; done) | fail) only [SV, f56, Int.reduceNeg, Nat.zero_add, Bool.and_self, beq_self_eq_true, V.own, V.own1, Bool.or_self, V.new, V.new1, D.flat, Bool.or_true, V.flatV, V.flat1, Bool.not_true, Bool.and_false, Bool.false_and, view, viewD, h, Bool.false_eq_true, if_false, Nat.reduceBEq, V.refs, decide_true, if_true, oneOr, finV, finA, finC]
  | false =>
    rw [hd] at h
    rw [if_neg (by simp)]
    clear hd
    unfold isSg signs
    by_cases g1 : s = [61]
    · subst g1; simp (disch := first | decide | omega | (simp only [LN]; omega) | (simp only [LN]; done) | fail) only [SV, f56, Int.reduceNeg, Nat.zero_add, Bool.and_self, beq_self_eq_true, V.own, V.own1, Bool.or_self, V.new, V.new1, D.flat, Bool.or_true, V.flatV, V.flat1, Bool.not_true, Bool.and_false, Bool.false_and, view, viewD, h, Bool.false_eq_true, if_false, Nat.reduceBEq, evBin, strBin, decide_true, Bool.true_or, V.refs, if_true, oneOr, finV, finA, finC, or_false, true_or, Nat.lt_irrefl, and_false]
    by_cases g2 : s = [124]
    · subst g2; simp (disch := first | decide | omega | (simp only [LN]; omega) | (simp only [LN]; done) | fail) only [SV, f56, Int.reduceNeg, Nat.zero_add, Bool.and_self, beq_self_eq_true, V.own, V.own1, Bool.or_self, V.new, V.new1, D.flat, Bool.or_true, V.flatV, V.flat1, Bool.not_true, Bool.and_false, Bool.false_and, view, viewD, h, Bool.false_eq_true, if_false, Nat.reduceBEq, evBin, strBin, decide_true, Bool.true_or, V.refs, if_true, oneOr, finV, finA, finC, or_false, true_or, or_true, Nat.lt_irrefl, and_false]
    by_cases g3 : s = [45, 62]
    · subst g3; simp (disch := first | decide | omega | (simp only [LN]; omega) | (simp only [LN]; done) | fail) only [SV, f56, Int.reduceNeg, Nat.zero_add, Bool.and_self, beq_self_eq_true, V.own, V.own1, Bool.or_self, V.new, V.new1, D.flat, Bool.or_true, V.flatV, V.flat1, Bool.not_true, Bool.and_false, Bool.false_and, view, viewD, h, Bool.false_eq_true, if_false, Nat.reduceBEq, evBin, strBin, decide_true, Bool.true_or, V.refs, if_true, oneOr, finV, finA, finC, or_false, true_or, or_true, Nat.reduceAdd, and_true]
    by_cases g4 : s = [58, 58]
    · subst g4; simp (disch := first | decide | omega | (simp only [LN]; omega) | (simp only [LN]; done) | fail) only [SV, f56, Int.reduceNeg, Nat.zero_add, Bool.and_self, beq_self_eq_true, V.own, V.own1, Bool.or_self, V.new, V.new1, D.flat, Bool.or_true, V.flatV, V.flat1, Bool.not_true, Bool.and_false, Bool.false_and, view, viewD, h, Bool.false_eq_true, if_false, Nat.reduceBEq, evBin, strBin, decide_true, V.refs, if_true, oneOr, finV, finA, finC, or_false, or_true, Nat.reduceAdd, and_true]
    have e : decide (s ∈ ([[61], [124], [45, 62], [58, 58]] : List BS)) = false := by simp [g1, g2, g3, g4]
    rw [e, if_neg (by simp)]
    obtain ⟨c, r, rfl⟩ := List.exists_cons_of_ne_nil h0
    have hn : nth (c :: r) 0 = c := rfl
    have hb : bAt (c :: r) = c := rfl
    rw [hb]
    have hl0 : (0 : Int) < ((c :: r : BS).length : Int) := by rw [List.length_cons]; omega
    have z1 : decide ((c :: r : BS) = [61]) = false := decide_eq_false g1
    have z2 : decide ((c :: r : BS) = [124]) = false := decide_eq_false g2
    have z3 : decide ((c :: r : BS) = [45, 62]) = false := decide_eq_false g3
    have z4 : decide ((c :: r : BS) = [58, 58]) = false := decide_eq_false g4
    clear g1 g2 g3 g4 e hb h0
    generalize hcr : (c :: r : BS) = w at *
    clear hcr
    by_cases g : c = 58
    · have g1 := u8y 58 rfl g
      by_cases g2 : 1 < w.length
      · have e2 : decide ((1 : Int) < (w.length : Int)) = true := decide_eq_true (by omega)
        rw [if_pos ⟨g, g2⟩]
        clear g g2
        simp (disch := first | decide | omega | (simp only [LN]; omega) | (simp only [LN]; done) | fail) only [SV, f56, Int.reduceNeg, Nat.zero_add, Bool.and_self, beq_self_eq_true, V.own, V.own1, Bool.or_self, V.new, V.new1, D.flat, Bool.or_true, V.flatV, V.flat1, Bool.not_true, Bool.and_false, Bool.false_and, view, viewD, h, Bool.false_eq_true, if_false, Nat.reduceBEq, evBin, strBin, z1, z2, z3, z4, hn, g1, intBin, if_true, evLen, e2, V.refs, decide_true, oneOr, finV, finA, finC]
      · have e2 : decide ((1 : Int) < (w.length : Int)) = false := decide_eq_false (by omega)
        rw [if_neg (fun hc => g2 hc.2)]
        clear g g2
        simp (disch := first | decide | omega | (simp only [LN]; omega) | (simp only [LN]; done) | fail) only [SV, f56, Int.reduceNeg, Nat.zero_add, Bool.and_self, beq_self_eq_true, V.own, V.own1, Bool.or_self, V.new, V.new1, D.flat, Bool.or_true, V.flatV, V.flat1, Bool.not_true, Bool.and_false, Bool.false_and, view, viewD, h, Bool.false_eq_true, if_false, Nat.reduceBEq, evBin, strBin, z1, z2, z3, z4, hn, g1, intBin, if_true, evLen, e2, V.refs, decide_true, oneOr, finV, finA, finC]
    · have g1 := u8n 58 rfl g
      rw [if_neg (fun hc => g hc.1)]
      clear g
      simp (disch := first | decide | omega | (simp only [LN]; omega) | (simp only [LN]; done) | fail) only [SV, f56, Int.reduceNeg, Nat.zero_add, Bool.and_self, beq_self_eq_true, V.own, V.own1, Bool.or_self, V.new, V.new1, D.flat, Bool.or_true, V.flatV, V.flat1, Bool.not_true, Bool.and_false, Bool.false_and, view, viewD, h, Bool.false_eq_true, if_false, Nat.reduceBEq, evBin, strBin, z1, z2, z3, z4, hn, intBin, if_true, evLen, V.refs, decide_true, oneOr, finV, finA, finC]
end Go.Vm
end

section
namespace Go.Vm
set_option maxRecDepth 20000
/- 'sloth/slothref01.Is' -/
def f19 : Fun := ⟨
 (.seq
  (.reg [⟨[(1, .box (.sl 0))], [], [(.bool false)], none, [1], 2, [], [], []⟩])
  (.seq
   (.reg [⟨[], [(3, (.call 34 (.cons (.ld 1 false (.fa 0 (.sl 1))) (.cons (.ld 1 false (.fa 1 (.sl 1))) .nil))))], [], none, [1], 6, [], [], []⟩])
   (.seq
    (.reg [⟨[], [(4, (.int .i64 0))], [], none, [1, 3], 1, [], [], []⟩])
    (.seq
     (.seq
      (.reg [⟨[], [(12, (.bin .eql (.ld 1 false (.fa 0 (.sl 1))) (.int .i64 6)))], [], none, [1, 3, 4], 3, [], [], []⟩])
      (.cond (.sl 12)
       (.reg [⟨[], [(4, (.int .i64 4611686018427387903))], [], none, [1, 3], 1, [], [], []⟩])
       .skip))
     (.seq
      (.seq
       (.reg [⟨[], [(15, (.bin .eql (.ld 1 false (.fa 0 (.sl 1))) (.int .i64 7)))], [], none, [1, 3, 4], 3, [], [], []⟩])
       (.cond (.sl 15)
        (.reg [⟨[], [(4, (.int .i64 255))], [], none, [1, 3], 1, [], [], []⟩])
        .skip))
      (.seq
       (.reg [⟨[], [(2, (.and (.and (.sl 3) (.bin .geq (.ld 1 false (.fa 2 (.sl 1))) (.int .i64 0))) (.bin .leq (.ld 1 false (.fa 2 (.sl 1))) (.sl 4))))], [], none, [], 13, [], [], []⟩])
       (.seq
        (.tidy 0 [2])
        .ret))))))),
 [(.sl 2)], false⟩
theorem f19_ok : funOk Go.Proofs.Tryd.prog 19 0 1 f19 = true := by kernel_rfl

/- 'sloth/slothref01.formed' -/
def f34 : Fun := ⟨
 (.seq
  (.reg [⟨[], [], [(.bool false)], none, [0, 1], 1, [], [], []⟩])
  (.seq
   (.reg [⟨[], [(5, (.call 53 (.cons (.sl 1) .nil)))], [], none, [0, 1], 3, [], [], []⟩])
   (.seq
    (.seq
     (.reg [⟨[], [(13, (.sl 0))], [], none, [0, 1, 5], 1, [], [], []⟩])
     (.block 0
      (.seq
       (.reg [⟨[], [(14, (.bin .eql (.sl 13) (.int .i64 1)))], [], none, [0, 1, 5, 13], 2, [], [], []⟩])
       (.cond (.sl 14)
        (.seq
         (.reg [⟨[], [(4, (.call 54 (.cons (.sl 1) (.cons (.bool false) .nil))))], [], none, [], 3, [], [], []⟩])
         (.seq
          (.tidy 0 [4])
          .ret))
        (.seq
         (.reg [⟨[], [(18, (.bin .eql (.sl 13) (.int .i64 2)))], [], none, [0, 1, 5, 13], 2, [], [], []⟩])
         (.cond (.sl 18)
          (.seq
           (.reg [⟨[], [(4, (.call 54 (.cons (.sl 1) (.cons (.bool true) .nil))))], [], none, [], 3, [], [], []⟩])
           (.seq
            (.tidy 0 [4])
            .ret))
          (.seq
           (.seq
            (.reg [⟨[], [(22, (.bin .eql (.sl 13) (.int .i64 3)))], [], none, [0, 1, 5, 13], 2, [], [], []⟩])
            (.cond (.sl 22)
             .skip
             (.reg [⟨[], [(22, (.bin .eql (.sl 13) (.int .i64 4)))], [], none, [0, 1, 5, 13], 2, [], [], []⟩])))
           (.cond (.sl 22)
            (.seq
             (.seq
              (.reg [⟨[], [(26, (.bin .lss (.sl 5) (.int .i64 0)))], [], none, [0, 1, 5], 2, [], [], []⟩])
              (.cond (.sl 26)
               (.seq
                (.reg [⟨[], [(4, (.bool false))], [], none, [], 1, [], [], []⟩])
                (.seq
                 (.tidy 0 [4])
                 .ret))
               .skip))
             (.seq
              (.reg [⟨[], [(6, (.call 54 (.cons (.cut true false true false 0 (.sl 1) .nil (.sl 5) .nil) (.cons (.bool true) .nil))))], [], none, [0, 1, 5], 5, [], [], []⟩])
              (.seq
               (.reg [⟨[], [(7, (.call 54 (.cons (.cut true true false false 0 (.sl 1) (.bin .add (.sl 5) (.int .i64 1)) .nil .nil) (.cons (.bin .eql (.sl 0) (.int .i64 4)) .nil))))], [], none, [6], 8, [], [], []⟩])
               (.seq
                (.reg [⟨[], [(4, (.and (.sl 6) (.sl 7)))], [], none, [], 5, [], [], []⟩])
                (.seq
                 (.tidy 0 [4])
                 .ret)))))
            (.seq
             (.seq
              (.reg [⟨[], [(42, (.bin .eql (.sl 13) (.int .i64 5)))], [], none, [0, 1, 13], 2, [], [], []⟩])
              (.cond (.sl 42)
               .skip
               (.reg [⟨[], [(42, (.bin .eql (.sl 13) (.int .i64 11)))], [], none, [0, 1, 13], 2, [], [], []⟩])))
             (.cond (.sl 42)
              (.seq
               (.seq
                (.reg [⟨[], [(46, (.bin .eql (.sl 1) (.str [])))], [], none, [0, 1], 2, [], [], []⟩])
                (.cond (.sl 46)
                 (.seq
                  (.reg [⟨[], [(4, (.bool false))], [], none, [], 1, [], [], []⟩])
                  (.seq
                   (.tidy 0 [4])
                   .ret))
                 .skip))
               (.seq
                (.reg [⟨[], [(8, (.call 55 (.cons (.sl 1) (.cons (.int .i64 0) .nil))))], [], none, [0, 1], 3, [], [], []⟩])
                (.seq
                 (.reg [⟨[], [(9, (.call 56 (.cons (.sl 1) .nil)))], [], none, [0, 1, 8], 3, [], [], []⟩])
                 (.seq
                  (.reg [⟨[], [(4, (.and (.bin .eql (.sl 8) (.len true (.sl 1))) (.bin .eql (.sl 9) (.sl 0))))], [], none, [], 10, [], [], []⟩])
                  (.seq
                   (.tidy 0 [4])
                   .ret)))))
              (.seq
               (.seq
                (.reg [⟨[], [(60, (.bin .eql (.sl 13) (.int .i64 6)))], [], none, [1, 13], 2, [], [], []⟩])
                (.cond (.sl 60)
                 .skip
                 (.reg [⟨[], [(60, (.bin .eql (.sl 13) (.int .i64 7)))], [], none, [1, 13], 2, [], [], []⟩])))
               (.cond (.sl 60)
                (.seq
                 (.reg [⟨[], [(4, (.bin .eql (.sl 1) (.str [])))], [], none, [], 3, [], [], []⟩])
                 (.seq
                  (.tidy 0 [4])
                  .ret))
                (.seq
                 (.reg [⟨[], [(65, (.bin .eql (.sl 13) (.int .i64 8)))], [], none, [1, 13], 2, [], [], []⟩])
                 (.cond (.sl 65)
                  (.seq
                   (.reg [⟨[], [(4, (.bool true))], [], none, [], 1, [], [], []⟩])
                   (.seq
                    (.tidy 0 [4])
                    .ret))
                  (.seq
                   (.reg [⟨[], [(67, (.bin .eql (.sl 13) (.int .i64 9)))], [], none, [1, 13], 2, [], [], []⟩])
                   (.cond (.sl 67)
                    (.seq
                     (.seq
                      (.reg [⟨[], [(71, (.bin .neq (.len true (.sl 1)) (.int .i64 1)))], [], none, [1], 3, [], [], []⟩])
                      (.cond (.sl 71)
                       (.seq
                        (.reg [⟨[], [(4, (.bool false))], [], none, [], 1, [], [], []⟩])
                        (.seq
                         (.tidy 0 [4])
                         .ret))
                       .skip))
                     (.seq
                      (.reg [⟨[], [(10, (.call 57 (.cons (.ix (.sl 1) (.int .i64 0)) .nil)))], [], none, [1], 4, [], [], []⟩])
                      (.seq
                       (.reg [⟨[], [(4, (.or (.sl 10) (.bin .eql (.sl 1) (.str [95]))))], [], none, [], 6, [], [], []⟩])
                       (.seq
                        (.tidy 0 [4])
                        .ret))))
                    (.seq
                     (.reg [⟨[], [(80, (.bin .eql (.sl 13) (.int .i64 10)))], [], none, [1], 2, [], [], []⟩])
                     (.cond (.sl 80)
                      (.seq
                       (.reg [⟨[], [(4, (.call 58 (.cons (.sl 1) .nil)))], [], none, [], 3, [], [], []⟩])
                       (.seq
                        (.tidy 0 [4])
                        .ret))
                      .skip))))))))))))))))))
    (.seq
     (.reg [⟨[], [(4, (.bool false))], [], none, [], 1, [], [], []⟩])
     (.seq
      (.tidy 0 [4])
      .ret))))),
 [(.sl 4)], false⟩
theorem f34_ok : funOk Go.Proofs.Tryd.prog 34 0 2 f34 = true := by kernel_rfl


theorem beqF {a b : Int} (h : ¬ a = b) : (a == b) = false := by simpa using h
theorem ptN_le : ∀ s : BS, ptN s ≤ s.length
  | [] => Nat.le_refl _
  | c :: r => by
    have := ptN_le r
    simp only [ptN, List.length_cons]
    split <;> omega
theorem ev_formed (K : Cx) (h53 : K53 K) (h54 : K54 K) (h55 : K55 K) (h56 : K56 K) (h57 : K57 K) (h58 : K58 K) (kd : Int) (s : BS) (hs : s.length ≤ 4611686018427387903) : runFun K f34 [vI kd, vS s] [] = some (vT1 (formedS kd s), [], []) := by
  have p := h53 s hs
  unfold formedS
  by_cases k1 : kd = 1
  · subst k1
    have a := h54 s false hs
    rw [if_pos rfl]
    generalize namedS s false = x at a ⊢
    simp (disch := first | decide | omega | (simp only [LN]; omega) | (simp only [LN]; done) | fail) only [SV, f34, Nat.zero_add, Nat.reduceAdd, Bool.and_self, beq_self_eq_true, Nat.reduceBEq, V.own, V.own1, Bool.or_self, V.new, V.new1, D.flat, Bool.or_true, V.flatV, V.flat1, Bool.not_true, Bool.and_false, Bool.false_and, view, viewD, p, Bool.false_eq_true, if_false, evBin, intBin, if_true, a, V.refs, decide_true, oneOr, finV, finA, finC]
  have b1 := beqF k1
  rw [if_neg k1]
  by_cases k2 : kd = 2
  · subst k2
    have a := h54 s true hs
    rw [if_pos rfl]
    generalize namedS s true = x at a ⊢
    simp (disch := first | decide | omega | (simp only [LN]; omega) | (simp only [LN]; done) | fail) only [SV, f34, Nat.zero_add, Nat.reduceAdd, Bool.and_self, beq_self_eq_true, Nat.reduceBEq, V.own, V.own1, Bool.or_self, V.new, V.new1, D.flat, Bool.or_true, V.flatV, V.flat1, Bool.not_true, Bool.and_false, Bool.false_and, view, viewD, p, Bool.false_eq_true, if_false, evBin, intBin, if_true, a, V.refs, decide_true, oneOr, finV, finA, finC]
  have b2 := beqF k2
  rw [if_neg k2]
  by_cases k3 : kd = 3
  · subst k3
    rw [if_pos rfl]
    unfold ptI at p
    by_cases g : ptN s < s.length
    · rw [if_pos g] at p
      have a := h54 (s.take (ptN s)) true (by rw [List.length_take]; omega)
      have b := h54 (s.drop (ptN s + 1)) false (by rw [List.length_drop]; omega)
      have c1 := fun H => cut_sh H s (.tup []) (.tup []) (ptN s) (by omega)
      have c2 : ∀ H, evCutS H true true false false 0 (.d false (.str s)) (.d false (.int .i64 ((ptN s : Int) + 1))) (.tup []) (.tup []) = some (.d false (.str (s.drop (ptN s + 1)))) := fun H => cut_sl H s (ptN s + 1) (by omega)
      rw [decide_eq_true g, Bool.true_and]
      generalize namedS (s.take (ptN s)) true = x at a ⊢
      generalize namedS (s.drop (ptN s + 1)) false = y at b ⊢
      have hb : (ptN s : Int) < 4611686018427387903 := by omega
      clear k1 k2
      simp (disch := first | decide | omega | (simp only [LN]; omega) | (simp only [LN]; done) | fail) only [SV, f34, Nat.zero_add, Nat.reduceAdd, Bool.and_self, beq_self_eq_true, Nat.reduceBEq, V.own, V.own1, Bool.or_self, V.new, V.new1, D.flat, Bool.or_true, V.flatV, V.flat1, Bool.not_true, Bool.and_false, Bool.false_and, view, viewD, p, Bool.false_eq_true, if_false, evBin, intBin, if_true, decide_false, e_cut, o4_some, c1, a, c2, b, V.refs, decide_true, oneOr, finV, finA, finC]
    · rw [if_neg g] at p
      rw [decide_eq_false g, Bool.false_and]
      clear k1 k2 g
      simp (disch := first | decide | omega | (simp only [LN]; omega) | (simp only [LN]; done) | fail) only [SV, f34, Nat.zero_add, Nat.reduceAdd, Bool.and_self, beq_self_eq_true, Nat.reduceBEq, V.own, V.own1, Bool.or_self, V.new, V.new1, D.flat, Bool.or_true, V.flatV, V.flat1, Bool.not_true, Bool.and_false, Bool.false_and, view, viewD, p, Int.reduceNeg, Bool.false_eq_true, if_false, evBin, intBin, if_true, decide_true, V.refs, oneOr, finV, finA, finC]
  have b3 := beqF k3
  rw [if_neg k3]
  by_cases k4 : kd = 4
  · subst k4
    rw [if_pos rfl]
    unfold ptI at p
    by_cases g : ptN s < s.length
    · rw [if_pos g] at p
      have a := h54 (s.take (ptN s)) true (by rw [List.length_take]; omega)
      have b := h54 (s.drop (ptN s + 1)) true (by rw [List.length_drop]; omega)
      have c1 := fun H => cut_sh H s (.tup []) (.tup []) (ptN s) (by omega)
      have c2 : ∀ H, evCutS H true true false false 0 (.d false (.str s)) (.d false (.int .i64 ((ptN s : Int) + 1))) (.tup []) (.tup []) = some (.d false (.str (s.drop (ptN s + 1)))) := fun H => cut_sl H s (ptN s + 1) (by omega)
      rw [decide_eq_true g, Bool.true_and]
      generalize namedS (s.take (ptN s)) true = x at a ⊢
      generalize namedS (s.drop (ptN s + 1)) true = y at b ⊢
      have hb : (ptN s : Int) < 4611686018427387903 := by omega
      clear k1 k2 k3
      simp (disch := first | decide | omega | (simp only [LN]; omega) | (simp only [LN]; done) | fail) only [SV, f34, Nat.zero_add, Nat.reduceAdd, Bool.and_self, beq_self_eq_true, Nat.reduceBEq, V.own, V.own1, Bool.or_self, V.new, V.new1, D.flat, Bool.or_true, V.flatV, V.flat1, Bool.not_true, Bool.and_false, Bool.false_and, view, viewD, p, Bool.false_eq_true, if_false, evBin, intBin, if_true, decide_false, e_cut, o4_some, c1, a, c2, b, V.refs, decide_true, oneOr, finV, finA, finC]
    · rw [if_neg g] at p
      rw [decide_eq_false g, Bool.false_and]
      clear k1 k2 k3 g
      simp (disch := first | decide | omega | (simp only [LN]; omega) | (simp only [LN]; done) | fail) only [SV, f34, Nat.zero_add, Nat.reduceAdd, Bool.and_self, beq_self_eq_true, Nat.reduceBEq, V.own, V.own1, Bool.or_self, V.new, V.new1, D.flat, Bool.or_true, V.flatV, V.flat1, Bool.not_true, Bool.and_false, Bool.false_and, view, viewD, p, Int.reduceNeg, Bool.false_eq_true, if_false, evBin, intBin, if_true, decide_true, V.refs, oneOr, finV, finA, finC]
  have b4 := beqF k4
  rw [if_neg k4]
  by_cases k5 : kd = 5
  · subst k5
    rw [if_pos (Or.inl rfl)]
    by_cases g : s = []
    · subst g
      simp (disch := first | decide | omega | (simp only [LN]; omega) | (simp only [LN]; done) | fail) only [SV, f34, Nat.zero_add, Nat.reduceAdd, Bool.and_self, beq_self_eq_true, Nat.reduceBEq, V.own, V.own1, Bool.or_self, V.new, V.new1, D.flat, Bool.or_true, V.flatV, V.flat1, Bool.not_true, Bool.and_false, Bool.false_and, view, viewD, p, Bool.false_eq_true, if_false, evBin, intBin, if_true, strBin, decide_true, V.refs, oneOr, finV, finA, finC, ne_eq, not_true_eq_false, decide_false]
    · have z : decide (s = []) = false := decide_eq_false g
      have z2 : decide (s ≠ []) = true := decide_eq_true g
      have a := h55 s 0 (by omega) hs
      have b := h56 s g hs
      rw [List.drop_zero, Nat.zero_add, Int.natCast_zero] at a
      have e1 : ((runL 5 s : Int) == (s.length : Int)) = decide (runL 5 s = s.length) := by
        rw [Bool.eq_iff_iff, beq_iff_eq, decide_eq_true_iff, Int.natCast_inj]
      have e2 : ((kindS s : Int) == 5) = decide (kindS s = 5) := by
        rw [Bool.eq_iff_iff, beq_iff_eq, decide_eq_true_iff]
      rw [z2, Bool.true_and, ← e2, ← e1]
      clear k1 k2 k3 k4 g z2 e1 e2
      simp (disch := first | decide | omega | (simp only [LN]; omega) | (simp only [LN]; done) | fail) only [SV, f34, Nat.zero_add, Nat.reduceAdd, Bool.and_self, beq_self_eq_true, Nat.reduceBEq, V.own, V.own1, Bool.or_self, V.new, V.new1, D.flat, Bool.or_true, V.flatV, V.flat1, Bool.not_true, Bool.and_false, Bool.false_and, view, viewD, p, Bool.false_eq_true, if_false, evBin, intBin, if_true, strBin, z, a, b, evLen, V.refs, decide_true, oneOr, finV, finA, finC]
  have b5 := beqF k5
  by_cases k11 : kd = 11
  · subst k11
    rw [if_pos (Or.inr rfl)]
    by_cases g : s = []
    · subst g
      simp (disch := first | decide | omega | (simp only [LN]; omega) | (simp only [LN]; done) | fail) only [SV, f34, Nat.zero_add, Nat.reduceAdd, Bool.and_self, beq_self_eq_true, Nat.reduceBEq, V.own, V.own1, Bool.or_self, V.new, V.new1, D.flat, Bool.or_true, V.flatV, V.flat1, Bool.not_true, Bool.and_false, Bool.false_and, view, viewD, p, Bool.false_eq_true, if_false, evBin, intBin, if_true, strBin, decide_true, V.refs, oneOr, finV, finA, finC, ne_eq, not_true_eq_false, decide_false]
    · have z : decide (s = []) = false := decide_eq_false g
      have z2 : decide (s ≠ []) = true := decide_eq_true g
      have a := h55 s 0 (by omega) hs
      have b := h56 s g hs
      rw [List.drop_zero, Nat.zero_add, Int.natCast_zero] at a
      have e1 : ((runL 5 s : Int) == (s.length : Int)) = decide (runL 5 s = s.length) := by
        rw [Bool.eq_iff_iff, beq_iff_eq, decide_eq_true_iff, Int.natCast_inj]
      have e2 : ((kindS s : Int) == 11) = decide (kindS s = 11) := by
        rw [Bool.eq_iff_iff, beq_iff_eq, decide_eq_true_iff]
      rw [z2, Bool.true_and, ← e2, ← e1]
      clear k1 k2 k3 k4 k5 g z2 e1 e2
      simp (disch := first | decide | omega | (simp only [LN]; omega) | (simp only [LN]; done) | fail) only [SV, f34, Nat.zero_add, Nat.reduceAdd, Bool.and_self, beq_self_eq_true, Nat.reduceBEq, V.own, V.own1, Bool.or_self, V.new, V.new1, D.flat, Bool.or_true, V.flatV, V.flat1, Bool.not_true, Bool.and_false, Bool.false_and, view, viewD, p, Bool.false_eq_true, if_false, evBin, intBin, if_true, strBin, z, a, b, evLen, V.refs, decide_true, oneOr, finV, finA, finC]
  have b11 := beqF k11
  rw [if_neg (by simp [k5, k11])]
  by_cases k6 : kd = 6
  · subst k6
    rw [if_pos (Or.inl rfl)]
    clear k1 k2 k3 k4 k5 k11
    simp (disch := first | decide | omega | (simp only [LN]; omega) | (simp only [LN]; done) | fail) only [SV, f34, Nat.zero_add, Nat.reduceAdd, Bool.and_self, beq_self_eq_true, Nat.reduceBEq, V.own, V.own1, Bool.or_self, V.new, V.new1, D.flat, Bool.or_true, V.flatV, V.flat1, Bool.not_true, Bool.and_false, Bool.false_and, view, viewD, p, Bool.false_eq_true, if_false, evBin, intBin, if_true, strBin, V.refs, decide_true, oneOr, finV, finA, finC]
  have b6 := beqF k6
  by_cases k7 : kd = 7
  · subst k7
    rw [if_pos (Or.inr rfl)]
    clear k1 k2 k3 k4 k5 k11 k6
    simp (disch := first | decide | omega | (simp only [LN]; omega) | (simp only [LN]; done) | fail) only [SV, f34, Nat.zero_add, Nat.reduceAdd, Bool.and_self, beq_self_eq_true, Nat.reduceBEq, V.own, V.own1, Bool.or_self, V.new, V.new1, D.flat, Bool.or_true, V.flatV, V.flat1, Bool.not_true, Bool.and_false, Bool.false_and, view, viewD, p, Bool.false_eq_true, if_false, evBin, intBin, if_true, strBin, V.refs, decide_true, oneOr, finV, finA, finC]
  have b7 := beqF k7
  rw [if_neg (by simp [k6, k7])]
  by_cases k8 : kd = 8
  · subst k8
    rw [if_pos rfl]
    clear k1 k2 k3 k4 k5 k11 k6 k7
    simp (disch := first | decide | omega | (simp only [LN]; omega) | (simp only [LN]; done) | fail) only [SV, f34, Nat.zero_add, Nat.reduceAdd, Bool.and_self, beq_self_eq_true, Nat.reduceBEq, V.own, V.own1, Bool.or_self, V.new, V.new1, D.flat, Bool.or_true, V.flatV, V.flat1, Bool.not_true, Bool.and_false, Bool.false_and, view, viewD, p, Bool.false_eq_true, if_false, evBin, intBin, if_true, V.refs, decide_true, oneOr, finV, finA, finC]
  have b8 := beqF k8
  rw [if_neg k8]
  by_cases k9 : kd = 9
  · subst k9
    rw [if_pos rfl]
    clear k1 k2 k3 k4 k5 k11 k6 k7 k8
    by_cases g : s.length = 1
    · match s, g with
      | [c], _ =>
        have hn : nth [c] 0 = c := rfl
        have a := h57 c
        have hb : bAt [c] = c := rfl
        rw [hb]
        generalize spcB c = x at a ⊢
        have hw : (([c] : BS).length : Int) = 1 := rfl
        cases x <;> simp (disch := first | decide | omega | (simp only [LN]; omega) | (simp only [LN]; done) | fail) only [SV, f34, Nat.zero_add, Nat.reduceAdd, Bool.and_self, beq_self_eq_true, Nat.reduceBEq, V.own, V.own1, Bool.or_self, V.new, V.new1, D.flat, Bool.or_true, V.flatV, V.flat1, Bool.not_true, Bool.and_false, Bool.false_and, view, viewD, p, Bool.false_eq_true, if_false, evBin, intBin, if_true, evLen, hn, a, strBin, Bool.false_or, V.refs, decide_true, oneOr, finV, finA, finC, Bool.true_and, Bool.true_or]
    · have e : ((s.length : Int) != 1) = true := by rw [bne_iff_ne]; omega
      rw [decide_eq_false g, Bool.false_and]
      clear g
      simp (disch := first | decide | omega | (simp only [LN]; omega) | (simp only [LN]; done) | fail) only [SV, f34, Nat.zero_add, Nat.reduceAdd, Bool.and_self, beq_self_eq_true, Nat.reduceBEq, V.own, V.own1, Bool.or_self, V.new, V.new1, D.flat, Bool.or_true, V.flatV, V.flat1, Bool.not_true, Bool.and_false, Bool.false_and, view, viewD, p, Bool.false_eq_true, if_false, evBin, intBin, if_true, evLen, e, V.refs, decide_true, oneOr, finV, finA, finC]
  have b9 := beqF k9
  rw [if_neg k9]
  by_cases k10 : kd = 10
  · subst k10
    rw [if_pos rfl]
    have a := h58 s
    clear k1 k2 k3 k4 k5 k11 k6 k7 k8 k9
    generalize resv s = x at a ⊢
    simp (disch := first | decide | omega | (simp only [LN]; omega) | (simp only [LN]; done) | fail) only [SV, f34, Nat.zero_add, Nat.reduceAdd, Bool.and_self, beq_self_eq_true, Nat.reduceBEq, V.own, V.own1, Bool.or_self, V.new, V.new1, D.flat, Bool.or_true, V.flatV, V.flat1, Bool.not_true, Bool.and_false, Bool.false_and, view, viewD, p, Bool.false_eq_true, if_false, evBin, intBin, if_true, a, V.refs, decide_true, oneOr, finV, finA, finC]
  have b10 := beqF k10
  rw [if_neg k10]
  clear k1 k2 k3 k4 k5 k11 k6 k7 k8 k9 k10
  simp (disch := first | decide | omega | (simp only [LN]; omega) | (simp only [LN]; done) | fail) only [SV, f34, Nat.zero_add, Nat.reduceAdd, Bool.and_self, beq_self_eq_true, Nat.reduceBEq, V.own, V.own1, Bool.or_self, V.new, V.new1, D.flat, Bool.or_true, V.flatV, V.flat1, Bool.not_true, Bool.and_false, Bool.false_and, view, viewD, p, Bool.false_eq_true, if_false, evBin, intBin, b1, if_true, b2, b3, b4, b5, b11, b6, b7, b8, b9, b10, V.refs, decide_true, oneOr, finV, finA, finC]
theorem ev_Is (K : Cx) (h34 : K34 K) (t : Tok) (ht : t.text.length ≤ 4611686018427387903) : runFun K f19 [vT t] [] = some (vT1 (isS t), [], []) := by
  have a := h34 t.kind t.text ht
  obtain ⟨kd, tx, nm, q⟩ := t
  simp only at a ht
  unfold isS
  simp only
  generalize formedS kd tx = x at a ⊢
  by_cases k7 : kd = 7
  · subst k7
    rw [if_pos rfl]
    cases x <;> simp (disch := first | decide | omega | (simp only [LN]; omega) | (simp only [LN]; done) | fail) only [SV, f19, vT, Nat.zero_add, beq_self_eq_true, V.laid, V.cells, Nat.reduceAdd, if_true, Nat.reduceBEq, Bool.and_self, evFa, Nat.add_zero, List.getElem?_cons_zero, V.own, V.own1, Bool.or_self, V.new, V.new1, D.flat, Bool.or_true, V.flatV, V.flat1, Bool.not_true, Bool.and_false, Bool.false_and, view, viewD, a, Bool.false_eq_true, if_false, evBin, intBin, V.refs, decide_true, oneOr, finV, finA, finC, Bool.true_and]
  · have b7 := beqF k7
    rw [if_neg k7]
    clear k7
    by_cases k6 : kd = 6
    · subst k6
      rw [if_pos rfl]
      cases x <;> simp (disch := first | decide | omega | (simp only [LN]; omega) | (simp only [LN]; done) | fail) only [SV, f19, vT, Nat.zero_add, beq_self_eq_true, V.laid, V.cells, Nat.reduceAdd, if_true, Nat.reduceBEq, Bool.and_self, evFa, Nat.add_zero, List.getElem?_cons_zero, V.own, V.own1, Bool.or_self, V.new, V.new1, D.flat, Bool.or_true, V.flatV, V.flat1, Bool.not_true, Bool.and_false, Bool.false_and, view, viewD, a, Bool.false_eq_true, if_false, evBin, intBin, V.refs, decide_true, oneOr, finV, finA, finC, Bool.true_and]
    · have b6 := beqF k6
      rw [if_neg k6]
      clear k6
      cases x <;> simp (disch := first | decide | omega | (simp only [LN]; omega) | (simp only [LN]; done) | fail) only [SV, f19, vT, Nat.zero_add, beq_self_eq_true, V.laid, V.cells, Nat.reduceAdd, if_true, Nat.reduceBEq, Bool.and_self, evFa, Nat.add_zero, List.getElem?_cons_zero, V.own, V.own1, Bool.or_self, V.new, V.new1, D.flat, Bool.or_true, V.flatV, V.flat1, Bool.not_true, Bool.and_false, Bool.false_and, view, viewD, a, Bool.false_eq_true, if_false, evBin, intBin, b6, b7, V.refs, decide_true, oneOr, finV, finA, finC, Bool.true_and]
end Go.Vm
end

section
namespace Go.Vm
set_option maxRecDepth 20000
/- 'sloth/slothref01.tens' -/
def f35_L0 : C :=
 (.seq
  (.seq
   (.reg [⟨[], [(5, (.bin .gtr (.sl 0) (.int .i64 9)))], [], none, [0, 3], 2, [], [], []⟩])
   (.cond (.sl 5)
    .skip
    (.seq
     (.tidy 0 [0, 3])
     (.exit 0))))
  (.block 1
   (.seq
    (.reg [⟨[(10, .lits 1 (.cons (.conv .u8 (.bin .add (.int .i64 48) (.bin .rem (.sl 0) (.int .i64 10)))) .nil))], [], [], some (some 12, .app 1 (.sl 10) (.sl 3)), [0], 7, [], [], []⟩, ⟨[], [(3, (.sl 12))], [], none, [0], 1, [], [], []⟩])
    (.reg [⟨[], [(0, (.bin .quo (.sl 0) (.int .i64 10)))], [], none, [3], 3, [], [], []⟩]))))
def f35 : Fun := ⟨
 (.seq
  (.reg [⟨[], [], [(.nilsl 1)], none, [0], 1, [], [], []⟩])
  (.seq
   (.reg [⟨[], [(3, (.nilsl 1))], [], none, [0], 1, [], [], []⟩])
   (.seq
    (.block 0
     (.seq (.tidy 0 [0, 3]) (.loop (.seq (.tidy 0 [0, 3]) f35_L0))))
    (.seq
     (.reg [⟨[(18, .lits 1 (.cons (.conv .u8 (.bin .add (.int .i64 48) (.sl 0))) .nil))], [], [], some (some 20, .app 1 (.sl 18) (.sl 3)), [], 6, [], [], []⟩, ⟨[], [(2, (.sl 20))], [], none, [], 1, [], [], []⟩])
     (.seq
      (.tidy 0 [2])
      .ret))))),
 [(.sl 2)], false⟩
theorem f35_ok : funOk Go.Proofs.Tryd.prog 35 0 1 f35 = true := by kernel_rfl

/- 'sloth/slothref01.told' -/
def f36 : Fun := ⟨
 (.seq
  (.reg [⟨[], [], [(.nilsl 1)], none, [0, 1], 1, [], [], []⟩])
  (.seq
   (.block 0
    (.seq
     (.reg [⟨[], [(5, (.bin .eql (.sl 0) (.int .i64 10)))], [], none, [0, 1], 3, [], [], []⟩])
     (.cond (.sl 5)
      (.seq
       (.reg [⟨[(8, .lits 1 (.cons (.int .u8 92) (.cons (.int .u8 110) .nil)))], [(4, (.sl 8))], [], none, [], 2, [], [], []⟩])
       (.seq
        (.tidy 0 [4])
        .ret))
      (.seq
       (.reg [⟨[], [(9, (.bin .eql (.sl 0) (.int .i64 9)))], [], none, [0, 1], 3, [], [], []⟩])
       (.cond (.sl 9)
        (.seq
         (.reg [⟨[(12, .lits 1 (.cons (.int .u8 92) (.cons (.int .u8 116) .nil)))], [(4, (.sl 12))], [], none, [], 2, [], [], []⟩])
         (.seq
          (.tidy 0 [4])
          .ret))
        (.seq
         (.reg [⟨[], [(13, (.or (.bin .eql (.sl 0) (.int .i64 92)) (.bin .eql (.sl 0) (.conv .i64 (.sl 1)))))], [], none, [0], 9, [], [], []⟩])
         (.cond (.sl 13)
          (.seq
           (.reg [⟨[(24, .lits 1 (.cons (.int .u8 92) (.cons (.conv .u8 (.sl 0)) .nil)))], [(4, (.sl 24))], [], none, [], 4, [], [], []⟩])
           (.seq
            (.tidy 0 [4])
            .ret))
          (.seq
           (.reg [⟨[], [(25, (.and (.bin .geq (.sl 0) (.int .i64 32)) (.bin .leq (.sl 0) (.int .i64 126))))], [], none, [0], 7, [], [], []⟩])
           (.cond (.sl 25)
            (.seq
             (.reg [⟨[(34, .lits 1 (.cons (.conv .u8 (.sl 0)) .nil))], [(4, (.sl 34))], [], none, [], 4, [], [], []⟩])
             (.seq
              (.tidy 0 [4])
              .ret))
            .skip)))))))))
   (.seq
    (.reg [⟨[(48, .lits 1 (.cons (.int .u8 92) (.cons (.conv .u8 (.bin .add (.int .i64 48) (.bin .quo (.sl 0) (.int .i64 100)))) (.cons (.conv .u8 (.bin .add (.int .i64 48) (.bin .rem (.bin .quo (.sl 0) (.int .i64 10)) (.int .i64 10)))) (.cons (.conv .u8 (.bin .add (.int .i64 48) (.bin .rem (.sl 0) (.int .i64 10)))) .nil)))))], [(4, (.sl 48))], [], none, [], 15, [], [], []⟩])
    (.seq
     (.tidy 0 [4])
     .ret)))),
 [(.sl 4)], false⟩
theorem f36_ok : funOk Go.Proofs.Tryd.prog 36 0 2 f36 = true := by kernel_rfl


abbrev slB (l : BS) : V := .d true (.sl 1 (l.map eU8))
def K36 (K : Cx) : Prop := ∀ c q : UInt8, K.call 36 [vI c.toNat, vB q] = some (slB (escB q c), [])
def K35 (K : Cx) : Prop := ∀ n : Nat, n ≤ 4611686018427387903 → K.call 35 [vI n] = some (slB (Lib.decDigits n), [])
theorem dig3 : ∀ c : UInt8, (Lib.itoa (1000 + c.toNat)).drop 1 = [UInt8.ofNat (48 + c.toNat / 100), UInt8.ofNat (48 + c.toNat / 10 % 10), UInt8.ofNat (48 + c.toNat % 10)] := u8all (by decide +kernel)
theorem eDig {a : Nat} (h : a ≤ 9) : eU8 (UInt8.ofNat (48 + a)) = [.int .u8 (48 + (a : Int))] := by
  have : a = 0 ∨ a = 1 ∨ a = 2 ∨ a = 3 ∨ a = 4 ∨ a = 5 ∨ a = 6 ∨ a = 7 ∨ a = 8 ∨ a = 9 := by omega
  rcases this with rfl | rfl | rfl | rfl | rfl | rfl | rfl | rfl | rfl | rfl <;> rfl
theorem w8 : ∀ c : UInt8, IntKind.u8.wrap (c.toNat : Int) = c.toNat := u8all (by decide +kernel)
theorem w64 : ∀ c : UInt8, IntKind.i64.wrap (c.toNat : Int) = c.toNat := u8all (by decide +kernel)
theorem w48 {a : Nat} (h : a ≤ 9) : IntKind.u8.wrap (48 + (a : Int)) = 48 + (a : Int) := by
  have : a = 0 ∨ a = 1 ∨ a = 2 ∨ a = 3 ∨ a = 4 ∨ a = 5 ∨ a = 6 ∨ a = 7 ∨ a = 8 ∨ a = 9 := by omega
  rcases this with rfl | rfl | rfl | rfl | rfl | rfl | rfl | rfl | rfl | rfl <;> decide
theorem ev_told (K : Cx) (c q : UInt8) : runFun K f36 [vI c.toNat, vB q] [] = some (slB (escB q c), [], []) := by
  have hc : c.toNat < 256 := c.toNat_lt
  unfold slB escB
  by_cases g1 : c = 10
  · have g1' := u8y 10 rfl g1
    rw [if_pos g1]
    clear g1
    simp (disch := first | decide | omega | (simp only [LN]; omega) | (simp only [LN]; done) | fail) only [SV, f36, g1', Nat.zero_add, Nat.reduceAdd, Bool.and_self, beq_self_eq_true, Nat.reduceBEq, evBin, intBin, if_true, V.laid, V.cell, V.cells, decide_true, asD, V.new1, D.flat, Bool.or_true, V.refs, not_false_eq_true, and_self, Bool.or_false, cond_true, oneOr, Bool.false_eq_true, if_false, finV, finA, finC, hNew, V.forget, V.drop1, V.ref0, Bool.not_false, V.newR, viewD, Nat.le_refl, eU8, Prod.mk.injEq, and_true]
    rfl
  have g1' := u8n 10 rfl g1
  rw [if_neg g1]
  by_cases g2 : c = 9
  · have g2' := u8y 9 rfl g2
    rw [if_pos g2]
    clear g1 g2
    simp (disch := first | decide | omega | (simp only [LN]; omega) | (simp only [LN]; done) | fail) only [SV, f36, g2', Nat.zero_add, Nat.reduceAdd, Bool.and_self, beq_self_eq_true, Nat.reduceBEq, evBin, intBin, if_true, V.laid, V.cell, V.cells, decide_true, asD, V.new1, D.flat, Bool.or_true, V.refs, not_false_eq_true, and_self, Bool.or_false, cond_true, oneOr, Bool.false_eq_true, if_false, finV, finA, finC, hNew, V.forget, V.drop1, V.ref0, Bool.not_false, V.newR, viewD, Nat.le_refl, eU8, Prod.mk.injEq, and_true]
    rfl
  have g2' := u8n 9 rfl g2
  rw [if_neg g2]
  by_cases g3 : c = 92
  · have g3' := u8y 92 rfl g3
    rw [if_pos (Or.inl g3)]
    clear g1 g2
    subst g3
    simp (disch := first | decide | omega | (simp only [LN]; omega) | (simp only [LN]; done) | fail) only [SV, f36, Nat.zero_add, Nat.reduceAdd, Bool.and_self, beq_self_eq_true, Nat.reduceBEq, evBin, intBin, if_true, eq_t, e_conv, evConv, w64, Bool.true_or, w8, V.laid, V.cell, V.cells, decide_true, asD, V.new1, D.flat, Bool.or_true, V.refs, not_false_eq_true, and_self, Bool.or_false, cond_true, oneOr, Bool.false_eq_true, if_false, finV, finA, finC, hNew, V.forget, V.drop1, V.ref0, Bool.not_false, V.newR, viewD, Nat.le_refl, eU8, Prod.mk.injEq, and_true]
    rfl
  have g3' := u8n 92 rfl g3
  by_cases g4 : c = q
  · rw [if_pos (Or.inr g4)]
    subst g4
    clear g1 g2 g3
    simp (disch := first | decide | omega | (simp only [LN]; omega) | (simp only [LN]; done) | fail) only [SV, f36, Nat.zero_add, Nat.reduceAdd, Bool.and_self, beq_self_eq_true, Nat.reduceBEq, evBin, intBin, if_true, e_conv, evConv, Bool.or_true, w8, V.laid, V.cell, V.cells, decide_true, asD, V.new1, D.flat, V.refs, not_false_eq_true, and_self, Bool.or_false, cond_true, oneOr, Bool.false_eq_true, if_false, finV, finA, finC, hNew, V.forget, V.drop1, V.ref0, Bool.not_false, V.newR, viewD, Nat.le_refl, eU8, Prod.mk.injEq, and_true]
    rfl
  have g4' : ((c.toNat : Int) == (q.toNat : Int)) = false := by rw [beq_eq_false_iff_ne, ne_eq, u8eq]; exact g4
  rw [if_neg (by rintro (h | h); exact g3 h; exact g4 h)]
  clear g1 g2 g3 g4
  by_cases g5 : 32 ≤ c.toNat ∧ c.toNat ≤ 126
  · obtain ⟨h1, h2⟩ := g5
    rw [if_pos ⟨h1, h2⟩]
    have e1 : (32 : Int) ≤ c.toNat := by omega
    have e2 : (c.toNat : Int) ≤ 126 := by omega
    simp (disch := first | decide | omega | (simp only [LN]; omega) | (simp only [LN]; done) | fail) only [SV, f36, Nat.zero_add, Nat.reduceAdd, Bool.and_self, beq_self_eq_true, Nat.reduceBEq, evBin, intBin, if_true, e_conv, evConv, w64, g4', Bool.or_self, decide_true, w8, V.laid, V.cell, V.cells, asD, V.new1, D.flat, Bool.or_true, V.refs, not_false_eq_true, and_self, Bool.or_false, cond_true, oneOr, Bool.false_eq_true, if_false, finV, finA, finC, hNew, V.forget, V.drop1, V.ref0, Bool.not_false, V.newR, viewD, Nat.le_refl, eU8]
  · rw [if_neg g5, dig3]
    have a1 : (c.toNat : Int).tdiv 100 = ((c.toNat / 100 : Nat) : Int) := rfl
    have a2 : (c.toNat : Int).tdiv 10 = ((c.toNat / 10 : Nat) : Int) := rfl
    have a3 : ((c.toNat / 10 : Nat) : Int).tmod 10 = ((c.toNat / 10 % 10 : Nat) : Int) := rfl
    have a4 : (c.toNat : Int).tmod 10 = ((c.toNat % 10 : Nat) : Int) := rfl
    have b1 : c.toNat / 100 ≤ 9 := by omega
    have b2 : c.toNat / 10 % 10 ≤ 9 := by omega
    have b3 : c.toNat % 10 ≤ 9 := by omega
    have b4 : c.toNat / 10 ≤ 25 := by omega
    have d1 := eDig b1
    have d2 := eDig b2
    have d3 := eDig b3
    have e5 : (decide ((32 : Int) ≤ c.toNat) && decide ((c.toNat : Int) ≤ 126)) = false := by
      rw [Bool.and_eq_false_iff]
      by_cases h : 32 ≤ c.toNat
      · exact .inr (decide_eq_false (by omega))
      · exact .inl (decide_eq_false (by omega))
    have v1 := w48 b1
    have v2 := w48 b2
    have v3 := w48 b3
    rw [List.map_cons, List.map_cons, List.map_cons, List.map_cons, List.map_nil, d1, d2, d3]
    clear d1 d2 d3
    generalize c.toNat / 100 = x1 at *
    generalize c.toNat / 10 % 10 = x2 at *
    generalize c.toNat / 10 = x4 at *
    generalize c.toNat % 10 = x3 at *
    by_cases h1 : (32 : Int) ≤ c.toNat
    · have h2 : ¬ (c.toNat : Int) ≤ 126 := by omega
      clear e5 g5
      simp (disch := first | decide | omega | (simp only [LN]; omega) | (simp only [LN]; done) | fail) only [SV, f36, Nat.zero_add, Nat.reduceAdd, Bool.and_self, beq_self_eq_true, Nat.reduceBEq, evBin, intBin, if_true, e_conv, evConv, w64, g4', Bool.or_self, decide_true, decide_false, Bool.and_false, Int.reduceEq, a1, if_false, v1, a2, a3, v2, a4, v3, V.laid, V.cell, V.cells, asD, V.new1, D.flat, Bool.or_true, V.refs, not_false_eq_true, and_self, Bool.or_false, cond_true, oneOr, Bool.false_eq_true, finV, finA, finC, hNew, V.forget, V.drop1, V.ref0, Bool.not_false, V.newR, viewD, Nat.le_refl, Prod.mk.injEq, and_true]
      rfl
    · clear e5 g5
      simp (disch := first | decide | omega | (simp only [LN]; omega) | (simp only [LN]; done) | fail) only [SV, f36, Nat.zero_add, Nat.reduceAdd, Bool.and_self, beq_self_eq_true, Nat.reduceBEq, evBin, intBin, if_true, e_conv, evConv, w64, g4', Bool.or_self, decide_false, decide_true, Bool.and_true, Int.reduceEq, a1, if_false, v1, a2, a3, v2, a4, v3, V.laid, V.cell, V.cells, asD, V.new1, D.flat, Bool.or_true, V.refs, not_false_eq_true, and_self, Bool.or_false, cond_true, oneOr, Bool.false_eq_true, finV, finA, finC, hNew, V.forget, V.drop1, V.ref0, Bool.not_false, V.newR, viewD, Nat.le_refl, Prod.mk.injEq, and_true]
      rfl

def tnSt (n : Nat) : BS → S
  | [] => ⟨[(0, vI n), (3, .fs true 1 [])], [], 0, []⟩
  | b => ⟨[(0, vI n), (3, .bsl 0 0 b.length)], [(0, .dat true 1 (b.map eU8))], 1, []⟩
theorem tnSt_nil (n) : tnSt n [] = ⟨[(0, vI n), (3, .fs true 1 [])], [], 0, []⟩ := rfl
theorem tnSt_ne (n) {b : BS} (h : b ≠ []) : tnSt n b = ⟨[(0, vI n), (3, .bsl 0 0 b.length)], [(0, .dat true 1 (b.map eU8))], 1, []⟩ := by
  cases b with
  | nil => exact absurd rfl h
  | cons a l => rfl
theorem tnSt_cons (n) (x : UInt8) (b : BS) : tnSt n (x :: b) = ⟨[(0, vI n), (3, .bsl 0 0 (b.length + 1))], [(0, .dat true 1 (eU8 x :: b.map eU8))], 1, []⟩ := rfl
theorem tens_loop (K : Cx) : ∀ (k n : Nat) (b : BS), n < 10 ^ k → n ≤ 4611686018427387903 → b.length + k ≤ 100 →
    ∃ m b', m ≤ 9 ∧ lp K 0 [0, 3] f35_L0 (tnSt n b) = some (.exit 0, tnSt m b') ∧ UInt8.ofNat (48 + m) :: b' = Lib.decDigits n ++ b ∧ b'.length ≤ 100 := by
  intro k
  induction k with
  | zero =>
    intro n b h1 h2 h3
    have : n = 0 := by rw [Nat.pow_zero] at h1; omega
    subst this
    refine ⟨0, b, by omega, ?_, by rw [Lib.decDigits, dif_pos (by omega)]; rfl, by omega⟩
    by_cases g : b = []
    · subst g
      rw [tnSt_nil, lp_un f35_L0.eq_1]
      simp (disch := first | decide | omega | (simp only [LN]; omega) | (simp only [LN]; done) | fail) only [SV, Int.natCast_zero, beq_self_eq_true, evBin, intBin, decide_false, if_true, Nat.reduceBEq, V.refs, decide_true, Bool.and_self]
    · rw [tnSt_ne _ g, lp_un f35_L0.eq_1]
      clear g
      simp (disch := first | decide | omega | (simp only [LN]; omega) | (simp only [LN]; done) | fail) only [SV, Int.natCast_zero, beq_self_eq_true, evBin, intBin, decide_false, if_true, Nat.reduceBEq, V.refs, not_false_eq_true, and_self, decide_true, Bool.and_self, Bool.or_false, cond_true, Nat.zero_add]
  | succ k ih =>
    intro n b h1 h2 h3
    by_cases hn : n ≤ 9
    · refine ⟨n, b, hn, ?_, by rw [Lib.decDigits, dif_pos (by omega)]; rfl, by omega⟩
      clear ih h1
      by_cases g : b = []
      · subst g
        rw [tnSt_nil, lp_un f35_L0.eq_1]
        simp (disch := first | decide | omega | (simp only [LN]; omega) | (simp only [LN]; done) | fail) only [SV, beq_self_eq_true, evBin, intBin, decide_false, if_true, Nat.reduceBEq, V.refs, decide_true, Bool.and_self]
      · rw [tnSt_ne _ g, lp_un f35_L0.eq_1]
        clear g
        simp (disch := first | decide | omega | (simp only [LN]; omega) | (simp only [LN]; done) | fail) only [SV, beq_self_eq_true, evBin, intBin, decide_false, if_true, Nat.reduceBEq, V.refs, not_false_eq_true, and_self, decide_true, Bool.and_self, Bool.or_false, cond_true, Nat.zero_add]
    · obtain ⟨m, b', c1, c2, c3, c4⟩ := ih (n / 10) (UInt8.ofNat (48 + n % 10) :: b) (by rw [Nat.pow_succ] at h1; omega) (by omega) (by simp only [List.length_cons]; omega)
      refine ⟨m, b', c1, ?_, ?_, c4⟩
      · rw [← c2]
        clear c2 c3 ih h1
        have a1 : (n : Int).tmod 10 = ((n % 10 : Nat) : Int) := rfl
        have a2 : (n : Int).tdiv 10 = ((n / 10 : Nat) : Int) := rfl
        have hx : n % 10 ≤ 9 := by omega
        have hy : n / 10 ≤ 461168601842738790 := by omega
        have v1 := w48 hx
        rw [tnSt_cons, eDig hx]
        generalize n % 10 = x at *
        generalize n / 10 = y at *
        by_cases g : b = []
        · subst g
          rw [tnSt_nil, lp_un f35_L0.eq_1]
          simp (disch := first | decide | omega | (simp only [LN]; omega) | (simp only [LN]; done) | fail) only [SV, beq_self_eq_true, evBin, intBin, decide_true, if_true, Nat.reduceBEq, e_conv, Int.reduceEq, a1, if_false, evConv, v1, V.laid, V.cell, V.cells, Nat.zero_add, Bool.and_self, asD, V.new1, D.flat, Bool.or_true, rows_fs0, Nat.add_zero, lose, V.forget, V.drop1, beq_iff_eq, V.ref0, a2, V.refs, not_false_eq_true, and_self, Bool.or_false, cond_true]
        · rw [tnSt_ne _ g, lp_un f35_L0.eq_1]
          clear g
          simp (disch := first | decide | omega | (simp only [LN]; omega) | (simp only [LN]; done) | fail) only [SV, beq_self_eq_true, evBin, intBin, decide_true, if_true, Nat.reduceBEq, e_conv, Int.reduceEq, a1, if_false, evConv, v1, V.laid, V.cell, V.cells, Nat.zero_add, Bool.and_self, asD, V.new1, D.flat, Bool.or_true, Nat.reduceAdd, Nat.le_refl, Bool.true_or, lose, V.forget, V.drop1, beq_iff_eq, V.ref0, a2, V.refs, not_false_eq_true, and_self, Bool.or_false, cond_true]
          rw [Nat.add_comm 1]
      · rw [c3]
        conv => rhs; rw [Lib.decDigits, dif_neg (by omega)]
        simp
theorem ev_tens (K : Cx) (n : Nat) (hn : n ≤ 4611686018427387903) : runFun K f35 [vI n] [] = some (slB (Lib.decDigits n), [], []) := by
  obtain ⟨m, b, c1, c2, c3, c4⟩ := tens_loop K 20 n [] (by omega) hn (by simp)
  rw [tnSt_nil] at c2
  rw [List.append_nil] at c3
  rw [← c3]
  have v1 := w48 c1
  have e1 := eDig c1
  unfold slB
  rw [List.map_cons, e1]
  clear c3 e1
  by_cases g : b = []
  · subst g
    rw [tnSt_nil] at c2
    simp (disch := first | decide | omega | (simp only [LN]; omega) | (simp only [LN]; done) | fail) only [SV, f35, Nat.zero_add, Bool.and_self, beq_self_eq_true, Nat.reduceBEq, V.refs, decide_true, if_true, c2, e_conv, evBin, intBin, evConv, v1, V.laid, V.cell, V.cells, asD, V.new1, D.flat, Bool.or_true, rows_fs0, Nat.add_zero, lose, V.forget, V.drop1, beq_iff_eq, V.ref0, not_false_eq_true, and_self, Bool.or_false, cond_true, oneOr, Bool.false_eq_true, if_false, finV, finA, finC, hNew, Bool.not_false, V.newR, viewD, Nat.le_refl]
  · rw [tnSt_ne _ g] at c2
    clear g
    simp (disch := first | decide | omega | (simp only [LN]; omega) | (simp only [LN]; done) | fail) only [SV, f35, Nat.zero_add, Bool.and_self, beq_self_eq_true, Nat.reduceBEq, V.refs, decide_true, if_true, c2, e_conv, evBin, intBin, evConv, v1, V.laid, V.cell, V.cells, asD, V.new1, D.flat, Bool.or_true, Nat.reduceAdd, Nat.le_refl, Bool.true_or, lose, V.forget, V.drop1, beq_iff_eq, V.ref0, not_false_eq_true, and_self, Bool.or_false, cond_true, oneOr, Bool.false_eq_true, if_false, finV, finA, finC, hNew, Bool.not_false, V.newR, viewD]
end Go.Vm
end

section
namespace Go.Vm
set_option maxRecDepth 20000
/- 'sloth/slothref01.written' -/
def f20_L0 : C :=
 (.seq
  (.seq
   (.reg [⟨[], [(35, (.and (.bin .lss (.sl 5) (.len true (.ld 1 false (.fa 1 (.sl 1))))) (.bin .leq (.len false (.sl 4)) (.int .i64 65536))))], [], none, [1, 4, 5], 10, [], [], []⟩])
   (.cond (.sl 35)
    .skip
    (.seq
     (.tidy 0 [4])
     (.exit 1))))
  (.seq
   (.block 2
    (.reg [⟨[], [], [], some (some 45, .app 1 (.sl 4) (.call 36 (.cons (.conv .i64 (.ix (.ld 1 false (.fa 1 (.sl 1))) (.sl 5))) (.cons (.int .u8 34) .nil)))), [1, 5], 8, [], [], []⟩, ⟨[], [(4, (.sl 45))], [], none, [1, 5], 1, [], [], []⟩]))
   (.reg [⟨[], [(5, (.bin .add (.sl 5) (.int .i64 1)))], [], none, [1, 4], 3, [], [], []⟩])))
def f20 : Fun := ⟨
 (.seq
  (.reg [⟨[(1, .box (.sl 0))], [], [(.nilsl 1)], none, [1], 2, [], [], []⟩])
  (.seq
   (.seq
    (.reg [⟨[], [(7, (.ld 1 false (.fa 0 (.sl 1))))], [], none, [1], 2, [], [], []⟩])
    (.block 0
     (.seq
      (.reg [⟨[], [(8, (.bin .eql (.sl 7) (.int .i64 6)))], [], none, [1, 7], 2, [], [], []⟩])
      (.cond (.sl 8)
       (.seq
        (.reg [⟨[], [(2, (.call 35 (.cons (.ld 1 false (.fa 2 (.sl 1))) .nil)))], [], none, [], 4, [], [], []⟩])
        (.seq
         (.tidy 0 [2])
         .ret))
       (.seq
        (.reg [⟨[], [(13, (.bin .eql (.sl 7) (.int .i64 7)))], [], none, [1, 7], 2, [], [], []⟩])
        (.cond (.sl 13)
         (.seq
          (.reg [⟨[(15, .lits 1 (.cons (.int .u8 39) .nil))], [], [], some (some 19, .app 1 (.sl 15) (.call 36 (.cons (.ld 1 false (.fa 2 (.sl 1))) (.cons (.int .u8 39) .nil)))), [], 5, [], [], []⟩, ⟨[], [(3, (.sl 19))], [], none, [], 1, [], [], []⟩])
          (.seq
           (.reg [⟨[(21, .lits 1 (.cons (.int .u8 39) .nil))], [], [], some (some 22, .app 1 (.sl 3) (.sl 21)), [], 3, [], [], []⟩, ⟨[], [(2, (.sl 22))], [], none, [], 1, [], [], []⟩])
           (.seq
            (.tidy 0 [2])
            .ret)))
         (.seq
          (.reg [⟨[], [(23, (.bin .eql (.sl 7) (.int .i64 8)))], [], none, [1], 2, [], [], []⟩])
          (.cond (.sl 23)
           (.seq
            (.reg [⟨[(25, .lits 1 (.cons (.int .u8 34) .nil))], [(4, (.sl 25))], [], none, [1], 2, [], [], []⟩])
            (.seq
             (.seq
              (.reg [⟨[], [(5, (.int .i64 0))], [], none, [1, 4], 1, [], [], []⟩])
              (.block 1
               (.seq (.tidy 0 [1, 4, 5]) (.loop (.seq (.tidy 0 [1, 4, 5]) f20_L0)))))
             (.seq
              (.reg [⟨[(47, .lits 1 (.cons (.int .u8 34) .nil))], [], [], some (some 48, .app 1 (.sl 4) (.sl 47)), [], 3, [], [], []⟩, ⟨[], [(2, (.sl 48))], [], none, [], 1, [], [], []⟩])
              (.seq
               (.tidy 0 [2])
               .ret))))
           .skip))))))))
   (.seq
    .stuck
    (.seq
     (.tidy 0 [2])
     .ret)))),
 [(.sl 2)], false⟩
theorem f20_ok : funOk Go.Proofs.Tryd.prog 20 0 1 f20 = true := by kernel_rfl


def strL : BS → BS → BS
  | b, [] => b
  | b, c :: r => if b.length ≤ 65536 then strL (b ++ escB 34 c) r else b
def writR (t : Tok) : BS :=
  if t.kind = 6 then Lib.decDigits t.num.toNat
  else if t.kind = 7 then 39 :: escB 39 (UInt8.ofNat t.num.toNat) ++ [39]
  else if t.kind = 8 then strL [34] t.text ++ [34]
  else t.text
def okR (t : Tok) : Prop := t.text.length ≤ 4611686018427387903 ∧ 0 ≤ t.num ∧ (t.kind = 6 → t.num ≤ 4611686018427387903) ∧ (t.kind = 7 → t.num ≤ 255)
def K20 (K : Cx) : Prop := ∀ t : Tok, okR t → K.call 20 [vT t] = some (slB (writR t), [])

theorem str_loop (K : Cx) (h36 : K36 K) (t : Tok) (ht : t.text.length ≤ 4611686018427387903) : ∀ (r : BS) (k : Nat) (b : BS), t.text.drop k = r → k ≤ t.text.length → b ≠ [] → b.length ≤ 65540 →
    (strL b r).length ≤ 65540 ∧ strL b r ≠ [] ∧ lp K 0 [1, 4, 5] f20_L0 ⟨[(1, .ptr 0 0 0), (4, .bsl 1 0 b.length), (5, vI k)], [(0, .mix 4 [[vI t.kind, vS t.text, vI t.num, vI t.at_]]), (1, .dat true 1 (b.map eU8))], 2, []⟩ =
      some (.exit 1, ⟨[(4, .bsl 0 0 (strL b r).length)], [(0, .dat true 1 ((strL b r).map eU8))], 1, []⟩) := by
  intro r
  induction r with
  | nil =>
    intro k b hd hk hb hl
    have hx := congrArg List.length hd
    rw [List.length_drop, List.length_nil] at hx
    refine ⟨hl, hb, ?_⟩
    simp only [strL]
    rw [lp_un f20_L0.eq_1]
    clear hb
    simp (disch := first | decide | omega | (simp only [LN]; omega) | (simp only [LN]; done) | fail) only [SV, Nat.reduceBEq, beq_self_eq_true, evFa, Nat.zero_add, List.getElem?_cons_zero, evLen, evBin, intBin, decide_false, if_true, Bool.false_and, V.refs, not_false_eq_true, and_self, decide_true, Bool.and_self, Bool.or_false, cond_true]
  | cons c r ih =>
    intro k b hd hk hb hl
    have hx := congrArg List.length hd
    rw [List.length_drop, List.length_cons] at hx
    have hn := nth_bAt (s := t.text) (i := k) (by omega)
    have hn2 : nth t.text (k : Int) = c := by rw [hn, hd]; rfl
    have h : K.call 36 [vI c.toNat, .d false (.int .u8 34)] = some (.d true (.sl 1 ((escB 34 c).map eU8)), []) := h36 c 34
    have he := escB_len 34 c
    simp only [strL]
    by_cases g : b.length ≤ 65536
    · have ih := ih (k + 1) (b ++ escB 34 c) (by rw [dd, hd]; rfl) (by omega) (by simp [hb]) (by rw [List.length_append]; omega)
      rw [if_pos g]
      refine ⟨ih.1, ih.2.1, ?_⟩
      rw [← ih.2.2]
      clear ih hn hd hb
      rw [lp_un f20_L0.eq_1]
      rw [List.map_append, List.length_append]
      generalize escB 34 c = x at *
      simp (disch := first | decide | omega | (simp only [LN]; omega) | (simp only [LN]; done) | fail) only [SV, Nat.reduceBEq, beq_self_eq_true, evFa, Nat.zero_add, List.getElem?_cons_zero, evLen, evBin, intBin, decide_true, if_true, Bool.and_self, e_conv, hn2, evConv, w64, V.own, V.own1, Bool.or_self, V.new, V.new1, D.flat, Bool.or_true, V.flatV, V.flat1, Bool.not_true, Bool.and_false, Bool.false_and, view, viewD, h, Bool.or_false, Bool.false_eq_true, if_false, Bool.true_or, lose, V.forget, V.drop1, beq_iff_eq, V.ref0, reduceCtorEq, cast1, V.refs, or_self, not_false_eq_true, and_self, cond_false, cond_true, Nat.reduceAdd]
    · rw [if_neg g]
      refine ⟨hl, hb, ?_⟩
      clear ih hn hd hb
      rw [lp_un f20_L0.eq_1]
      simp (disch := first | decide | omega | (simp only [LN]; omega) | (simp only [LN]; done) | fail) only [SV, Nat.reduceBEq, beq_self_eq_true, evFa, Nat.zero_add, List.getElem?_cons_zero, evLen, evBin, intBin, decide_true, if_true, decide_false, Bool.and_false, V.refs, not_false_eq_true, and_self, Bool.and_self, Bool.or_false, cond_true]
theorem ev_writtenR (K : Cx) (h35 : K35 K) (h36 : K36 K) (t : Tok) (ht : okR t) (hk : t.kind = 6 ∨ t.kind = 7 ∨ t.kind = 8) : runFun K f20 [vT t] [] = some (slB (writR t), [], []) := by
  obtain ⟨t1, t2, t3, t4⟩ := ht
  unfold writR
  by_cases k6 : t.kind = 6
  · rw [if_pos k6]
    have h := h35 t.num.toNat (by have := t3 k6; omega)
    rw [show ((t.num.toNat : Nat) : Int) = t.num from by omega] at h
    obtain ⟨kd, tx, nm, q⟩ := t
    simp only at k6 h ⊢
    subst k6
    clear t1 t2 t3 t4 hk
    generalize Lib.decDigits nm.toNat = x at *
    simp (disch := first | decide | omega | (simp only [LN]; omega) | (simp only [LN]; done) | fail) only [SV, f20, vT, Nat.zero_add, beq_self_eq_true, V.laid, V.cells, Nat.reduceAdd, if_true, Nat.reduceBEq, Bool.and_self, evFa, Nat.add_zero, List.getElem?_cons_zero, evBin, intBin, V.own, V.own1, Bool.or_self, V.new, V.new1, D.flat, Bool.or_true, V.flatV, V.flat1, Bool.not_true, Bool.and_false, Bool.false_and, view, viewD, h, Bool.or_false, Bool.false_eq_true, if_false, V.refs, decide_true, oneOr, finV, finA, finC]
  · have b6 := beqF k6
    rw [if_neg k6]
    by_cases k7 : t.kind = 7
    · rw [if_pos k7]
      have hm := t4 k7
      have h : K.call 36 [vI (UInt8.ofNat t.num.toNat).toNat, .d false (.int .u8 39)] = some (.d true (.sl 1 ((escB 39 (UInt8.ofNat t.num.toNat)).map eU8)), []) := h36 (UInt8.ofNat t.num.toNat) 39
      have e : ((UInt8.ofNat t.num.toNat).toNat : Int) = t.num := by
        rw [UInt8.toNat_ofNat']
        omega
      rw [e] at h
      obtain ⟨kd, tx, nm, q⟩ := t
      simp only at k7 h t2 hm ⊢
      subst k7
      clear t1 t3 t4 hk k6 e
      have he := escB_len 39 (UInt8.ofNat nm.toNat)
      generalize escB 39 (UInt8.ofNat nm.toNat) = x at *
      unfold slB
      rw [List.cons_append, List.map_cons, List.map_append]
      simp (disch := first | decide | omega | (simp only [LN]; omega) | (simp only [LN]; done) | fail) only [SV, f20, vT, Nat.zero_add, beq_self_eq_true, V.laid, V.cells, Nat.reduceAdd, if_true, Nat.reduceBEq, Bool.and_self, evFa, Nat.add_zero, List.getElem?_cons_zero, evBin, intBin, V.cell, decide_true, asD, V.new1, D.flat, Bool.or_true, V.own, V.own1, Bool.or_self, V.new, V.flatV, V.flat1, Bool.not_true, Bool.and_false, Bool.false_and, view, viewD, h, Bool.or_false, Bool.false_eq_true, if_false, Bool.true_or, lose, V.forget, V.drop1, beq_iff_eq, V.ref0, Nat.le_refl, V.refs, not_false_eq_true, and_self, cond_true, oneOr, finV, finA, finC, hNew, Bool.not_false, V.newR, List.length_append, Prod.mk.injEq, and_true]
      rfl
    · have b7 := beqF k7
      have k8 : t.kind = 8 := by
        rcases hk with h | h | h
        · exact absurd h k6
        · exact absurd h k7
        · exact h
      rw [if_neg k7, if_pos k8]
      obtain ⟨l1, l2, w⟩ := str_loop K h36 t t1 t.text 0 [34] rfl (by omega) (by simp) (by simp)
      obtain ⟨kd, tx, nm, q⟩ := t
      simp only at k8 w t1 l1 l2 ⊢
      subst k8
      clear t2 t3 t4 hk k6 k7
      rw [Int.natCast_zero] at w
      generalize strL [34] tx = x at *
      unfold slB
      rw [List.map_append]
      have w' : lp K 0 [1, 4, 5] f20_L0 ⟨[(1, .ptr 0 0 0), (4, .bsl 1 0 1), (5, vI 0)], [(0, .mix 4 [[vI 8, vS tx, vI nm, vI q]]), (1, .dat true 1 [[.int .u8 34]])], 2, []⟩ =
          some (.exit 1, ⟨[(4, .bsl 0 0 x.length)], [(0, .dat true 1 (x.map eU8))], 1, []⟩) := w
      clear w
      simp (disch := first | decide | omega | (simp only [LN]; omega) | (simp only [LN]; done) | fail) only [SV, f20, vT, Nat.zero_add, beq_self_eq_true, V.laid, V.cells, Nat.reduceAdd, if_true, Nat.reduceBEq, Bool.and_self, evFa, Nat.add_zero, List.getElem?_cons_zero, evBin, intBin, V.cell, decide_true, asD, V.new1, D.flat, Bool.or_true, V.refs, Bool.or_self, reduceCtorEq, or_self, not_false_eq_true, and_self, Bool.or_false, cond_false, cond_true, w', Nat.le_refl, lose, V.forget, V.drop1, beq_iff_eq, V.ref0, oneOr, Bool.false_eq_true, if_false, finV, finA, finC, hNew, Bool.not_false, V.newR, viewD, List.length_append, Prod.mk.injEq, and_true]
      rfl
end Go.Vm
end

section
namespace Go.Vm
set_option maxRecDepth 20000
/- 'sloth/slothref01.Print' -/
def f10_L0 : C :=
 (.seq
  (.seq
   (.reg [⟨[], [(15, (.bin .lss (.sl 4) (.len false (.sl 0))))], [], none, [0, 4], 4, [], [], []⟩])
   (.cond (.sl 15)
    .skip
    (.seq
     (.tidy 0 [0])
     (.exit 0))))
  (.seq
   (.block 1
    (.seq
     (.reg [⟨[], [(5, (.call 19 (.cons (.ld 4 true (.ia 4 (.sl 0) (.sl 4))) .nil)))], [], none, [0, 4], 6, [], [], []⟩])
     (.seq
      (.reg [⟨[], [(24, (.un .not (.sl 5)))], [], none, [0, 4], 2, [], [], []⟩])
      (.cond (.sl 24)
       (.seq
        (.reg [⟨[], [(2, (.str [])), (3, (.int .i64 1))], [], none, [], 2, [], [], []⟩])
        (.seq
         (.tidy 0 [2, 3])
         .ret))
       .skip))))
   (.reg [⟨[], [(4, (.bin .add (.sl 4) (.int .i64 1)))], [], none, [0], 3, [], [], []⟩])))
def f10_L1 : C :=
 (.seq
  (.seq
   (.reg [⟨[], [(28, (.bin .lss (.sl 7) (.len false (.sl 0))))], [], none, [0, 6, 7], 4, [], [], []⟩])
   (.cond (.sl 28)
    .skip
    (.seq
     (.tidy 0 [6])
     (.exit 2))))
  (.seq
   (.block 3
    (.seq
     (.seq
      (.reg [⟨[], [(32, (.bin .gtr (.sl 7) (.int .i64 0)))], [], none, [0, 6, 7], 2, [], [], []⟩])
      (.cond (.sl 32)
       (.reg [⟨[(34, .lits 1 (.cons (.int .u8 32) .nil))], [], [], some (some 35, .app 1 (.sl 6) (.sl 34)), [0, 7], 3, [], [], []⟩, ⟨[], [(6, (.sl 35))], [], none, [0, 7], 1, [], [], []⟩])
       .skip))
     (.seq
      (.reg [⟨[], [(8, (.call 20 (.cons (.ld 4 true (.ia 4 (.sl 0) (.sl 7))) .nil)))], [], none, [0, 6, 7], 6, [], [], []⟩])
      (.seq
       (.seq
        (.reg [⟨[], [(46, (.bin .gtr (.bin .add (.len false (.sl 6)) (.len false (.sl 8))) (.int .i64 65536)))], [], none, [0, 6, 7, 8], 6, [], [], []⟩])
        (.cond (.sl 46)
         (.seq
          (.reg [⟨[], [(2, (.str [])), (3, (.int .i64 4))], [], none, [], 2, [], [], []⟩])
          (.seq
           (.tidy 0 [2, 3])
           .ret))
         .skip))
       (.reg [⟨[], [], [], some (some 49, .app 1 (.sl 6) (.sl 8)), [0, 7], 3, [], [], []⟩, ⟨[], [(6, (.sl 49))], [], none, [0, 7], 1, [], [], []⟩])))))
   (.reg [⟨[], [(7, (.bin .add (.sl 7) (.int .i64 1)))], [], none, [0, 6], 3, [], [], []⟩])))
def f10 : Fun := ⟨
 (.seq
  (.reg [⟨[], [], [(.int .i64 0), (.str [])], none, [0], 2, [], [], []⟩])
  (.seq
   (.seq
    (.reg [⟨[], [(11, (.bin .gtr (.len false (.sl 0)) (.int .i64 20000)))], [], none, [0], 3, [], [], []⟩])
    (.cond (.sl 11)
     (.seq
      (.reg [⟨[], [(2, (.str [])), (3, (.int .i64 2))], [], none, [], 2, [], [], []⟩])
      (.seq
       (.tidy 0 [2, 3])
       .ret))
     .skip))
   (.seq
    (.seq
     (.reg [⟨[], [(4, (.int .i64 0))], [], none, [0], 1, [], [], []⟩])
     (.block 0
      (.seq (.tidy 0 [0, 4]) (.loop (.seq (.tidy 0 [0, 4]) f10_L0)))))
    (.seq
     (.reg [⟨[], [(6, (.nilsl 1))], [], none, [0], 1, [], [], []⟩])
     (.seq
      (.seq
       (.reg [⟨[], [(7, (.int .i64 0))], [], none, [0, 6], 1, [], [], []⟩])
       (.block 2
        (.seq (.tidy 0 [0, 6, 7]) (.loop (.seq (.tidy 0 [0, 6, 7]) f10_L1)))))
      (.seq
       (.reg [⟨[], [(2, (.b2s (.sl 6))), (3, (.int .i64 0))], [], none, [], 4, [], [], []⟩])
       (.seq
        (.tidy 0 [2, 3])
        .ret))))))),
 [(.sl 2), (.sl 3)], false⟩
theorem f10_ok : funOk Go.Proofs.Tryd.prog 10 0 1 f10 = true := by kernel_rfl


def prR : BS → Nat → List Tok → Option BS
  | b, _, [] => some b
  | b, i, t :: l =>
    if 65536 < (if 0 < i then b ++ [32] else b).length + (writR t).length then none
    else prR ((if 0 < i then b ++ [32] else b) ++ writR t) (i + 1) l
def printR (l : List Tok) : BS × Int :=
  if 20000 < l.length then ([], 2)
  else if l.all isS then (match prR [] 0 l with | some b => (b, 0) | none => ([], 4))
  else ([], 1)
def printRV (l : List Tok) : V := .tup [vS (printR l).1, vI (printR l).2]
def K10 (K : Cx) : Prop := ∀ l : List Tok, TokL l → K.call 10 [slT l] = some (printRV l, [])

theorem named_ne {b : Bool} : namedS [] b = false := by cases b <;> rfl
theorem formed_ne {kd : Int} {s : BS} (h : formedS kd s = true) (h6 : kd ≠ 6) (h7 : kd ≠ 7) (h8 : kd ≠ 8) : s ≠ [] := by
  rintro rfl
  unfold formedS at h
  split at h
  · rw [named_ne] at h; cases h
  · split at h
    · rw [named_ne] at h; cases h
    · split at h
      · simp [ptN] at h
      · split at h
        · simp [ptN] at h
        · split at h
          · simp at h
          · split at h
            · rename_i g; rcases g with g | g
              · exact h6 g
              · exact h7 g
            · split at h
              · simp at h
              · split at h
                · simp [resv, words] at h
                · cases h
theorem strL_ne : ∀ (r b : BS), b ≠ [] → strL b r ≠ []
  | [], b, h => h
  | c :: r, b, h => by
    simp only [strL]
    split
    · exact strL_ne r _ (by simp [h])
    · exact h
theorem strL_len : ∀ (r b : BS), b.length ≤ 65540 → (strL b r).length ≤ 65540
  | [], b, h => h
  | c :: r, b, h => by
    have := escB_len 34 c
    simp only [strL]
    split
    · exact strL_len r _ (by rw [List.length_append]; omega)
    · exact h
theorem writR_len {t : Tok} (h : okR t) (hl : t.text.length ≤ 2000000) : (writR t).length ≤ 3000000 := by
  unfold writR
  split
  · rename_i h6
    have := h.2.2.1 h6
    have := decDigits_le 19 t.num.toNat (by omega)
    omega
  · split
    · have := escB_len 39 (UInt8.ofNat t.num.toNat)
      simp only [List.length_cons, List.length_append, List.length_nil]
      omega
    · split
      · have := strL_len t.text [34] (by simp)
        simp only [List.length_cons, List.length_append, List.length_nil]
        omega
      · omega
theorem writR_ne {t : Tok} (h : isS t = true) : writR t ≠ [] := by
  unfold isS at h
  simp only [Bool.and_eq_true] at h
  unfold writR
  split
  · rw [Lib.decDigits]
    split <;> simp
  · rename_i h6
    split
    · simp
    · rename_i h7
      split
      · simp
      · rename_i h8
        exact formed_ne h.1.1 h6 h7 h8
theorem okR_of {t : Tok} (h : isS t = true) (hl : t.text.length ≤ 4611686018427387903) : okR t := by
  unfold isS at h
  simp only [Bool.and_eq_true, decide_eq_true_eq] at h
  obtain ⟨⟨_, h2⟩, h3⟩ := h
  refine ⟨hl, h2, fun hk => ?_, fun hk => ?_⟩
  · rw [if_neg (by omega), if_pos hk] at h3; exact h3
  · rw [if_pos hk] at h3; exact h3

theorem ref_check (K : Cx) (h19 : K19 K) (l : List Tok) (hl : TokL l) : ∀ (r : List Tok) (k : Nat), l.drop k = r → k ≤ l.length →
    lp K 0 [0, 4] f10_L0 ⟨[(0, slT l), (4, vI k)], [], 0, []⟩ = some (if r.all isS then (.exit 0, ⟨[(0, slT l)], [], 0, []⟩) else (.ret, ⟨[(2, vS []), (3, vI 1)], [], 0, []⟩)) := by
  have hlen := hl.1
  intro r
  induction r with
  | nil =>
    intro k hd hk
    have hx := congrArg List.length hd
    rw [List.length_drop, List.length_nil] at hx
    rw [List.all_nil, if_pos rfl, lp_un f10_L0.eq_1]
    simp (disch := first | decide | omega | (simp only [LN]; omega) | (simp only [LN]; done) | fail) only [SV, Nat.reduceBEq, beq_self_eq_true, evLen, evBin, intBin, decide_false, if_true, V.refs, decide_true, Bool.and_self]
  | cons t r ih =>
    intro k hd hk
    obtain ⟨n1, n2, n3, n4⟩ := nthT hd
    have h := h19 t (by have := (hl.2 t n4).len; omega)
    have ih := ih (k + 1) n3 (by omega)
    rw [lp_un f10_L0.eq_1]
    unfold vT at h
    cases g : isS t with
    | true =>
      rw [g] at h
      rw [List.all_cons, g, Bool.true_and, ← ih]
      clear ih
      simp (disch := first | decide | omega | (simp only [LN]; omega) | (simp only [LN]; done) | fail) only [SV, Nat.reduceBEq, beq_self_eq_true, evLen, evBin, intBin, decide_true, if_true, eTok, n2, D.flat, Nat.zero_add, Nat.reduceAdd, Nat.le_refl, V.own, V.own1, Bool.or_self, V.new, V.new1, Bool.or_true, Bool.and_self, V.flatV, V.flat1, Bool.not_true, Bool.and_false, Bool.false_and, view, viewD, h, Bool.false_eq_true, if_false, evUn, cast1, V.refs]
    | false =>
      rw [g] at h
      rw [List.all_cons, g, Bool.false_and, if_neg (by simp)]
      clear ih
      simp (disch := first | decide | omega | (simp only [LN]; omega) | (simp only [LN]; done) | fail) only [SV, Nat.reduceBEq, beq_self_eq_true, evLen, evBin, intBin, decide_true, if_true, eTok, n2, D.flat, Nat.zero_add, Nat.reduceAdd, Nat.le_refl, V.own, V.own1, Bool.or_self, V.new, V.new1, Bool.or_true, Bool.and_self, V.flatV, V.flat1, Bool.not_true, Bool.and_false, Bool.false_and, view, viewD, h, Bool.false_eq_true, if_false, evUn, Bool.not_false, V.refs]

def rpSt (l : List Tok) (k : Nat) : BS → S
  | [] => ⟨[(0, slT l), (6, .fs true 1 []), (7, vI k)], [], 0, []⟩
  | b => ⟨[(0, slT l), (6, .bsl 0 0 b.length), (7, vI k)], [(0, .dat true 1 (b.map eU8))], 1, []⟩
theorem rpSt_nil (l k) : rpSt l k [] = ⟨[(0, slT l), (6, .fs true 1 []), (7, vI k)], [], 0, []⟩ := rfl
theorem rpSt_ne (l k) {b : BS} (h : b ≠ []) : rpSt l k b = ⟨[(0, slT l), (6, .bsl 0 0 b.length), (7, vI k)], [(0, .dat true 1 (b.map eU8))], 1, []⟩ := by
  cases b with
  | nil => exact absurd rfl h
  | cons a l => rfl
def rpEnd : Option BS → Ex × S
  | none => (.ret, ⟨[(2, vS []), (3, vI 4)], [], 0, []⟩)
  | some [] => (.exit 2, ⟨[(6, .fs true 1 [])], [], 0, []⟩)
  | some b => (.exit 2, ⟨[(6, .bsl 0 0 b.length)], [(0, .dat true 1 (b.map eU8))], 1, []⟩)
theorem rpEnd_none : rpEnd none = (.ret, ⟨[(2, vS []), (3, vI 4)], [], 0, []⟩) := rfl
theorem rpEnd_nil : rpEnd (some []) = (.exit 2, ⟨[(6, .fs true 1 [])], [], 0, []⟩) := rfl
theorem rpEnd_ne {b : BS} (h : b ≠ []) : rpEnd (some b) = (.exit 2, ⟨[(6, .bsl 0 0 b.length)], [(0, .dat true 1 (b.map eU8))], 1, []⟩) := by
  cases b with
  | nil => exact absurd rfl h
  | cons a l => rfl
theorem rp_loop (K : Cx) (h20 : K20 K) (l : List Tok) (hl : TokL l) (ha : ∀ t ∈ l, isS t = true) : ∀ (r : List Tok) (k : Nat) (b : BS), l.drop k = r → k ≤ l.length → b.length ≤ 65536 → (b = [] ↔ k = 0) →
    lp K 0 [0, 6, 7] f10_L1 (rpSt l k b) = some (rpEnd (prR b k r)) := by
  have hlen := hl.1
  intro r
  induction r with
  | nil =>
    intro k b hd hk hb hk0
    have hx := congrArg List.length hd
    rw [List.length_drop, List.length_nil] at hx
    simp only [prR]
    clear hk0
    by_cases g : b = []
    · subst g
      rw [rpSt_nil, rpEnd_nil, lp_un f10_L1.eq_1]
      simp (disch := first | decide | omega | (simp only [LN]; omega) | (simp only [LN]; done) | fail) only [SV, Nat.reduceBEq, beq_self_eq_true, evLen, evBin, intBin, decide_false, if_true, V.refs, decide_true, Bool.and_self]
    · rw [rpSt_ne _ _ g, rpEnd_ne g, lp_un f10_L1.eq_1]
      clear g
      simp (disch := first | decide | omega | (simp only [LN]; omega) | (simp only [LN]; done) | fail) only [SV, Nat.reduceBEq, beq_self_eq_true, evLen, evBin, intBin, decide_false, if_true, V.refs, not_false_eq_true, and_self, decide_true, Bool.and_self, Bool.or_false, cond_true, Nat.zero_add]
  | cons t r ih =>
    intro k b hd hk hb hk0
    obtain ⟨n1, n2, n3, n4⟩ := nthT hd
    have ht := ha t n4
    have h := h20 t (okR_of ht (by have := (hl.2 t n4).len; omega))
    have hw := writR_ne ht
    have hwu := writR_len (okR_of ht (by have := (hl.2 t n4).len; omega)) (hl.2 t n4).len
    unfold vT slB at h
    simp only [prR]
    generalize writR t = w at h hw hwu ⊢
    have hwl : 1 ≤ w.length := by cases w with | nil => exact absurd rfl hw | cons a b => simp
    by_cases g : b = []
    · have k0 := hk0.1 g
      subst g k0
      simp only [Nat.lt_irrefl, if_false, List.length_nil, Nat.zero_add, List.nil_append]
      by_cases g2 : 65536 < w.length
      · rw [if_pos g2, rpEnd_none, rpSt_nil, lp_un f10_L1.eq_1]
        rw [Int.natCast_zero] at *
        clear ih hk0 hw ht
        simp (disch := first | decide | omega | (simp only [LN]; omega) | (simp only [LN]; done) | fail) only [SV, Nat.reduceBEq, beq_self_eq_true, evLen, evBin, intBin, decide_true, if_true, decide_false, eTok, n2, D.flat, Nat.zero_add, Nat.reduceAdd, Nat.le_refl, V.own, V.own1, Bool.or_self, V.new, V.new1, Bool.or_true, Bool.and_self, V.flatV, V.flat1, Bool.not_true, Bool.and_false, Bool.false_and, view, viewD, h, Bool.or_false, Bool.false_eq_true, if_false, V.refs]
      · rw [if_neg g2, ← ih 1 w n3 (by omega) (by omega) (by simp [hw]), rpSt_ne _ _ hw, rpSt_nil, lp_un f10_L1.eq_1]
        rw [Int.natCast_zero] at *
        clear ih hk0 hw ht
        simp (disch := first | decide | omega | (simp only [LN]; omega) | (simp only [LN]; done) | fail) only [SV, Nat.reduceBEq, beq_self_eq_true, evLen, evBin, intBin, decide_true, if_true, decide_false, eTok, n2, D.flat, Nat.zero_add, Nat.reduceAdd, Nat.le_refl, V.own, V.own1, Bool.or_self, V.new, V.new1, Bool.or_true, Bool.and_self, V.flatV, V.flat1, Bool.not_true, Bool.and_false, Bool.false_and, view, viewD, h, Bool.or_false, Bool.false_eq_true, if_false, Bool.true_or, lose, Int.reduceAdd, V.refs, not_false_eq_true, and_self, cond_true]
        rfl
    · have k0 : 0 < k := by
        rcases Nat.eq_zero_or_pos k with h | h
        · exact absurd (hk0.2 h) g
        · exact h
      simp only [k0, if_true]
      have kI : (0 : Int) < k := by omega
      by_cases g2 : 65536 < (b ++ [32]).length + w.length
      · rw [if_pos g2, rpEnd_none, rpSt_ne _ _ g, lp_un f10_L1.eq_1]
        rw [List.length_append, List.length_singleton] at g2
        clear ih hk0 hw ht g
        simp (disch := first | decide | omega | (simp only [LN]; omega) | (simp only [LN]; done) | fail) only [SV, Nat.reduceBEq, beq_self_eq_true, evLen, evBin, intBin, decide_true, if_true, V.laid, V.cell, V.cells, Nat.zero_add, Bool.and_self, asD, V.new1, D.flat, Bool.or_true, Nat.reduceAdd, Nat.le_refl, Bool.or_self, lose, V.forget, V.drop1, beq_iff_eq, V.ref0, eTok, n2, V.own, V.own1, V.new, V.flatV, V.flat1, Bool.not_true, Bool.and_false, Bool.false_and, view, viewD, h, Bool.or_false, Bool.false_eq_true, if_false, V.refs]
      · rw [if_neg g2, ← ih (k + 1) (b ++ [32] ++ w) n3 (by omega) (by rw [List.length_append]; omega) ⟨fun h => by simp at h, fun h => by omega⟩, rpSt_ne (b := b ++ [32] ++ w) _ _ (by simp), rpSt_ne _ _ g, lp_un f10_L1.eq_1]
        rw [List.length_append, List.length_singleton] at g2
        clear ih hk0 hw ht g
        rw [List.map_append, List.map_append, List.length_append, List.length_append]
        simp (disch := first | decide | omega | (simp only [LN]; omega) | (simp only [LN]; done) | fail) only [SV, Nat.reduceBEq, beq_self_eq_true, evLen, evBin, intBin, decide_true, if_true, V.laid, V.cell, V.cells, Nat.zero_add, Bool.and_self, asD, V.new1, D.flat, Bool.or_true, Nat.reduceAdd, Nat.le_refl, Bool.or_self, lose, V.forget, V.drop1, beq_iff_eq, V.ref0, eTok, n2, V.own, V.own1, V.new, V.flatV, V.flat1, Bool.not_true, Bool.and_false, Bool.false_and, view, viewD, h, Bool.or_false, Bool.false_eq_true, if_false, decide_false, Bool.true_or, cast1, V.refs, not_false_eq_true, and_self, cond_true]
        rfl
theorem ev_PrintR (K : Cx) (h19 : K19 K) (h20 : K20 K) (l : List Tok) (hl : TokL l) : runFun K f10 [slT l] [] = some (printRV l, [], []) := by
  have hlen := hl.1
  unfold printRV printR
  by_cases g : 20000 < l.length
  · simp only [if_pos g]
    simp (disch := first | decide | omega | (simp only [LN]; omega) | (simp only [LN]; done) | fail) only [SV, f10, Nat.zero_add, Bool.and_self, beq_self_eq_true, evLen, evBin, intBin, decide_true, if_true, Nat.reduceBEq, V.refs, oneOr, Bool.false_eq_true, if_false, finV, finA, finC]
  · simp only [if_neg g]
    have c := ref_check K h19 l hl l 0 rfl (by omega)
    rw [Int.natCast_zero] at c
    cases ha : l.all isS with
    | false =>
      rw [ha, if_neg (by simp)] at c
      simp only [Bool.false_eq_true, if_false]
      clear ha
      simp (disch := first | decide | omega | (simp only [LN]; omega) | (simp only [LN]; done) | fail) only [SV, f10, Nat.zero_add, Bool.and_self, beq_self_eq_true, evLen, evBin, intBin, decide_false, if_true, Nat.reduceBEq, V.refs, decide_true, c, oneOr, Bool.false_eq_true, if_false, finV, finA, finC]
    | true =>
      rw [ha, if_pos rfl] at c
      simp only [if_true]
      have w := rp_loop K h20 l hl (fun t ht => List.all_eq_true.1 ha t ht) l 0 [] rfl (by omega) (by simp) (by simp)
      rw [rpSt_nil, Int.natCast_zero] at w
      clear ha
      cases hp : prR [] 0 l with
      | none =>
        rw [hp, rpEnd_none] at w
        clear hp
        simp (disch := first | decide | omega | (simp only [LN]; omega) | (simp only [LN]; done) | fail) only [SV, f10, Nat.zero_add, Bool.and_self, beq_self_eq_true, evLen, evBin, intBin, decide_false, if_true, Nat.reduceBEq, V.refs, decide_true, c, w, oneOr, Bool.false_eq_true, if_false, finV, finA, finC]
      | some b =>
        rw [hp] at w
        simp only
        clear hp
        by_cases g2 : b = []
        · subst g2
          rw [rpEnd_nil] at w
          have hb := b2s_nil []
          simp (disch := first | decide | omega | (simp only [LN]; omega) | (simp only [LN]; done) | fail) only [SV, f10, Nat.zero_add, Bool.and_self, beq_self_eq_true, evLen, evBin, intBin, decide_false, if_true, Nat.reduceBEq, V.refs, decide_true, c, w, e_b2s, hb, oneOr, Bool.false_eq_true, if_false, finV, finA, finC]
        · rw [rpEnd_ne g2] at w
          have hb := b2s_bsl [(0, .dat true 1 (b.map eU8))] 0 b.length true b rfl rfl
          clear g2
          simp (disch := first | decide | omega | (simp only [LN]; omega) | (simp only [LN]; done) | fail) only [SV, f10, Nat.zero_add, Bool.and_self, beq_self_eq_true, evLen, evBin, intBin, decide_false, if_true, Nat.reduceBEq, V.refs, decide_true, c, w, e_b2s, hb, oneOr, Bool.false_eq_true, if_false, finV, finA, finC]
end Go.Vm
end

section
namespace Go.Vm

theorem named_t {x : BS} : namedS x true = true ↔ nameL x = x.length ∧ cls x = 2 := by simp [namedS]
theorem named_f {x : BS} : namedS x false = true ↔ nameL x = x.length ∧ cls x = 1 ∧ resv x = false := by simp [namedS]
theorem resv_name : ∀ x : BS, resv x = true → cls x = 1 ∧ nameL x = x.length := by
  intro x h
  have h' : x ∈ words := by simpa [resv] using h
  have all : ∀ w ∈ words, cls w = 1 ∧ nameL w = w.length := by decide +kernel
  exact all x h'
theorem cl4 : ∀ c : UInt8, clB c = 4 → c = 39 ∨ c = 95 := u8all (by decide +kernel)
theorem cl6 : ∀ c : UInt8, clB c ≤ 7 := u8all (by decide +kernel)
theorem cl46 : ∀ c : UInt8, (1 ≤ clB c ∧ clB c ≤ 4) → c ≠ 46 := u8all (by decide +kernel)
theorem run_cls {x : BS} (h0 : x ≠ []) (h : runL 5 x = x.length) : cls x = 5 := by
  cases x with
  | nil => exact absurd rfl h0
  | cons c r =>
    simp only [runL, List.length_cons] at h
    split at h
    · assumption
    · omega
theorem cls_pos {x : BS} (h : cls x ≠ 0) : x ≠ [] := by rintro rfl; exact h rfl
theorem inNm_iff {c : UInt8} {r : BS} : inNm (c :: r) = true ↔ 1 ≤ clB c ∧ clB c ≤ 4 := by
  unfold inNm
  rw [Bool.and_eq_true, decide_eq_true_iff, decide_eq_true_iff]
  exact Iff.rfl
theorem name_pt : ∀ x : BS, nameL x ≤ ptN x
  | [] => Nat.le_refl _
  | c :: r => by
    have := name_pt r
    simp only [nameL, ptN]
    split
    · rename_i h
      have h1 : 1 ≤ clB c ∧ clB c ≤ 4 := inNm_iff.1 h
      rw [if_neg (cl46 c h1)]
      omega
    · omega
theorem pt_at : ∀ x : BS, ptN x < x.length → x.drop (ptN x) = 46 :: x.drop (ptN x + 1)
  | [], h => by simp at h
  | c :: r, h => by
    simp only [ptN, List.length_cons] at h ⊢
    by_cases g : c = 46
    · simp only [g, if_true, List.drop_zero, Nat.zero_add, List.drop_succ_cons]
    · simp only [if_neg g] at h ⊢
      simp only [List.drop_succ_cons]
      exact pt_at r (by omega)
theorem pt_of : ∀ x : BS, bAt (x.drop (nameL x)) = 46 → ptN x = nameL x
  | [], h => rfl
  | c :: r, h => by
    simp only [nameL, ptN] at h ⊢
    by_cases g : inNm (c :: r) = true
    · rw [if_pos g] at h ⊢
      have h1 : 1 ≤ clB c ∧ clB c ≤ 4 := inNm_iff.1 g
      rw [if_neg (cl46 c h1)]
      rw [List.drop_succ_cons] at h
      rw [pt_of r h]
    · rw [if_neg g] at h ⊢
      rw [List.drop_zero] at h
      have h' : c = 46 := h
      rw [if_pos h']
theorem name_at {x : BS} {p : Nat} (h : nameL (x.take p) = p) (hp : p ≤ x.length) (h46 : bAt (x.drop p) = 46) : nameL x = p := by
  have e := nameL_take x p
  rw [h] at e
  have h1 : p ≤ nameL x := by omega
  have h2 := name_pt x
  rcases Nat.lt_or_ge p (nameL x) with g | g
  · exfalso
    have e2 := nameL_take x (p + 1)
    have e3 : nameL (x.take (p + 1)) = p + 1 := by omega
    have hl := nameL_le x
    have e4 : ∀ (z : BS) (k : Nat), k < nameL z → 1 ≤ cls (z.drop k) ∧ cls (z.drop k) ≤ 4 := by
      intro z
      induction z with
      | nil => intro k hk; simp [nameL] at hk
      | cons c r ih =>
        intro k hk
        simp only [nameL] at hk
        split at hk
        · rename_i hc
          cases k with
          | zero => simpa [inNm] using hc
          | succ k => exact ih k (by omega)
        · omega
    have e5 := e4 x p g
    have e6 : ∀ z : BS, bAt z = 46 → ¬ (1 ≤ cls z ∧ cls z ≤ 4) := by
      intro z hz hc
      cases z with
      | nil => exact absurd hz (by decide)
      | cons c r => exact cl46 c hc hz
    exact e6 _ h46 e5
  · omega

def Whole (kd : Int) (x : BS) : Prop := ¬ (cls x = 5 ∧ dsh x = true) ∧ cls x ≠ 3 ∧ cls x ≠ 0 ∧ cls x ≠ 7 ∧ bAt x ≠ 39 ∧ ∃ k t m, tokS x = .tok k t m x.length ∧ (k : Int) = kd
theorem bAt_cls {x : BS} {c : UInt8} (h : bAt x = c) (hc : c ≠ 0) : cls x = clB c := by
  cases x with
  | nil => exact absurd h.symm hc
  | cons a r => have h' : a = c := h; subst h'; rfl
theorem whole1 {x : BS} (h1 : cls x = 1) : Whole (if resv (x.take (nameL x)) then 10 else 1) x ↔ nameL x = x.length := by
  have hb : bAt x ≠ 39 := fun h => by have := bAt_cls h (by decide); rw [h1] at this; exact absurd this (by decide)
  have ht : tokS x = .tok (if resv (x.take (nameL x)) then 10 else 1) (x.take (nameL x)) 0 (nameL x) := by unfold tokS; rw [if_pos h1]
  constructor
  · rintro ⟨_, _, _, _, _, k, t, m, h, _⟩
    rw [ht] at h
    injection h
  · intro h
    refine ⟨by omega, by omega, by omega, by omega, hb, _, _, _, by rw [ht, h], ?_⟩
    rw [h]; split <;> rfl
theorem whole_kd {x : BS} {kd : Int} {k : Nat} {t : BS} {m : Int} {n : Nat} (ht : tokS x = .tok k t m n) (h : Whole kd x) : (k : Int) = kd ∧ n = x.length := by
  obtain ⟨_, _, _, _, _, k', t', m', h, hk⟩ := h
  rw [ht] at h
  injection h with a b c d
  subst a
  exact ⟨hk, d⟩

theorem formed_whole {x : BS} {kd : Int} (h6 : kd ≠ 6) (h7 : kd ≠ 7) (h8 : kd ≠ 8) (h : formedS kd x = true) : Whole kd x := by
  have hx := formed_ne h h6 h7 h8
  have hl : 1 ≤ x.length := by cases x with | nil => exact absurd rfl hx | cons a b => simp
  unfold formedS at h
  split at h
  · rename_i hk
    obtain ⟨a, b, c⟩ := named_f.1 h
    have := (whole1 b).2 a
    rw [a, List.take_length, c] at this
    rw [hk]; exact this
  · split at h
    · rename_i hk
      obtain ⟨a, b⟩ := named_t.1 h
      have hb : bAt x ≠ 39 := fun h => by have := bAt_cls h (by decide); rw [b] at this; exact absurd this (by decide)
      have hu : upS x = (2, nameL x) := by
        unfold upS
        simp only
        rw [if_pos (.inl (by omega))]
      refine ⟨by omega, by omega, by omega, by omega, hb, 2, x.take (nameL x), 0, ?_, by rw [hk]; rfl⟩
      unfold tokS
      rw [if_neg (by omega), if_pos b, hu]
      simp only [a]
    · split at h
      · rename_i hk
        simp only [Bool.and_eq_true, decide_eq_true_eq] at h
        obtain ⟨hp, ha, hc⟩ := h
        obtain ⟨a1, a2⟩ := named_t.1 ha
        obtain ⟨c1, c2, c3⟩ := named_f.1 hc
        rw [List.length_take, Nat.min_eq_left (by omega)] at a1
        have h46 := pt_at x hp
        have hp1 : 1 ≤ ptN x := by
          rcases Nat.eq_zero_or_pos (ptN x) with g | g
          · rw [g, List.take_zero] at a2; cases a2
          · exact g
        have hcl : cls x = 2 := by rw [← cls_take x hp1]; exact a2
        have hn := name_at a1 (by omega) (by rw [h46]; rfl)
        have hb : bAt x ≠ 39 := fun h => by have := bAt_cls h (by decide); rw [hcl] at this; exact absurd this (by decide)
        rw [List.length_drop] at c1
        have hlt : ptN x + 1 < x.length := by
          have := nameL_pos (inNm_cls (r := x.drop (ptN x + 1)) (by omega))
          omega
        have hu : upS x = (3, x.length) := by
          unfold upS
          simp only [hn]
          rw [if_neg (by rw [h46]; simp [bAt]; omega), if_pos c2, c1, List.take_of_length_le (by rw [List.length_drop]; omega), c3]
          simp only [Bool.false_eq_true, if_false, Prod.mk.injEq, true_and]
          omega
        refine ⟨by omega, by omega, by omega, by omega, hb, 3, x.take x.length, 0, ?_, by rw [hk]; rfl⟩
        unfold tokS
        rw [if_neg (by omega), if_pos hcl, hu]
      · split at h
        · rename_i hk
          simp only [Bool.and_eq_true, decide_eq_true_eq] at h
          obtain ⟨hp, ha, hc⟩ := h
          obtain ⟨a1, a2⟩ := named_t.1 ha
          obtain ⟨c1, c2⟩ := named_t.1 hc
          rw [List.length_take, Nat.min_eq_left (by omega)] at a1
          have h46 := pt_at x hp
          have hp1 : 1 ≤ ptN x := by
            rcases Nat.eq_zero_or_pos (ptN x) with g | g
            · rw [g, List.take_zero] at a2; cases a2
            · exact g
          have hcl : cls x = 2 := by rw [← cls_take x hp1]; exact a2
          have hn := name_at a1 (by omega) (by rw [h46]; rfl)
          have hb : bAt x ≠ 39 := fun h => by have := bAt_cls h (by decide); rw [hcl] at this; exact absurd this (by decide)
          rw [List.length_drop] at c1
          have hlt : ptN x + 1 < x.length := by
            have := nameL_pos (inNm_cls (r := x.drop (ptN x + 1)) (by omega))
            omega
          have hu : upS x = (4, x.length) := by
            unfold upS
            simp only [hn]
            rw [if_neg (by rw [h46]; simp [bAt]; omega), if_neg (by omega), if_pos c2, c1]
            simp only [Prod.mk.injEq, true_and]
            omega
          refine ⟨by omega, by omega, by omega, by omega, hb, 4, x.take x.length, 0, ?_, by rw [hk]; rfl⟩
          unfold tokS
          rw [if_neg (by omega), if_pos hcl, hu]
        · split at h
          · rename_i hk
            simp only [Bool.and_eq_true, decide_eq_true_eq] at h
            obtain ⟨_, h1, h2⟩ := h
            have hcl := run_cls hx h1
            have hb : bAt x ≠ 39 := fun h => by have := bAt_cls h (by decide); rw [hcl] at this; exact absurd this (by decide)
            have hd : dsh x = false := by
              cases hd : dsh x with
              | false => rfl
              | true =>
                unfold kindS at h2
                rw [hd, if_pos rfl] at h2
                omega
            have ht : tokS x = opS x := by unfold tokS; rw [hcl]; rfl
            refine ⟨by simp [hd], by omega, by omega, by omega, hb, ?_⟩
            rw [ht]
            unfold kindS at h2
            unfold opS
            simp only [h1, List.take_length]
            rw [hd, if_neg (by simp)] at h2
            split at h2
            · rename_i g
              rw [if_pos g]
              exact ⟨11, x, 0, rfl, h2⟩
            · rename_i g
              rw [if_neg g]
              split at h2
              · omega
              · rename_i g2
                rw [if_neg (by
                  rintro ⟨u1, u2⟩
                  apply g2
                  refine ⟨u1, ?_⟩
                  match x, hx, u1, u2 with
                  | [a], _, u1, u2 => exact absurd (by have : a = 58 := u1; rw [this]) u2
                  | a :: b :: r, _, _, _ => simp)]
                exact ⟨5, x, 0, rfl, h2⟩
          · split at h
            · rename_i hk
              rcases hk with hk | hk
              · exact absurd hk h6
              · exact absurd hk h7
            · split at h
              · rename_i hk
                simp only [Bool.and_eq_true, Bool.or_eq_true, decide_eq_true_eq, spcB] at h
                obtain ⟨h1, h2⟩ := h
                match x, h1, h2 with
                | [c], _, h2 =>
                  rcases h2 with h2 | h2
                  · have hcl : cls [c] = 6 := h2
                    have hb : bAt [c] ≠ 39 := fun h => by have := bAt_cls h (by decide); rw [hcl] at this; exact absurd this (by decide)
                    refine ⟨by omega, by omega, by omega, by omega, hb, 9, [c], 0, ?_, by rw [hk]; rfl⟩
                    unfold tokS
                    rw [hcl]
                    rfl
                  · have : c = 95 := by simpa using h2
                    subst this
                    exact ⟨by decide, by decide, by decide, by decide, by decide, 9, [95], 0, by decide, by rw [hk]; rfl⟩
              · split at h
                · rename_i hk
                  obtain ⟨a, b⟩ := resv_name x h
                  have := (whole1 a).2 b
                  rw [b, List.take_length, h] at this
                  rw [hk]; exact this
                · cases h

theorem whole_formed {x : BS} {kd : Int} (h : Whole kd x) : formedS kd x = true := by
  obtain ⟨w1, w2, w3, w4, w5, k, t, m, ht, hk⟩ := h
  have hx := cls_pos w3
  have hl : 1 ≤ x.length := by cases x with | nil => exact absurd rfl hx | cons a b => simp
  have hle : cls x ≤ 7 := by
    cases x with
    | nil => exact absurd rfl hx
    | cons c r => exact cl6 c
  subst hk
  have hcs : cls x = 1 ∨ cls x = 2 ∨ cls x = 4 ∨ cls x = 5 ∨ cls x = 6 := by omega
  unfold tokS at ht
  rcases hcs with c | c | c | c | c
  · rw [if_pos c] at ht
    injection ht with e1 e2 e3 e4
    rw [e4, List.take_length] at e1
    cases hr : resv x with
    | true =>
      rw [hr, if_pos rfl] at e1
      subst e1
      exact hr
    | false =>
      rw [hr, if_neg (by simp)] at e1
      subst e1
      exact named_f.2 ⟨e4, c, hr⟩
  · rw [if_neg (by omega), if_pos c] at ht
    injection ht with e1 e2 e3 e4
    have two : nameL x = x.length → formedS 2 x = true := fun hn => named_t.2 ⟨hn, c⟩
    have he1 : 1 ≤ nameL x := nameL_pos (inNm_cls (by omega))
    unfold upS at e1 e4
    simp only at e1 e4
    split at e4
    · rename_i g
      rw [if_pos g] at e1
      subst e1
      exact two e4
    · rename_i g
      rw [if_neg g] at e1
      have g46 : bAt (x.drop (nameL x)) = 46 := by
        apply Classical.byContradiction
        intro hc; exact g (.inr hc)
      have glen : ¬ x.length ≤ nameL x + 1 := fun hc => g (.inl hc)
      have hp := pt_of x g46
      have htk : namedS (x.take (nameL x)) true = true := by
        refine named_t.2 ⟨?_, by rw [cls_take x he1]; exact c⟩
        rw [nameL_take, List.length_take]
        omega
      split at e4
      · rename_i g2
        rw [if_pos g2] at e1
        split at e4
        · rename_i g3
          rw [if_pos g3] at e1
          subst e1
          exact two e4
        · rename_i g3
          rw [if_neg g3] at e1
          subst e1
          simp only at e4
          have hr2 : nameL (x.drop (nameL x + 1)) = (x.drop (nameL x + 1)).length := by rw [List.length_drop]; omega
          rw [hr2, List.take_length] at g3
          have hdr : namedS (x.drop (nameL x + 1)) false = true := named_f.2 ⟨hr2, g2, by simpa using g3⟩
          show (decide (ptN x < x.length) && (namedS (x.take (ptN x)) true && namedS (x.drop (ptN x + 1)) false)) = true
          rw [hp, htk, hdr]
          simp; omega
      · rename_i g2
        rw [if_neg g2] at e1
        split at e4
        · rename_i g3
          rw [if_pos g3] at e1
          subst e1
          simp only at e4
          have hr2 : nameL (x.drop (nameL x + 1)) = (x.drop (nameL x + 1)).length := by rw [List.length_drop]; omega
          have hdr : namedS (x.drop (nameL x + 1)) true = true := named_t.2 ⟨hr2, g3⟩
          show (decide (ptN x < x.length) && (namedS (x.take (ptN x)) true && namedS (x.drop (ptN x + 1)) true)) = true
          rw [hp, htk, hdr]
          simp; omega
        · rename_i g3
          rw [if_neg g3] at e1
          subst e1
          exact two e4
  · rw [if_neg (by omega), if_neg (by omega), if_neg (by omega), if_neg (by omega), if_neg (by omega), if_pos c, if_neg w5] at ht
    split at ht
    · cases ht
    · injection ht with e1 e2 e3 e4
      subst e1
      match x, e4, c, w5 with
      | [a], _, c, w5 =>
        rcases cl4 a c with h | h
        · exact absurd h w5
        · subst h; decide
  · rw [if_neg (by omega), if_neg (by omega), if_neg (by omega), if_pos c] at ht
    have hd : dsh x = false := by
      cases hd : dsh x with
      | false => rfl
      | true => exact absurd ⟨c, hd⟩ w1
    unfold opS at ht
    simp only at ht
    have fin : ∀ kd : Int, (kd = 5 ∨ kd = 11) → runL 5 x = x.length → kindS x = kd → formedS kd x = true := by
      intro kd hkd h1 h2
      have e : formedS kd x = (decide (x ≠ []) && (decide (runL 5 x = x.length) && decide (kindS x = kd))) := by
        rcases hkd with rfl | rfl <;> rfl
      rw [e]
      simp [hx, h1, h2]
    split at ht
    · rename_i g
      injection ht with e1 e2 e3 e4
      rw [e4, List.take_length] at g
      subst e1
      refine fin 11 (.inr rfl) e4 ?_
      unfold kindS
      rw [hd, if_neg (by simp), if_pos g]
    · rename_i g
      split at ht
      · cases ht
      · rename_i g2
        injection ht with e1 e2 e3 e4
        rw [e4, List.take_length] at g g2
        subst e1
        refine fin 5 (.inl rfl) e4 ?_
        unfold kindS
        rw [hd, if_neg (by simp), if_neg g, if_neg]
        rintro ⟨u1, u2⟩
        apply g2
        refine ⟨u1, ?_⟩
        intro h; rw [h] at u2; simp at u2
  · rw [if_neg (by omega), if_neg (by omega), if_neg (by omega), if_neg (by omega), if_pos c] at ht
    injection ht with e1 e2 e3 e4
    subst e1
    match x, e4, c with
    | [a], _, c =>
      have : spcB a = true := by unfold spcB; exact decide_eq_true c
      show (decide (([a] : BS).length = 1) && (spcB (bAt [a]) || decide (([a] : BS) = [95]))) = true
      rw [show bAt [a] = a from rfl, this]
      simp

theorem esc_is (t : Tok) : escTokS t = isS t := by
  obtain ⟨kd, x, nm, q⟩ := t
  unfold escTokS isS
  simp only
  by_cases h6 : kd = 6
  · subst h6
    rw [if_pos rfl, if_neg (by omega), if_pos rfl]
    have : formedS 6 x = decide (x = []) := rfl
    rw [this]
  · rw [if_neg h6]
    by_cases h7 : kd = 7
    · subst h7
      rw [if_pos rfl, if_pos rfl]
      have : formedS 7 x = decide (x = []) := rfl
      rw [this]
    · rw [if_neg h7, if_neg h7, if_neg h6]
      by_cases h8 : kd = 8
      · subst h8
        rw [if_pos rfl]
        have : formedS 8 x = true := rfl
        rw [this, Bool.true_and, Bool.eq_iff_iff]
        simp only [decide_eq_true_eq, Bool.and_eq_true]
        omega
      · rw [if_neg h8, Bool.eq_iff_iff]
        simp only [Bool.and_eq_true, decide_eq_true_eq]
        constructor
        · intro h
          split at h
          · cases h
          · rename_i g
            split at h
            · cases h
            · rename_i g2
              split at h
              · rename_i k t m n ht
                simp only [Bool.and_eq_true, decide_eq_true_eq] at h
                obtain ⟨rfl, e2⟩ := h
                have g0 : nm = 0 := by
                  apply Classical.byContradiction
                  intro hc; exact g (.inl hc)
                refine ⟨⟨whole_formed ⟨fun hc => g (.inr (.inr hc)), fun hc => g2 (.inl hc), fun hc => g2 (.inr (.inl hc)), fun hc => g2 (.inr (.inr (.inl hc))), fun hc => g2 (.inr (.inr (.inr hc))), k, t, m, ht, e2⟩, by omega⟩, by omega⟩
              · cases h
        · rintro ⟨⟨h1, h2⟩, h3⟩
          have hw := formed_whole h6 h7 h8 h1
          obtain ⟨w1, w2, w3, w4, w5, k, t, m, ht, hk⟩ := hw
          have hx := cls_pos w3
          rw [if_neg (by
            rintro (hc | hc | hc)
            · omega
            · exact hx hc
            · exact w1 hc), if_neg (by
            rintro (hc | hc | hc | hc)
            · exact w2 hc
            · exact w3 hc
            · exact w4 hc
            · exact w5 hc), ht]
          simp [hk]
end Go.Vm
end

section
namespace Go.Vm

theorem strL_esc : ∀ r b : BS, strL b r = b ++ escL 34 r ∨ (65536 < (strL b r).length ∧ 65536 < (b ++ escL 34 r).length)
  | [], b => .inl (by simp [strL, escL])
  | c :: r, b => by
    simp only [strL, escL]
    by_cases g : b.length ≤ 65536
    · rw [if_pos g]
      have := strL_esc r (b ++ escB 34 c)
      rw [List.append_assoc] at this
      exact this
    · rw [if_neg g]
      exact .inr ⟨by omega, by rw [List.length_append]; omega⟩
theorem writ_eq {t : Tok} (h : okR t) : writR t = writS t ∨ (65536 < (writR t).length ∧ 65536 < (writS t).length) := by
  obtain ⟨h1, h2, h3, h4⟩ := h
  unfold writR writS
  by_cases k6 : t.kind = 6
  · rw [if_pos k6, if_pos k6]
    left
    unfold Lib.itoa
    rw [if_neg (by omega)]
  · rw [if_neg k6, if_neg k6]
    by_cases k7 : t.kind = 7
    · rw [if_pos k7, if_pos k7]
      left
      have := h4 k7
      rw [show t.num % 256 = t.num from by omega]
      simp [escS, escL]
    · rw [if_neg k7, if_neg k7]
      by_cases k8 : t.kind = 8
      · rw [if_pos k8, if_pos k8]
        rcases strL_esc t.text [34] with e | ⟨e1, e2⟩
        · left; rw [e]; simp [escS]
        · right
          simp only [escS, List.length_append, List.length_cons, List.length_nil] at e1 e2 ⊢
          omega
      · rw [if_neg k8, if_neg k8]
        exact .inl rfl
def prO (n : BS) : Option BS := if 65536 < n.length then none else some n
theorem prO_big {n : BS} (h : 65536 < n.length) : prO n = none := if_pos h
theorem prO_ok {n : BS} (h : n.length ≤ 65536) : prO n = some n := if_neg (by omega)
theorem prR_prL : ∀ (l : List Tok) (b : BS) (i : Nat), (∀ t ∈ l, okR t) → b.length ≤ 65536 → prR b i l = prO (prL b i l)
  | [], b, i, _, hb => by simp only [prR, prL]; rw [prO_ok hb]
  | t :: l, b, i, h, hb => by
    simp only [prR, prL]
    generalize (if 0 < i then b ++ [32] else b) = b1
    have hl : ∀ t ∈ l, okR t := fun u hu => h u (List.mem_cons_of_mem _ hu)
    by_cases g : b1.length ≤ 65536
    · rw [if_pos g]
      have m := prL_mono l (b1 ++ writS t) (i + 1)
      rw [List.length_append] at m
      rcases writ_eq (h t (List.mem_cons_self ..)) with e | ⟨e1, e2⟩
      · rw [e]
        by_cases g2 : 65536 < b1.length + (writS t).length
        · rw [if_pos g2, prO_big (by omega)]
        · rw [if_neg g2]
          exact prR_prL l _ _ hl (by rw [List.length_append]; omega)
      · rw [if_pos (by omega), prO_big (by omega)]
    · rw [if_neg g, if_pos (by omega)]
      have m := prL_mono l b1 (i + 1)
      rw [prO_big (by omega)]
theorem print_same {l : List Tok} (hl : TokL l) : printR l = printS l := by
  unfold printR printS
  have e : l.all escTokS = l.all isS := by
    congr 1
    funext t
    exact esc_is t
  rw [e]
  split
  · rfl
  · cases ha : l.all isS with
    | false => rfl
    | true =>
      simp only [if_true]
      rw [prR_prL l [] 0 (fun t ht => okR_of (List.all_eq_true.1 ha t ht) (by have := (hl.2 t ht).len; omega)) (by simp)]
      by_cases g : 65536 < (prL [] 0 l).length
      · rw [prO_big g, if_pos g]
      · rw [prO_ok (by omega), if_neg g]
end Go.Vm
end

section
namespace Go.Vm
open Go.RowKit Go.Shelf Go.Proofs Go.Sort

def GT : Nat → Option (List D)
  | 0 => some (clTab.map fun n => .int .u8 (n : Nat))
  | 2 => some (Lib.pow10Tab.map fun z => .int .u64 z)
  | _ => none

theorem gP10 : Tryd.prog.globalNamed "internal/strconv.uint64pow10" = some 2 := by kernel_rfl

theorem repD_int {w : World} {F : Nat → Prop} {v : Value} {k : IntKind} {n : Int} (h : RepD w F v (.int k n)) : v = .int k n := by
  cases h with | int k n => rfl

theorem tab_of_glob {w : World} {F : Nat → Prop} (h : GlobRel w F GT) : Lib.TabIs Tryd.prog w "internal/strconv.uint64pow10" .u64 Lib.pow10Tab := by
  have hx := h 2 _ rfl
  rw [if_neg (show ¬ isHandle (Lib.pow10Tab.map fun z => D.int .u64 z) = true from fun e => Bool.noConfusion (show false = true from e))] at hx
  obtain ⟨h1, cs, t, fz, h2, h3⟩ := hx
  unfold Lib.TabIs World.var?
  rw [gP10]
  show (match w.heap[2]? with | some (.cells cs _ _) => some cs | _ => none) = _
  rw [h2]
  show some cs = _
  congr 1
  apply Array.ext
  · rw [h3]; simp
  · intro j hj1 hj2
    cases h1 with
    | ptr b o cells g hf hc hr =>
      have hj : j < Lib.pow10Tab.length := by simpa using hj2
      have e : (Lib.pow10Tab.map fun z => D.int .u64 z)[j]? = some (.int .u64 Lib.pow10Tab[j]) := by simp [hj]
      have hv := hr j _ e
      have hg := repD_int hv
      have hcell := hc j _ e
      rw [hg, Nat.zero_add] at hcell
      have : w.cell? ⟨2, j, none⟩ = some cs[j] := by
        rw [Lib.cell_of_heap h2]
        simp [hj1]
      rw [this] at hcell
      simpa using Option.some.inj hcell

theorem nothing_new {w : World} {F : Nat → Prop} {base : Nat} (hF : ∀ b, F b → b < w.heap.size) : HeapRel w F (fun _ _ => False) base (fun _ => none) 0 (indexed []) :=
  ⟨fun b blk h => absurd (show look [] b = some blk from h) (by simp [look]), fun b b' l l' h => (by cases h), fun b l h => (by cases h), hF⟩

def hexd : BS := [48, 49, 50, 51, 52, 53, 54, 55, 56, 57, 97, 98, 99, 100, 101, 102]
theorem ix_hex : ∀ c : UInt8, Lib.indexByte hexd c = hexB c := u8all (by decide +kernel)

theorem pure_index (c : UInt8) : PureCall Tryd.prog GT 85 [vS hexd, .d false (.int .u8 c.toNat)] (vI (hexB c)) [] := by
  intro w F vals hF hG hR
  obtain ⟨hsz, hval⟩ := hR
  obtain ⟨l⟩ := vals
  match l, hsz, hval with
  | [v0, v1], hsz, hval =>
    obtain ⟨t, e0, e0'⟩ := (hval 0 v0 (vS hexd) rfl rfl).str_inv
    have e1 := (hval 1 v1 (.d false (.int .u8 c.toNat)) rfl rfl).int_inv
    subst e0; subst e1
    refine (Tryd.strings_IndexByte t c.toNat w).mono ?_
    rintro e w' ⟨rfl, rfl⟩
    refine ⟨_, F, fun _ => none, rfl, .refl _ _, fun b h => .inl h, ?_, nothing_new hF⟩
    have : (c.toNat : Int).toNat.toUInt8 = c := by simp
    rw [← e0', this, ix_hex]
    exact .d _ _ _ (.int _ _)
  | [], hsz, _ => simp at hsz
  | [_], hsz, _ => simp at hsz
  | _ :: _ :: _ :: _, hsz, _ => simp at hsz

theorem pure_itoa (n : Int) (h0 : -9223372036854775808 ≤ n) (h1 : n ≤ 9223372036854775807) : PureCall Tryd.prog GT 38 [vI n] (vS (Lib.itoa n)) [] := by
  intro w F vals hF hG hR
  obtain ⟨hsz, hval⟩ := hR
  obtain ⟨l⟩ := vals
  match l, hsz, hval with
  | [v0], hsz, hval =>
    have e0 := (hval 0 v0 (vI n) rfl rfl).int_inv
    subst e0
    refine (Tryd.strconv_Itoa n h0 h1 w (tab_of_glob hG)).mono ?_
    rintro e w' ⟨rfl, k, os, rfl⟩
    have hsz : (grow (w.drewN k) os).heap.size = w.heap.size + os.size := by
      show ((w.drewN k).heap ++ os).size = _
      simp
    refine ⟨_, F, fun _ => none, rfl, ⟨rfl, rfl, rfl, by rw [hsz]; omega, fun j hj => ?_⟩, fun b h => .inl h, ?_, nothing_new (fun b h => by rw [hsz]; have := hF b h; omega)⟩
    · show ((w.drewN k).heap ++ os)[j]? = _
      rw [Array.getElem?_append_left (by simpa using hj)]
      simp
    · exact .d _ _ _ (.str ⟨(Lib.itoa n).toArray⟩)
  | [], hsz, _ => simp at hsz
  | _ :: _ :: _, hsz, _ => simp at hsz
end Go.Vm
end

section
namespace Go.Vm
open Go.Shelf Go.Proofs

theorem eTok_inj (a b : Tok) (h : eTok a = eTok b) : a = b := by
  cases a; cases b
  simp only [eTok, List.cons.injEq, D.int.injEq, D.str.injEq, true_and, and_true] at h
  simp only [Tok.mk.injEq]
  exact h
theorem mapT_inj : ∀ l l' : List Tok, l.map eTok = l'.map eTok → l = l'
  | [], [], _ => rfl
  | [], _ :: _, h => by simp at h
  | _ :: _, [], h => by simp at h
  | a :: l, b :: l', h => by
    simp only [List.map_cons, List.cons.injEq] at h
    rw [eTok_inj a b h.1, mapT_inj l l' h.2]
theorem mT (l l' : List Tok) : l.map eTok = l'.map eTok ↔ l = l' := ⟨mapT_inj l l', fun h => by rw [h]⟩
theorem vT_inj (t u : Tok) : vT t = vT u ↔ t = u := by
  constructor
  · intro h
    cases t; cases u
    simp only [vT, V.agg.injEq, List.cons.injEq, V.d.injEq, D.int.injEq, D.str.injEq, true_and, and_true] at h
    simp only [Tok.mk.injEq]
    exact h
  · intro h; rw [h]
theorem lexV_ease (s : BS) : (lexV0 s).ease = lexV s := by
  unfold lexV0 lexV
  split
  · rfl
  · split
    · rename_i h; rw [h]; rfl
    · rename_i h; rw [h]; rfl
    · rename_i h; rw [h]; rfl

noncomputable def z85 : Sp where
  α := UInt8
  f := 85
  ok := fun c => True
  args := fun c => [vS hexd, .d false (.int .u8 (c : UInt8).toNat)]
  res := fun c => (vI (hexB c), [])
  inj := by
    rintro c c' _ _ h
    simp only [vS, vI, slT, vT_inj, List.cons.injEq, V.agg.injEq, V.d.injEq, D.sl.injEq, D.int.injEq, D.str.injEq, D.ptr.injEq, Int.natCast_inj, UInt8.toNat_inj, mT, true_and, and_true] at h
    rw [h]
noncomputable def z38 : Sp where
  α := Int
  f := 38
  ok := fun n => (-9223372036854775808 ≤ n) ∧ (n ≤ 9223372036854775807)
  args := fun n => [vI n]
  res := fun n => (vS (Lib.itoa n), [])
  inj := by
    rintro n n' _ _ h
    simp only [vS, vI, slT, vT_inj, List.cons.injEq, V.agg.injEq, V.d.injEq, D.sl.injEq, D.int.injEq, D.str.injEq, D.ptr.injEq, Int.natCast_inj, UInt8.toNat_inj, mT, true_and, and_true] at h
    rw [h]
noncomputable def z27 : Sp where
  α := BS × Nat
  f := 27
  ok := fun (s, i) => (i ≤ s.length)
  args := fun (s, i) => [vS s, vI i]
  res := fun (s, i) => (.d false (.int .u8 (cls (s.drop i))), [])
  inj := by
    rintro ⟨s, i⟩ ⟨s', i'⟩ _ _ h
    simp only [vS, vI, slT, vT_inj, List.cons.injEq, V.agg.injEq, V.d.injEq, D.sl.injEq, D.int.injEq, D.str.injEq, D.ptr.injEq, Int.natCast_inj, UInt8.toNat_inj, mT, true_and, and_true] at h
    simp only [h]
noncomputable def z30 : Sp where
  α := BS × Nat × Nat
  f := 30
  ok := fun (s, i, k) => (i ≤ s.length) ∧ (s.length ≤ 2000000) ∧ (k ≠ 0)
  args := fun (s, i, k) => [vS s, vI i, .d false (.int .u8 k)]
  res := fun (s, i, k) => (vI ((i + runL k (s.drop i) : Nat)), [])
  inj := by
    rintro ⟨s, i, k⟩ ⟨s', i', k'⟩ _ _ h
    simp only [vS, vI, slT, vT_inj, List.cons.injEq, V.agg.injEq, V.d.injEq, D.sl.injEq, D.int.injEq, D.str.injEq, D.ptr.injEq, Int.natCast_inj, UInt8.toNat_inj, mT, true_and, and_true] at h
    simp only [h]
noncomputable def z48 : Sp where
  α := BS × Nat
  f := 48
  ok := fun (s, i) => (i ≤ s.length)
  args := fun (s, i) => [vS s, vI i]
  res := fun (s, i) => (.d false (.bool (inNm (s.drop i))), [])
  inj := by
    rintro ⟨s, i⟩ ⟨s', i'⟩ _ _ h
    simp only [vS, vI, slT, vT_inj, List.cons.injEq, V.agg.injEq, V.d.injEq, D.sl.injEq, D.int.injEq, D.str.injEq, D.ptr.injEq, Int.natCast_inj, UInt8.toNat_inj, mT, true_and, and_true] at h
    simp only [h]
noncomputable def z42 : Sp where
  α := BS × Nat
  f := 42
  ok := fun (s, i) => (i ≤ s.length) ∧ (s.length ≤ 2000000)
  args := fun (s, i) => [vS s, vI i]
  res := fun (s, i) => (vI ((i + nameL (s.drop i) : Nat)), [])
  inj := by
    rintro ⟨s, i⟩ ⟨s', i'⟩ _ _ h
    simp only [vS, vI, slT, vT_inj, List.cons.injEq, V.agg.injEq, V.d.injEq, D.sl.injEq, D.int.injEq, D.str.injEq, D.ptr.injEq, Int.natCast_inj, UInt8.toNat_inj, mT, true_and, and_true] at h
    simp only [h]
noncomputable def z40 : Sp where
  α := BS × BS
  f := 40
  ok := fun (p, s) => (s.length ≤ 2000000) ∧ (p.length ≤ 2000000)
  args := fun (p, s) => [vS s, vS p]
  res := fun (p, s) => (.d false (.bool (pre p s)), [])
  inj := by
    rintro ⟨p, s⟩ ⟨p', s'⟩ _ _ h
    simp only [vS, vI, slT, vT_inj, List.cons.injEq, V.agg.injEq, V.d.injEq, D.sl.injEq, D.int.injEq, D.str.injEq, D.ptr.injEq, Int.natCast_inj, UInt8.toNat_inj, mT, true_and, and_true] at h
    simp only [h]
noncomputable def z28 : Sp where
  α := BS × BS
  f := 28
  ok := fun (p, s) => (s.length ≤ 2000000) ∧ (p.length ≤ 2000000)
  args := fun (p, s) => [vS s, vS p]
  res := fun (p, s) => (.d false (.bool (pre p s)), [])
  inj := by
    rintro ⟨p, s⟩ ⟨p', s'⟩ _ _ h
    simp only [vS, vI, slT, vT_inj, List.cons.injEq, V.agg.injEq, V.d.injEq, D.sl.injEq, D.int.injEq, D.str.injEq, D.ptr.injEq, Int.natCast_inj, UInt8.toNat_inj, mT, true_and, and_true] at h
    simp only [h]
noncomputable def z43 : Sp where
  α := BS
  f := 43
  ok := fun s => True
  args := fun s => [vS s]
  res := fun s => (.d false (.bool (resv s)), [])
  inj := by
    rintro s s' _ _ h
    simp only [vS, vI, slT, vT_inj, List.cons.injEq, V.agg.injEq, V.d.injEq, D.sl.injEq, D.int.injEq, D.str.injEq, D.ptr.injEq, Int.natCast_inj, UInt8.toNat_inj, mT, true_and, and_true] at h
    rw [h]
noncomputable def z46 : Sp where
  α := BS
  f := 46
  ok := fun s => True
  args := fun s => [vS s]
  res := fun s => (.d false (.bool (isSg s)), [])
  inj := by
    rintro s s' _ _ h
    simp only [vS, vI, slT, vT_inj, List.cons.injEq, V.agg.injEq, V.d.injEq, D.sl.injEq, D.int.injEq, D.str.injEq, D.ptr.injEq, Int.natCast_inj, UInt8.toNat_inj, mT, true_and, and_true] at h
    rw [h]
noncomputable def z61 : Sp where
  α := BS × UInt8
  f := 61
  ok := fun (s, c) => (s.length ≤ 2000000)
  args := fun (s, c) => [vS s, .d false (.int .u8 (c : UInt8).toNat)]
  res := fun (s, c) => (vS (trL c s), [])
  inj := by
    rintro ⟨s, c⟩ ⟨s', c'⟩ _ _ h
    simp only [vS, vI, slT, vT_inj, List.cons.injEq, V.agg.injEq, V.d.injEq, D.sl.injEq, D.int.injEq, D.str.injEq, D.ptr.injEq, Int.natCast_inj, UInt8.toNat_inj, mT, true_and, and_true] at h
    simp only [h]
noncomputable def z62 : Sp where
  α := BS × UInt8
  f := 62
  ok := fun (s, c) => (s.length ≤ 2000000)
  args := fun (s, c) => [vS s, .d false (.int .u8 (c : UInt8).toNat)]
  res := fun (s, c) => (vS (trR c s), [])
  inj := by
    rintro ⟨s, c⟩ ⟨s', c'⟩ _ _ h
    simp only [vS, vI, slT, vT_inj, List.cons.injEq, V.agg.injEq, V.d.injEq, D.sl.injEq, D.int.injEq, D.str.injEq, D.ptr.injEq, Int.natCast_inj, UInt8.toNat_inj, mT, true_and, and_true] at h
    simp only [h]
noncomputable def z41 : Sp where
  α := BS
  f := 41
  ok := fun s => (s ≠ []) ∧ (s.length ≤ 2000000)
  args := fun s => [vS s, vS [45]]
  res := fun s => (vS (trL 45 (trR 45 s)), [])
  inj := by
    rintro s s' _ _ h
    simp only [vS, vI, slT, vT_inj, List.cons.injEq, V.agg.injEq, V.d.injEq, D.sl.injEq, D.int.injEq, D.str.injEq, D.ptr.injEq, Int.natCast_inj, UInt8.toNat_inj, mT, true_and, and_true] at h
    rw [h]
noncomputable def z31 : Sp where
  α := BS
  f := 31
  ok := fun s => (s.length ≤ 2000000)
  args := fun s => [vS s]
  res := fun s => (.d false (.bool (dsh s)), [])
  inj := by
    rintro s s' _ _ h
    simp only [vS, vI, slT, vT_inj, List.cons.injEq, V.agg.injEq, V.d.injEq, D.sl.injEq, D.int.injEq, D.str.injEq, D.ptr.injEq, Int.natCast_inj, UInt8.toNat_inj, mT, true_and, and_true] at h
    rw [h]
noncomputable def z29 : Sp where
  α := BS × Nat
  f := 29
  ok := fun (s, i) => (i ≤ s.length) ∧ (s.length ≤ 2000000)
  args := fun (s, i) => [vS s, vI i]
  res := fun (s, i) => (vI (match comL 0 (s.drop i) with | some n => ((i + n : Nat) : Int) | none => -1), [])
  inj := by
    rintro ⟨s, i⟩ ⟨s', i'⟩ _ _ h
    simp only [vS, vI, slT, vT_inj, List.cons.injEq, V.agg.injEq, V.d.injEq, D.sl.injEq, D.int.injEq, D.str.injEq, D.ptr.injEq, Int.natCast_inj, UInt8.toNat_inj, mT, true_and, and_true] at h
    simp only [h]
noncomputable def z68 : Sp where
  α := BS × Nat
  f := 68
  ok := fun (s, i) => (s.length ≤ 2000000)
  args := fun (s, i) => [vS s, vI i]
  res := fun (s, i) => (.d false (.int .u8 (bAt (s.drop i)).toNat), [])
  inj := by
    rintro ⟨s, i⟩ ⟨s', i'⟩ _ _ h
    simp only [vS, vI, slT, vT_inj, List.cons.injEq, V.agg.injEq, V.d.injEq, D.sl.injEq, D.int.injEq, D.str.injEq, D.ptr.injEq, Int.natCast_inj, UInt8.toNat_inj, mT, true_and, and_true] at h
    simp only [h]
noncomputable def z69 : Sp where
  α := BS × Nat
  f := 69
  ok := fun (s, i) => (s.length ≤ 2000000)
  args := fun (s, i) => [vS s, vI i]
  res := fun (s, i) => (vI (hexL (s.drop i)), [])
  inj := by
    rintro ⟨s, i⟩ ⟨s', i'⟩ _ _ h
    simp only [vS, vI, slT, vT_inj, List.cons.injEq, V.agg.injEq, V.d.injEq, D.sl.injEq, D.int.injEq, D.str.injEq, D.ptr.injEq, Int.natCast_inj, UInt8.toNat_inj, mT, true_and, and_true] at h
    simp only [h]
noncomputable def z44 : Sp where
  α := BS × Nat
  f := 44
  ok := fun (s, i) => (i ≤ s.length) ∧ (s.length ≤ 2000000)
  args := fun (s, i) => [vS s, vI i]
  res := fun (s, i) => (.tup [vI (upS (s.drop i)).1, vI ((i + (upS (s.drop i)).2 : Nat))], [])
  inj := by
    rintro ⟨s, i⟩ ⟨s', i'⟩ _ _ h
    simp only [vS, vI, slT, vT_inj, List.cons.injEq, V.agg.injEq, V.d.injEq, D.sl.injEq, D.int.injEq, D.str.injEq, D.ptr.injEq, Int.natCast_inj, UInt8.toNat_inj, mT, true_and, and_true] at h
    simp only [h]
noncomputable def z70 : Sp where
  α := BS × Nat × UInt8
  f := 70
  ok := fun (s, i, q) => (s.length ≤ 2000000) ∧ (i ≤ s.length)
  args := fun (s, i, q) => [vS s, vI i, .d false (.int .u8 (q : UInt8).toNat)]
  res := fun (s, i, q) => (vSound i (soundS (s.drop i) q), [])
  inj := by
    rintro ⟨s, i, q⟩ ⟨s', i', q'⟩ _ _ h
    simp only [vS, vI, slT, vT_inj, List.cons.injEq, V.agg.injEq, V.d.injEq, D.sl.injEq, D.int.injEq, D.str.injEq, D.ptr.injEq, Int.natCast_inj, UInt8.toNat_inj, mT, true_and, and_true] at h
    simp only [h]
noncomputable def z45 : Sp where
  α := BS × Nat
  f := 45
  ok := fun (s, i) => (i < s.length) ∧ (s.length ≤ 2000000)
  args := fun (s, i) => [vS s, vI i]
  res := fun (s, i) => (stV i (numS (s.drop i)), [])
  inj := by
    rintro ⟨s, i⟩ ⟨s', i'⟩ _ _ h
    simp only [vS, vI, slT, vT_inj, List.cons.injEq, V.agg.injEq, V.d.injEq, D.sl.injEq, D.int.injEq, D.str.injEq, D.ptr.injEq, Int.natCast_inj, UInt8.toNat_inj, mT, true_and, and_true] at h
    simp only [h]
noncomputable def z47 : Sp where
  α := BS × Nat
  f := 47
  ok := fun (s, i) => (i < s.length) ∧ (s.length ≤ 2000000) ∧ ((bAt (s.drop i) = 34 ∨ bAt (s.drop i) = 39))
  args := fun (s, i) => [vS s, vI i]
  res := fun (s, i) => (stV i (quotS (s.drop i)), [])
  inj := by
    rintro ⟨s, i⟩ ⟨s', i'⟩ _ _ h
    simp only [vS, vI, slT, vT_inj, List.cons.injEq, V.agg.injEq, V.d.injEq, D.sl.injEq, D.int.injEq, D.str.injEq, D.ptr.injEq, Int.natCast_inj, UInt8.toNat_inj, mT, true_and, and_true] at h
    simp only [h]
noncomputable def z32 : Sp where
  α := BS × Nat
  f := 32
  ok := fun (s, i) => (i < s.length) ∧ (s.length ≤ 2000000)
  args := fun (s, i) => [vS s, vI i]
  res := fun (s, i) => (stV i (tokS (s.drop i)), [])
  inj := by
    rintro ⟨s, i⟩ ⟨s', i'⟩ _ _ h
    simp only [vS, vI, slT, vT_inj, List.cons.injEq, V.agg.injEq, V.d.injEq, D.sl.injEq, D.int.injEq, D.str.injEq, D.ptr.injEq, Int.natCast_inj, UInt8.toNat_inj, mT, true_and, and_true] at h
    simp only [h]
noncomputable def z13 : Sp where
  α := BS
  f := 13
  ok := fun s => (s.length ≤ 2000000)
  args := fun s => [vS s]
  res := fun s => (lexV s, [])
  inj := by
    rintro s s' _ _ h
    simp only [vS, vI, slT, vT_inj, List.cons.injEq, V.agg.injEq, V.d.injEq, D.sl.injEq, D.int.injEq, D.str.injEq, D.ptr.injEq, Int.natCast_inj, UInt8.toNat_inj, mT, true_and, and_true] at h
    rw [h]
noncomputable def z39 : Sp where
  α := BS × UInt8
  f := 39
  ok := fun (s, q) => (s.length ≤ 2000000) ∧ ((q = 39 ∨ q = 34))
  args := fun (s, q) => [vS s, .d false (.int .u8 (q : UInt8).toNat)]
  res := fun (s, q) => (vS (escS s q), [])
  inj := by
    rintro ⟨s, q⟩ ⟨s', q'⟩ _ _ h
    simp only [vS, vI, slT, vT_inj, List.cons.injEq, V.agg.injEq, V.d.injEq, D.sl.injEq, D.int.injEq, D.str.injEq, D.ptr.injEq, Int.natCast_inj, UInt8.toNat_inj, mT, true_and, and_true] at h
    simp only [h]
noncomputable def z25 : Sp where
  α := Tok
  f := 25
  ok := fun t => (TokI t)
  args := fun t => [vT t]
  res := fun t => (vS (writS t), [])
  inj := by
    rintro t t' _ _ h
    simp only [vS, vI, slT, vT_inj, List.cons.injEq, V.agg.injEq, V.d.injEq, D.sl.injEq, D.int.injEq, D.str.injEq, D.ptr.injEq, Int.natCast_inj, UInt8.toNat_inj, mT, true_and, and_true] at h
    rw [h]
noncomputable def z21 : Sp where
  α := Tok
  f := 21
  ok := fun t => (TokI t)
  args := fun t => [vT t]
  res := fun t => (.d false (.bool (escTokS t)), [])
  inj := by
    rintro t t' _ _ h
    simp only [vS, vI, slT, vT_inj, List.cons.injEq, V.agg.injEq, V.d.injEq, D.sl.injEq, D.int.injEq, D.str.injEq, D.ptr.injEq, Int.natCast_inj, UInt8.toNat_inj, mT, true_and, and_true] at h
    rw [h]
noncomputable def z11 : Sp where
  α := List Tok
  f := 11
  ok := fun l => (TokL l)
  args := fun l => [slT l]
  res := fun l => (printV l, [])
  inj := by
    rintro l l' _ _ h
    simp only [vS, vI, slT, vT_inj, List.cons.injEq, V.agg.injEq, V.d.injEq, D.sl.injEq, D.int.injEq, D.str.injEq, D.ptr.injEq, Int.natCast_inj, UInt8.toNat_inj, mT, true_and, and_true] at h
    rw [h]
noncomputable def z12 : Sp where
  α := List Tok × List Tok
  f := 12
  ok := fun (a, b) => (a.length ≤ 4611686018427387903) ∧ (b.length ≤ 4611686018427387903)
  args := fun (a, b) => [slT a, slT b]
  res := fun (a, b) => (.d false (.bool (decide (a = b))), [])
  inj := by
    rintro ⟨a, b⟩ ⟨a', b'⟩ _ _ h
    simp only [vS, vI, slT, vT_inj, List.cons.injEq, V.agg.injEq, V.d.injEq, D.sl.injEq, D.int.injEq, D.str.injEq, D.ptr.injEq, Int.natCast_inj, UInt8.toNat_inj, mT, true_and, and_true] at h
    simp only [h]
noncomputable def z9 : Sp where
  α := Unit
  f := 9
  ok := fun u => True
  args := fun u => []
  res := fun u => (.d false (.bool true), [])
  inj := by
    rintro u u' _ _ h
    rfl
noncomputable def y22 : Se where
  α := BS × UInt8
  f := 22
  ok := fun (b, c) => b.length ≤ 100000000
  args := fun (b, c) => [.ptr 0 0 0, .d false (.int .u8 (c : UInt8).toNat)]
  blks := fun (b, c) => [bldB 50 1 b.length, bufB 5 b]
  res := fun (b, c) => (.d false .nilif, [bldB 50 1 (b ++ [c]).length, bufB 5 (b ++ [c])], [1])
  inj := by
    rintro ⟨b, c⟩ ⟨b', c'⟩ _ _ h g
    simp only [vS, vI, bldB, bufB, List.cons.injEq, V.d.injEq, D.int.injEq, D.str.injEq, Blk.map.injEq, Prod.mk.injEq, Int.natCast_inj, UInt8.toNat_inj, true_and, and_true] at h g
    simp only [h, g]
noncomputable def y24 : Se where
  α := BS × BS
  f := 24
  ok := fun (b, s) => b.length ≤ 100000000 ∧ s.length ≤ 100000000
  args := fun (b, s) => [.ptr 0 0 0, vS s]
  blks := fun (b, s) => [bldB 50 1 b.length, bufB 5 b]
  res := fun (b, s) => (.tup [vI s.length, .d false .nilif], [bldB 50 1 (b ++ s).length, bufB 5 (b ++ s)], [1])
  inj := by
    rintro ⟨b, s⟩ ⟨b', s'⟩ _ _ h g
    simp only [vS, vI, bldB, bufB, List.cons.injEq, V.d.injEq, D.int.injEq, D.str.injEq, Blk.map.injEq, Prod.mk.injEq, Int.natCast_inj, UInt8.toNat_inj, true_and, and_true] at h g
    simp only [h, g]
noncomputable def y23 : Se where
  α := BS
  f := 23
  ok := fun b => True
  args := fun b => [.ptr 0 0 0]
  blks := fun b => [bldB 50 1 b.length, bufB 5 b]
  res := fun b => (vI b.length, [bldB 50 1 b.length, bufB 5 b], [])
  inj := by
    rintro b b' _ _ h g
    simp only [vS, vI, bldB, bufB, List.cons.injEq, V.d.injEq, D.int.injEq, D.str.injEq, Blk.map.injEq, Prod.mk.injEq, Int.natCast_inj, UInt8.toNat_inj, true_and, and_true] at h g
    simp only [g]
noncomputable def y26 : Se where
  α := BS
  f := 26
  ok := fun b => True
  args := fun b => [.ptr 0 0 0]
  blks := fun b => [bldB 50 1 b.length, bufB 5 b]
  res := fun b => (vS b, [bldB 50 1 b.length, bufB 5 b], [1])
  inj := by
    rintro b b' _ _ h g
    simp only [vS, vI, bldB, bufB, List.cons.injEq, V.d.injEq, D.int.injEq, D.str.injEq, Blk.map.injEq, Prod.mk.injEq, Int.natCast_inj, UInt8.toNat_inj, true_and, and_true] at h g
    simp only [g]
theorem e22_of {L E} (h : HasE E y22) : E22 (cx GT L E) := fun b c h1 => h (b, c) h1
theorem e24_of {L E} (h : HasE E y24) : E24 (cx GT L E) := fun b s h1 h2 => h (b, s) ⟨h1, h2⟩
theorem e23_of {L E} (h : HasE E y23) : E23 (cx GT L E) := fun b => h b trivial
theorem e26_of {L E} (h : HasE E y26) : E26 (cx GT L E) := fun b => h b trivial
theorem k85_of {L E} (h : Has L z85) : K85 (cx GT L E) := fun c => h c trivial
theorem k38_of {L E} (h : Has L z38) : K38 (cx GT L E) := fun n h1 h2 => h n ⟨h1, h2⟩
theorem k27_of {L E} (h : Has L z27) : K27 (cx GT L E) := fun s i h1 => h (s, i) h1
theorem k30_of {L E} (h : Has L z30) : K30 (cx GT L E) := fun s i k h1 h2 h3 => h (s, i, k) ⟨h1, h2, h3⟩
theorem k48_of {L E} (h : Has L z48) : K48 (cx GT L E) := fun s i h1 => h (s, i) h1
theorem k42_of {L E} (h : Has L z42) : K42 (cx GT L E) := fun s i h1 h2 => h (s, i) ⟨h1, h2⟩
theorem k40_of {L E} (h : Has L z40) : K40 (cx GT L E) := fun p s h1 h2 => h (p, s) ⟨h1, h2⟩
theorem k28_of {L E} (h : Has L z28) : K28 (cx GT L E) := fun p s h1 h2 => h (p, s) ⟨h1, h2⟩
theorem k43_of {L E} (h : Has L z43) : K43 (cx GT L E) := fun s => h s trivial
theorem k46_of {L E} (h : Has L z46) : K46 (cx GT L E) := fun s => h s trivial
theorem k61_of {L E} (h : Has L z61) : K61 (cx GT L E) := fun s c h1 => h (s, c) h1
theorem k62_of {L E} (h : Has L z62) : K62 (cx GT L E) := fun s c h1 => h (s, c) h1
theorem k41_of {L E} (h : Has L z41) : K41 (cx GT L E) := fun s h1 h2 => h s ⟨h1, h2⟩
theorem k31_of {L E} (h : Has L z31) : K31 (cx GT L E) := fun s h1 => h s h1
theorem k29_of {L E} (h : Has L z29) : K29 (cx GT L E) := fun s i h1 h2 => h (s, i) ⟨h1, h2⟩
theorem k68_of {L E} (h : Has L z68) : K68 (cx GT L E) := fun s i h1 => h (s, i) h1
theorem k69_of {L E} (h : Has L z69) : K69 (cx GT L E) := fun s i h1 => h (s, i) h1
theorem k44_of {L E} (h : Has L z44) : K44 (cx GT L E) := fun s i h1 h2 => h (s, i) ⟨h1, h2⟩
theorem k70_of {L E} (h : Has L z70) : K70 (cx GT L E) := fun s i q h1 h2 => h (s, i, q) ⟨h1, h2⟩
theorem k45_of {L E} (h : Has L z45) : K45 (cx GT L E) := fun s i h1 h2 => h (s, i) ⟨h1, h2⟩
theorem k47_of {L E} (h : Has L z47) : K47 (cx GT L E) := fun s i h1 h2 h3 => h (s, i) ⟨h1, h2, h3⟩
theorem k32_of {L E} (h : Has L z32) : K32 (cx GT L E) := fun s i h1 h2 => h (s, i) ⟨h1, h2⟩
theorem k13_of {L E} (h : Has L z13) : K13 (cx GT L E) := fun s h1 => h s h1
theorem k39_of {L E} (h : Has L z39) : K39 (cx GT L E) := fun s q h1 h2 => h (s, q) ⟨h1, h2⟩
theorem k25_of {L E} (h : Has L z25) : K25 (cx GT L E) := fun t h1 => h t h1
theorem k21_of {L E} (h : Has L z21) : K21 (cx GT L E) := fun t h1 => h t h1
theorem k11_of {L E} (h : Has L z11) : K11 (cx GT L E) := fun l h1 => h l h1
theorem k12_of {L E} (h : Has L z12) : K12 (cx GT L E) := fun a b h1 h2 => h (a, b) ⟨h1, h2⟩
theorem k9_of {L E} (h : Has L z9) : K9 (cx GT L E) := h () trivial
theorem mixedD : Tryd.prog.follows .mixedOrders = true := by kernel_rfl
noncomputable def EE : List Se := [y22, y23, y24, y26]
theorem he22 : HasE EE y22 := hasE_head _ _
theorem he23 : HasE EE y23 := hasE_tail (hasE_head _ _) (by decide)
theorem he24 : HasE EE y24 := hasE_tail (hasE_tail (hasE_head _ _) (by decide)) (by decide)
theorem he26 : HasE EE y26 := hasE_tail (hasE_tail (hasE_tail (hasE_head _ _) (by decide)) (by decide)) (by decide)
theorem y22h : y22.Holds Tryd.prog GT := fun ⟨b, c⟩ h => ⟨by kernel_rfl, eff_WriteByte tB_wb b c (by have h : b.length ≤ 100000000 := h; omega)⟩
theorem y24h : y24.Holds Tryd.prog GT := fun ⟨b, s⟩ h => ⟨by kernel_rfl, eff_WriteString tB_ws b s (by have h : b.length ≤ 100000000 ∧ s.length ≤ 100000000 := h; omega)⟩
theorem y23h : y23.Holds Tryd.prog GT := fun b _ => ⟨by kernel_rfl, eff_Len Tryd.lays170 b⟩
theorem y26h : y26.Holds Tryd.prog GT := fun b _ => ⟨by kernel_rfl, eff_String Tryd.lays169 Tryd.Builder_Extra_169 b⟩
noncomputable def N0 : List Sp := []
theorem zn0 : Known Tryd.prog GT N0 EE := (((Known.nil.putE y26h).putE y24h).putE y23h).putE y22h
noncomputable def N1 : List Sp := z85 :: N0
theorem zn1 : Known Tryd.prog GT N1 EE := by
  exact zn0.put (fun c _ => ⟨by kernel_rfl, pure_index c⟩)
noncomputable def N2 : List Sp := z38 :: N1
theorem zn2 : Known Tryd.prog GT N2 EE := by
  exact zn1.put (fun n ⟨h1, h2⟩ => ⟨by kernel_rfl, pure_itoa n h1 h2⟩)
noncomputable def N3 : List Sp := z27 :: N2
theorem zn3 : Known Tryd.prog GT N3 EE := by
  exact zn2.add mixedD (fun ⟨s, i⟩ _ => f27_ok) (fun ⟨s, i⟩ h1 => ⟨_, ev_class (cx GT N2 EE) (show (cx GT N2 EE).glob 0 = _ from rfl) s i h1⟩)
noncomputable def N4 : List Sp := z30 :: N3
theorem zn4 : Known Tryd.prog GT N4 EE := by
  have k27 := k27_of (E := EE) (show Has N3 z27 by repeat (first | exact has_head _ _ | refine has_tail ?_ (by decide)))
  exact zn3.add mixedD (fun ⟨s, i, k⟩ _ => f30_ok) (fun ⟨s, i, k⟩ ⟨h1, h2, h3⟩ => ⟨_, ev_run _ k27 s i k h1 h2 h3⟩)
noncomputable def N5 : List Sp := z48 :: N4
theorem zn5 : Known Tryd.prog GT N5 EE := by
  have k27 := k27_of (E := EE) (show Has N4 z27 by repeat (first | exact has_head _ _ | refine has_tail ?_ (by decide)))
  exact zn4.add mixedD (fun ⟨s, i⟩ _ => f48_ok) (fun ⟨s, i⟩ h1 => ⟨_, ev_inName _ k27 s i h1⟩)
noncomputable def N6 : List Sp := z42 :: N5
theorem zn6 : Known Tryd.prog GT N6 EE := by
  have k48 := k48_of (E := EE) (show Has N5 z48 by repeat (first | exact has_head _ _ | refine has_tail ?_ (by decide)))
  exact zn5.add mixedD (fun ⟨s, i⟩ _ => f42_ok) (fun ⟨s, i⟩ ⟨h1, h2⟩ => ⟨_, ev_name _ k48 s i h1 h2⟩)
noncomputable def N7 : List Sp := z40 :: N6
theorem zn7 : Known Tryd.prog GT N7 EE := by
  exact zn6.add mixedD (fun ⟨p, s⟩ _ => f40_ok) (fun ⟨p, s⟩ ⟨h1, h2⟩ => ⟨_, ev_pre _ p s h1 h2⟩)
noncomputable def N8 : List Sp := z28 :: N7
theorem zn8 : Known Tryd.prog GT N8 EE := by
  have k40 := k40_of (E := EE) (show Has N7 z40 by repeat (first | exact has_head _ _ | refine has_tail ?_ (by decide)))
  exact zn7.add mixedD (fun ⟨p, s⟩ _ => f28_ok) (fun ⟨p, s⟩ ⟨h1, h2⟩ => ⟨_, ev_hasPrefix _ k40 p s h1 h2⟩)
noncomputable def N9 : List Sp := z43 :: N8
theorem zn9 : Known Tryd.prog GT N9 EE := by
  exact zn8.add mixedD (fun s _ => f43_ok) (fun s _ => ⟨_, ev_reserved _ s⟩)
noncomputable def N10 : List Sp := z46 :: N9
theorem zn10 : Known Tryd.prog GT N10 EE := by
  exact zn9.add mixedD (fun s _ => f46_ok) (fun s _ => ⟨_, ev_isSign _ s⟩)
noncomputable def N11 : List Sp := z61 :: N10
theorem zn11 : Known Tryd.prog GT N11 EE := by
  exact zn10.add mixedD (fun ⟨s, c⟩ _ => f61_ok) (fun ⟨s, c⟩ h1 => ⟨_, ev_trimLeft _ s c h1⟩)
noncomputable def N12 : List Sp := z62 :: N11
theorem zn12 : Known Tryd.prog GT N12 EE := by
  exact zn11.add mixedD (fun ⟨s, c⟩ _ => f62_ok) (fun ⟨s, c⟩ h1 => ⟨_, ev_trimRight _ s c h1⟩)
noncomputable def N13 : List Sp := z41 :: N12
theorem zn13 : Known Tryd.prog GT N13 EE := by
  have k61 := k61_of (E := EE) (show Has N12 z61 by repeat (first | exact has_head _ _ | refine has_tail ?_ (by decide)))
  have k62 := k62_of (E := EE) (show Has N12 z62 by repeat (first | exact has_head _ _ | refine has_tail ?_ (by decide)))
  exact zn12.add mixedD (fun s _ => f41_ok) (fun s ⟨h1, h2⟩ => ⟨_, ev_trim _ k61 k62 s h1 h2⟩)
noncomputable def N14 : List Sp := z31 :: N13
theorem zn14 : Known Tryd.prog GT N14 EE := by
  have k41 := k41_of (E := EE) (show Has N13 z41 by repeat (first | exact has_head _ _ | refine has_tail ?_ (by decide)))
  exact zn13.add mixedD (fun s _ => f31_ok) (fun s h1 => ⟨_, ev_dashes _ k41 s h1⟩)
noncomputable def N15 : List Sp := z29 :: N14
theorem zn15 : Known Tryd.prog GT N15 EE := by
  exact zn14.add mixedD (fun ⟨s, i⟩ _ => f29_ok) (fun ⟨s, i⟩ ⟨h1, h2⟩ => ⟨_, ev_comment _ s i h1 h2⟩)
noncomputable def N16 : List Sp := z68 :: N15
theorem zn16 : Known Tryd.prog GT N16 EE := by
  exact zn15.add mixedD (fun ⟨s, i⟩ _ => f68_ok) (fun ⟨s, i⟩ h1 => ⟨_, ev_byteAt _ s i h1⟩)
noncomputable def N17 : List Sp := z69 :: N16
theorem zn17 : Known Tryd.prog GT N17 EE := by
  have k68 := k68_of (E := EE) (show Has N16 z68 by repeat (first | exact has_head _ _ | refine has_tail ?_ (by decide)))
  have k85 := k85_of (E := EE) (show Has N16 z85 by repeat (first | exact has_head _ _ | refine has_tail ?_ (by decide)))
  exact zn16.add mixedD (fun ⟨s, i⟩ _ => f69_ok) (fun ⟨s, i⟩ h1 => ⟨_, ev_hex _ k68 k85 s i h1⟩)
noncomputable def N18 : List Sp := z44 :: N17
theorem zn18 : Known Tryd.prog GT N18 EE := by
  have k42 := k42_of (E := EE) (show Has N17 z42 by repeat (first | exact has_head _ _ | refine has_tail ?_ (by decide)))
  have k27 := k27_of (E := EE) (show Has N17 z27 by repeat (first | exact has_head _ _ | refine has_tail ?_ (by decide)))
  have k43 := k43_of (E := EE) (show Has N17 z43 by repeat (first | exact has_head _ _ | refine has_tail ?_ (by decide)))
  exact zn17.add mixedD (fun ⟨s, i⟩ _ => f44_ok) (fun ⟨s, i⟩ ⟨h1, h2⟩ => ⟨_, ev_upper _ k42 k27 k43 s i h1 h2⟩)
noncomputable def N19 : List Sp := z70 :: N18
theorem zn19 : Known Tryd.prog GT N19 EE := by
  have k68 := k68_of (E := EE) (show Has N18 z68 by repeat (first | exact has_head _ _ | refine has_tail ?_ (by decide)))
  have k27 := k27_of (E := EE) (show Has N18 z27 by repeat (first | exact has_head _ _ | refine has_tail ?_ (by decide)))
  exact zn18.add mixedD (fun ⟨s, i, q⟩ _ => f70_ok) (fun ⟨s, i, q⟩ ⟨h1, h2⟩ => ⟨_, ev_sound _ k68 k27 s i q h1 h2⟩)
noncomputable def N20 : List Sp := z45 :: N19
theorem zn20 : Known Tryd.prog GT N20 EE := by
  have k68 := k68_of (E := EE) (show Has N19 z68 by repeat (first | exact has_head _ _ | refine has_tail ?_ (by decide)))
  have k69 := k69_of (E := EE) (show Has N19 z69 by repeat (first | exact has_head _ _ | refine has_tail ?_ (by decide)))
  have k48 := k48_of (E := EE) (show Has N19 z48 by repeat (first | exact has_head _ _ | refine has_tail ?_ (by decide)))
  exact zn19.add mixedD (fun ⟨s, i⟩ _ => f45_ok) (fun ⟨s, i⟩ ⟨h1, h2⟩ => ⟨_, ev_number _ k68 k69 k48 s i h1 h2⟩)
noncomputable def N21 : List Sp := z47 :: N20
theorem zn21 : Known Tryd.prog GT N21 EE := by
  have k68 := k68_of (E := EE) (show Has N20 z68 by repeat (first | exact has_head _ _ | refine has_tail ?_ (by decide)))
  have k70 := k70_of (E := EE) (show Has N20 z70 by repeat (first | exact has_head _ _ | refine has_tail ?_ (by decide)))
  exact zn20.add mixedD (fun ⟨s, i⟩ _ => f47_ok) (fun ⟨s, i⟩ ⟨h1, h2, h3⟩ => ⟨_, ev_quoted _ k68 k70 s i h1 h2 h3⟩)
noncomputable def N22 : List Sp := z32 :: N21
theorem zn22 : Known Tryd.prog GT N22 EE := by
  have k27 := k27_of (E := EE) (show Has N21 z27 by repeat (first | exact has_head _ _ | refine has_tail ?_ (by decide)))
  have k42 := k42_of (E := EE) (show Has N21 z42 by repeat (first | exact has_head _ _ | refine has_tail ?_ (by decide)))
  have k43 := k43_of (E := EE) (show Has N21 z43 by repeat (first | exact has_head _ _ | refine has_tail ?_ (by decide)))
  have k44 := k44_of (E := EE) (show Has N21 z44 by repeat (first | exact has_head _ _ | refine has_tail ?_ (by decide)))
  have k45 := k45_of (E := EE) (show Has N21 z45 by repeat (first | exact has_head _ _ | refine has_tail ?_ (by decide)))
  have k30 := k30_of (E := EE) (show Has N21 z30 by repeat (first | exact has_head _ _ | refine has_tail ?_ (by decide)))
  have k46 := k46_of (E := EE) (show Has N21 z46 by repeat (first | exact has_head _ _ | refine has_tail ?_ (by decide)))
  have k47 := k47_of (E := EE) (show Has N21 z47 by repeat (first | exact has_head _ _ | refine has_tail ?_ (by decide)))
  have k48 := k48_of (E := EE) (show Has N21 z48 by repeat (first | exact has_head _ _ | refine has_tail ?_ (by decide)))
  exact zn21.add mixedD (fun ⟨s, i⟩ _ => f32_ok) (fun ⟨s, i⟩ ⟨h1, h2⟩ => ⟨_, ev_token _ k27 k42 k43 k44 k45 k30 k46 k47 k48 s i h1 h2⟩)
noncomputable def N23 : List Sp := z13 :: N22
theorem zn23 : Known Tryd.prog GT N23 EE := by
  have k27 := k27_of (E := EE) (show Has N22 z27 by repeat (first | exact has_head _ _ | refine has_tail ?_ (by decide)))
  have k28 := k28_of (E := EE) (show Has N22 z28 by repeat (first | exact has_head _ _ | refine has_tail ?_ (by decide)))
  have k29 := k29_of (E := EE) (show Has N22 z29 by repeat (first | exact has_head _ _ | refine has_tail ?_ (by decide)))
  have k30 := k30_of (E := EE) (show Has N22 z30 by repeat (first | exact has_head _ _ | refine has_tail ?_ (by decide)))
  have k31 := k31_of (E := EE) (show Has N22 z31 by repeat (first | exact has_head _ _ | refine has_tail ?_ (by decide)))
  have k32 := k32_of (E := EE) (show Has N22 z32 by repeat (first | exact has_head _ _ | refine has_tail ?_ (by decide)))
  exact zn22.addEase mixedD (fun s _ => f13_ok) (fun s h1 => ⟨_, _, ev_Lex _ k27 k28 k29 k30 k31 k32 s h1, lexV_ease s⟩)
noncomputable def N24 : List Sp := z39 :: N23
theorem zn24 : Known Tryd.prog GT N24 EE := by
  have k38 := k38_of (E := EE) (show Has N23 z38 by repeat (first | exact has_head _ _ | refine has_tail ?_ (by decide)))
  have e22 := e22_of (L := N23) he22
  have e24 := e24_of (L := N23) he24
  have e26 := e26_of (L := N23) he26
  exact zn23.add mixedD (fun ⟨s, q⟩ _ => f39_ok) (fun ⟨s, q⟩ ⟨h1, h2⟩ => ⟨_, ev_escaped _ e22 e24 e26 k38 s h1 q h2⟩)
noncomputable def N25 : List Sp := z25 :: N24
theorem zn25 : Known Tryd.prog GT N25 EE := by
  have k38 := k38_of (E := EE) (show Has N24 z38 by repeat (first | exact has_head _ _ | refine has_tail ?_ (by decide)))
  have k39 := k39_of (E := EE) (show Has N24 z39 by repeat (first | exact has_head _ _ | refine has_tail ?_ (by decide)))
  exact zn24.add mixedD (fun t _ => f25_ok) (fun t h1 => ⟨_, ev_written _ k38 k39 t h1⟩)
noncomputable def N26 : List Sp := z21 :: N25
theorem zn26 : Known Tryd.prog GT N26 EE := by
  have k27 := k27_of (E := EE) (show Has N25 z27 by repeat (first | exact has_head _ _ | refine has_tail ?_ (by decide)))
  have k31 := k31_of (E := EE) (show Has N25 z31 by repeat (first | exact has_head _ _ | refine has_tail ?_ (by decide)))
  have k32 := k32_of (E := EE) (show Has N25 z32 by repeat (first | exact has_head _ _ | refine has_tail ?_ (by decide)))
  exact zn25.add mixedD (fun t _ => f21_ok) (fun t h1 => ⟨_, ev_isToken _ k27 k31 k32 t h1⟩)
noncomputable def N27 : List Sp := z11 :: N26
theorem zn27 : Known Tryd.prog GT N27 EE := by
  have k21 := k21_of (E := EE) (show Has N26 z21 by repeat (first | exact has_head _ _ | refine has_tail ?_ (by decide)))
  have k25 := k25_of (E := EE) (show Has N26 z25 by repeat (first | exact has_head _ _ | refine has_tail ?_ (by decide)))
  have e22 := e22_of (L := N26) he22
  have e23 := e23_of (L := N26) he23
  have e24 := e24_of (L := N26) he24
  have e26 := e26_of (L := N26) he26
  exact zn26.add mixedD (fun l _ => f11_ok) (fun l h1 => ⟨_, ev_Print _ k21 e22 e23 e24 k25 e26 l h1⟩)
noncomputable def N28 : List Sp := z12 :: N27
theorem zn28 : Known Tryd.prog GT N28 EE := by
  exact zn27.add mixedD (fun ⟨a, b⟩ _ => f12_ok) (fun ⟨a, b⟩ ⟨h1, h2⟩ => ⟨_, ev_same _ a b h1 h2⟩)
noncomputable def N29 : List Sp := z9 :: N28
theorem zn29 : Known Tryd.prog GT N29 EE := by
  have k13 := k13_of (E := EE) (show Has N28 z13 by repeat (first | exact has_head _ _ | refine has_tail ?_ (by decide)))
  have k12 := k12_of (E := EE) (show Has N28 z12 by repeat (first | exact has_head _ _ | refine has_tail ?_ (by decide)))
  have k11 := k11_of (E := EE) (show Has N28 z11 by repeat (first | exact has_head _ _ | refine has_tail ?_ (by decide)))
  exact zn28.add mixedD (fun u _ => f9_ok) (fun u _ => ⟨_, ev_awake _ k13 k12 k11⟩)
end Go.Vm
end

section
namespace Go.Vm
open Go.Proofs Go.RowKit Go.Extern.Stop Go.Stop Go.Extern

set_option maxRecDepth 100000 in
set_option maxHeartbeats 4000000 in
theorem writ_walk (kd nm q : Int) (s : ByteArray) (h6 : kd ≠ 6) (h7 : kd ≠ 7) (h8 : kd ≠ 8) (w : World) :
    Calls Tryd.prog 20 #[.agg #[.int .i64 kd, .string s, .int .i64 nm, .int .i64 q]] w fun e w' => ∃ cap b, e = .returned (.slice (some ⟨b, 0, none⟩) s.size cap) ∧ s.size ≤ cap ∧ Below w.heap.size w w' ∧ w.heap.size ≤ b ∧
      ∀ j, j < s.size → w'.cell? ⟨b, j, none⟩ = some (.int .u8 (s.data.toList.getD j 0).toNat) := by
  go_enter Tryd.func20, Tryd.ntmps20
  go_wp2
  rw [Lib.run_convert_string_bytes _ 9 46 5 s (u := .string) Tryd.underlying9 Tryd.underlying46 Tryd.underlying5]
  simp only [Result.andThen]
  rw [Oper.upon_value]
  go_wp2
  go_returns
  generalize hW : w.alloc (.cells #[.int .i64 kd, .string s, .int .i64 nm, .int .i64 q] 28) = W
  have hs : W.heap.size = w.heap.size + 1 := by rw [← hW]; simp
  have ho : ∀ k, k < w.heap.size → W.heap[k]? = w.heap[k]? := fun k hk => by rw [← hW]; exact Lib.alloc_old _ _ k hk
  have h1 : W.os = w.os ∧ W.tape = w.tape ∧ W.output = w.output := by rw [← hW]; exact ⟨rfl, rfl, rfl⟩
  rw [← hs]
  refine ⟨_, _, rfl, grownCap_ge _ _ _ _, ⟨h1.1, h1.2.1, h1.2.2, ?_, fun k hk => ?_⟩, by omega, fun j hj => Lib.bytesWorld_cell W 5 s j hj⟩
  · rw [Lib.bytesWorld_size]; omega
  · rw [Lib.bytesWorld_at_old W 5 s k (by omega), ho k hk]

theorem tok_inv {w : World} {F : Nat → Prop} {base : Nat} {σ : Nat → Option Loc} {v : Value} {t : Tok} (h : RepV w F base σ v (vT t)) :
    ∃ s : ByteArray, v = .agg #[.int .i64 t.kind, .string s, .int .i64 t.num, .int .i64 t.at_] ∧ s.data.toList = t.text := by
  cases h with
  | agg cs vs h1 h2 h3 =>
    obtain ⟨l⟩ := cs
    match l, h1, h2 with
    | [a, b, c, d], _, h2 =>
      have e0 := (h2 0 a (vI t.kind) rfl rfl).int_inv
      obtain ⟨s, e1, e1'⟩ := (h2 1 b (vS t.text) rfl rfl).str_inv
      have e2 := (h2 2 c (vI t.num) rfl rfl).int_inv
      have e3 := (h2 3 d (vI t.at_) rfl rfl).int_inv
      subst e0 e1 e2 e3
      exact ⟨s, rfl, e1'.symm⟩
    | [], h1, _ => simp at h1
    | [_], h1, _ => simp at h1
    | [_, _], h1, _ => simp at h1
    | [_, _, _], h1, _ => simp at h1
    | _ :: _ :: _ :: _ :: _ :: _, h1, _ => simp at h1

theorem pure_writ (t : Tok) (h6 : t.kind ≠ 6) (h7 : t.kind ≠ 7) (h8 : t.kind ≠ 8) : PureCall Tryd.prog GT 20 [vT t] (slB t.text) [] := by
  intro w F vals hF hG hR
  obtain ⟨hsz, hval⟩ := hR
  obtain ⟨l⟩ := vals
  match l, hsz, hval with
  | [v0], hsz, hval =>
    obtain ⟨s, rfl, hs⟩ := tok_inv (hval 0 v0 _ rfl rfl)
    refine (writ_walk t.kind t.num t.at_ s h6 h7 h8 w).mono ?_
    rintro ev w' ⟨cap, b, rfl, hcap, hb, hbb, hc⟩
    have hsl : s.size = t.text.length := by rw [← hs]; exact Lib.size_eq s
    by_cases h0 : s.size = 0
    · have ht : t.text = [] := List.length_eq_zero_iff.1 (by omega)
      rw [ht, h0]
      refine ⟨_, F, fun _ => none, rfl, hb, fun b h => .inl h, .d _ _ _ (.sl0 _ _ _ (fun h => by cases h)), nothing_new (fun b h => Nat.lt_of_lt_of_le (hF b h) hb.size)⟩
    · have hlt : b < w'.heap.size := by
        rcases Nat.lt_or_ge b w'.heap.size with h | h
        · exact h
        · have := hc 0 (by omega)
          simp [World.cell?, Array.getElem?_eq_none h] at this
      refine ⟨_, fun x => F x ∨ x = b, fun _ => none, rfl, hb, ?_, ?_, nothing_new ?_⟩
      · rintro x (h | h)
        · exact .inl h
        · subst h; exact .inr hbb
      · refine .d _ _ _ (.sl b 0 _ _ 1 _ (fun i j => .int .u8 (s.data.toList.getD i 0).toNat) (by rw [List.length_map]; exact hsl.symm) hcap ⟨.inr rfl, hbb⟩ ?_ ?_ ?_)
        · intro r hr
          obtain ⟨u, _, rfl⟩ := List.mem_map.1 hr
          rfl
        · intro i j r d hr hd
          rw [List.getElem?_map, Option.map_eq_some_iff] at hr
          obtain ⟨u, hu, rfl⟩ := hr
          obtain ⟨rfl, rfl⟩ : j = 0 ∧ d = .int .u8 u.toNat := by
            cases j with
            | zero => simpa [eU8, eq_comm] using hd
            | succ j => simp [eU8] at hd
          have hi : i < t.text.length := (List.getElem?_eq_some_iff.1 hu).1
          rw [show 0 + (i * 1 + 0) = i from by omega]
          exact hc i (by omega)
        · intro i j r d hr hd
          rw [List.getElem?_map, Option.map_eq_some_iff] at hr
          obtain ⟨u, hu, rfl⟩ := hr
          obtain ⟨rfl, rfl⟩ : j = 0 ∧ d = .int .u8 u.toNat := by
            cases j with
            | zero => simpa [eU8, eq_comm] using hd
            | succ j => simp [eU8] at hd
          have : s.data.toList.getD i 0 = u := by rw [hs, List.getD_eq_getElem?_getD, hu]; rfl
          simp only [this]
          exact .int _ _
      · rintro x (h | h)
        · exact Nat.lt_of_lt_of_le (hF x h) hb.size
        · subst h; exact hlt
  | [], hsz, _ => simp at hsz
  | _ :: _ :: _, hsz, _ => simp at hsz
end Go.Vm
end

section
namespace Go.Vm
open Go.Shelf Go.Proofs

noncomputable def z74 : Sp where
  α := UInt8
  f := 74
  ok := fun c => True
  args := fun c => [.d false (.int .u8 (c : UInt8).toNat)]
  res := fun c => (.d false (.bool (decide (clB c = 1))), [])
  inj := by
    rintro c c' _ _ h
    simp only [vS, vI, slT, vT_inj, List.cons.injEq, V.agg.injEq, V.d.injEq, D.sl.injEq, D.int.injEq, D.str.injEq, D.bool.injEq, D.ptr.injEq, Int.natCast_inj, UInt8.toNat_inj, mT, true_and, and_true] at h
    rw [h]
noncomputable def z75 : Sp where
  α := UInt8
  f := 75
  ok := fun c => True
  args := fun c => [.d false (.int .u8 (c : UInt8).toNat)]
  res := fun c => (.d false (.bool (decide (clB c = 2))), [])
  inj := by
    rintro c c' _ _ h
    simp only [vS, vI, slT, vT_inj, List.cons.injEq, V.agg.injEq, V.d.injEq, D.sl.injEq, D.int.injEq, D.str.injEq, D.bool.injEq, D.ptr.injEq, Int.natCast_inj, UInt8.toNat_inj, mT, true_and, and_true] at h
    rw [h]
noncomputable def z95 : Sp where
  α := UInt8
  f := 95
  ok := fun c => True
  args := fun c => [.d false (.int .u8 (c : UInt8).toNat)]
  res := fun c => (.d false (.bool (decide (clB c = 3))), [])
  inj := by
    rintro c c' _ _ h
    simp only [vS, vI, slT, vT_inj, List.cons.injEq, V.agg.injEq, V.d.injEq, D.sl.injEq, D.int.injEq, D.str.injEq, D.bool.injEq, D.ptr.injEq, Int.natCast_inj, UInt8.toNat_inj, mT, true_and, and_true] at h
    rw [h]
noncomputable def z86 : Sp where
  α := UInt8
  f := 86
  ok := fun c => True
  args := fun c => [.d false (.int .u8 (c : UInt8).toNat)]
  res := fun c => (.d false (.bool (decide (1 ≤ clB c) && decide (clB c ≤ 4))), [])
  inj := by
    rintro c c' _ _ h
    simp only [vS, vI, slT, vT_inj, List.cons.injEq, V.agg.injEq, V.d.injEq, D.sl.injEq, D.int.injEq, D.str.injEq, D.bool.injEq, D.ptr.injEq, Int.natCast_inj, UInt8.toNat_inj, mT, true_and, and_true] at h
    rw [h]
noncomputable def z79 : Sp where
  α := UInt8 × BS
  f := 79
  ok := fun (c, s) => (s.length ≤ 1000)
  args := fun (c, s) => [.d false (.int .u8 (c : UInt8).toNat), vS s]
  res := fun (c, s) => (.d false (.bool (decide (c ∈ s))), [])
  inj := by
    rintro ⟨c, s⟩ ⟨c', s'⟩ _ _ h
    simp only [vS, vI, slT, vT_inj, List.cons.injEq, V.agg.injEq, V.d.injEq, D.sl.injEq, D.int.injEq, D.str.injEq, D.bool.injEq, D.ptr.injEq, Int.natCast_inj, UInt8.toNat_inj, mT, true_and, and_true] at h
    simp only [h]
noncomputable def z77 : Sp where
  α := UInt8
  f := 77
  ok := fun c => True
  args := fun c => [.d false (.int .u8 (c : UInt8).toNat)]
  res := fun c => (.d false (.bool (decide (clB c = 5))), [])
  inj := by
    rintro c c' _ _ h
    simp only [vS, vI, slT, vT_inj, List.cons.injEq, V.agg.injEq, V.d.injEq, D.sl.injEq, D.int.injEq, D.str.injEq, D.bool.injEq, D.ptr.injEq, Int.natCast_inj, UInt8.toNat_inj, mT, true_and, and_true] at h
    rw [h]
noncomputable def z57 : Sp where
  α := UInt8
  f := 57
  ok := fun c => True
  args := fun c => [.d false (.int .u8 (c : UInt8).toNat)]
  res := fun c => (.d false (.bool (spcB c)), [])
  inj := by
    rintro c c' _ _ h
    simp only [vS, vI, slT, vT_inj, List.cons.injEq, V.agg.injEq, V.d.injEq, D.sl.injEq, D.int.injEq, D.str.injEq, D.bool.injEq, D.ptr.injEq, Int.natCast_inj, UInt8.toNat_inj, mT, true_and, and_true] at h
    rw [h]
noncomputable def z76 : Sp where
  α := BS × Nat
  f := 76
  ok := fun (s, i) => (i ≤ s.length) ∧ (s.length ≤ 4611686018427387903)
  args := fun (s, i) => [vS s, vI i]
  res := fun (s, i) => (vI ((i + nameL (s.drop i) : Nat)), [])
  inj := by
    rintro ⟨s, i⟩ ⟨s', i'⟩ _ _ h
    simp only [vS, vI, slT, vT_inj, List.cons.injEq, V.agg.injEq, V.d.injEq, D.sl.injEq, D.int.injEq, D.str.injEq, D.bool.injEq, D.ptr.injEq, Int.natCast_inj, UInt8.toNat_inj, mT, true_and, and_true] at h
    simp only [h]
noncomputable def z55 : Sp where
  α := BS × Nat
  f := 55
  ok := fun (s, i) => (i ≤ s.length) ∧ (s.length ≤ 4611686018427387903)
  args := fun (s, i) => [vS s, vI i]
  res := fun (s, i) => (vI ((i + runL 5 (s.drop i) : Nat)), [])
  inj := by
    rintro ⟨s, i⟩ ⟨s', i'⟩ _ _ h
    simp only [vS, vI, slT, vT_inj, List.cons.injEq, V.agg.injEq, V.d.injEq, D.sl.injEq, D.int.injEq, D.str.injEq, D.bool.injEq, D.ptr.injEq, Int.natCast_inj, UInt8.toNat_inj, mT, true_and, and_true] at h
    simp only [h]
noncomputable def z78 : Sp where
  α := BS
  f := 78
  ok := fun s => (s.length ≤ 4611686018427387903)
  args := fun s => [vS s]
  res := fun s => (.d false (.bool (dsh s)), [])
  inj := by
    rintro s s' _ _ h
    simp only [vS, vI, slT, vT_inj, List.cons.injEq, V.agg.injEq, V.d.injEq, D.sl.injEq, D.int.injEq, D.str.injEq, D.bool.injEq, D.ptr.injEq, Int.natCast_inj, UInt8.toNat_inj, mT, true_and, and_true] at h
    rw [h]
noncomputable def z58 : Sp where
  α := BS
  f := 58
  ok := fun s => True
  args := fun s => [vS s]
  res := fun s => (.d false (.bool (resv s)), [])
  inj := by
    rintro s s' _ _ h
    simp only [vS, vI, slT, vT_inj, List.cons.injEq, V.agg.injEq, V.d.injEq, D.sl.injEq, D.int.injEq, D.str.injEq, D.bool.injEq, D.ptr.injEq, Int.natCast_inj, UInt8.toNat_inj, mT, true_and, and_true] at h
    rw [h]
noncomputable def z53 : Sp where
  α := BS
  f := 53
  ok := fun s => (s.length ≤ 4611686018427387903)
  args := fun s => [vS s]
  res := fun s => (vI (ptI s), [])
  inj := by
    rintro s s' _ _ h
    simp only [vS, vI, slT, vT_inj, List.cons.injEq, V.agg.injEq, V.d.injEq, D.sl.injEq, D.int.injEq, D.str.injEq, D.bool.injEq, D.ptr.injEq, Int.natCast_inj, UInt8.toNat_inj, mT, true_and, and_true] at h
    rw [h]
noncomputable def z54 : Sp where
  α := BS × Bool
  f := 54
  ok := fun (s, b) => (s.length ≤ 4611686018427387903)
  args := fun (s, b) => [vS s, .d false (.bool b)]
  res := fun (s, b) => (.d false (.bool (namedS s b)), [])
  inj := by
    rintro ⟨s, b⟩ ⟨s', b'⟩ _ _ h
    simp only [vS, vI, slT, vT_inj, List.cons.injEq, V.agg.injEq, V.d.injEq, D.sl.injEq, D.int.injEq, D.str.injEq, D.bool.injEq, D.ptr.injEq, Int.natCast_inj, UInt8.toNat_inj, mT, true_and, and_true] at h
    simp only [h]
noncomputable def z56 : Sp where
  α := BS
  f := 56
  ok := fun s => (s ≠ []) ∧ (s.length ≤ 4611686018427387903)
  args := fun s => [vS s]
  res := fun s => (vI (kindS s), [])
  inj := by
    rintro s s' _ _ h
    simp only [vS, vI, slT, vT_inj, List.cons.injEq, V.agg.injEq, V.d.injEq, D.sl.injEq, D.int.injEq, D.str.injEq, D.bool.injEq, D.ptr.injEq, Int.natCast_inj, UInt8.toNat_inj, mT, true_and, and_true] at h
    rw [h]
noncomputable def z34 : Sp where
  α := Int × BS
  f := 34
  ok := fun (k, s) => (s.length ≤ 4611686018427387903)
  args := fun (k, s) => [vI k, vS s]
  res := fun (k, s) => (.d false (.bool (formedS k s)), [])
  inj := by
    rintro ⟨k, s⟩ ⟨k', s'⟩ _ _ h
    simp only [vS, vI, slT, vT_inj, List.cons.injEq, V.agg.injEq, V.d.injEq, D.sl.injEq, D.int.injEq, D.str.injEq, D.bool.injEq, D.ptr.injEq, Int.natCast_inj, UInt8.toNat_inj, mT, true_and, and_true] at h
    simp only [h]
noncomputable def z19 : Sp where
  α := Tok
  f := 19
  ok := fun t => (t.text.length ≤ 4611686018427387903)
  args := fun t => [vT t]
  res := fun t => (.d false (.bool (isS t)), [])
  inj := by
    rintro t t' _ _ h
    simp only [vS, vI, slT, vT_inj, List.cons.injEq, V.agg.injEq, V.d.injEq, D.sl.injEq, D.int.injEq, D.str.injEq, D.bool.injEq, D.ptr.injEq, Int.natCast_inj, UInt8.toNat_inj, mT, true_and, and_true] at h
    rw [h]
noncomputable def z36 : Sp where
  α := UInt8 × UInt8
  f := 36
  ok := fun (c, q) => True
  args := fun (c, q) => [vI c.toNat, .d false (.int .u8 (q : UInt8).toNat)]
  res := fun (c, q) => (slB (escB q c), [])
  inj := by
    rintro ⟨c, q⟩ ⟨c', q'⟩ _ _ h
    simp only [vS, vI, slT, vT_inj, List.cons.injEq, V.agg.injEq, V.d.injEq, D.sl.injEq, D.int.injEq, D.str.injEq, D.bool.injEq, D.ptr.injEq, Int.natCast_inj, UInt8.toNat_inj, mT, true_and, and_true] at h
    simp only [h]
noncomputable def z35 : Sp where
  α := Nat
  f := 35
  ok := fun n => (n ≤ 4611686018427387903)
  args := fun n => [vI n]
  res := fun n => (slB (Lib.decDigits n), [])
  inj := by
    rintro n n' _ _ h
    simp only [vS, vI, slT, vT_inj, List.cons.injEq, V.agg.injEq, V.d.injEq, D.sl.injEq, D.int.injEq, D.str.injEq, D.bool.injEq, D.ptr.injEq, Int.natCast_inj, UInt8.toNat_inj, mT, true_and, and_true] at h
    rw [h]
noncomputable def z20 : Sp where
  α := Tok
  f := 20
  ok := fun t => (okR t)
  args := fun t => [vT t]
  res := fun t => (slB (writR t), [])
  inj := by
    rintro t t' _ _ h
    simp only [vS, vI, slT, vT_inj, List.cons.injEq, V.agg.injEq, V.d.injEq, D.sl.injEq, D.int.injEq, D.str.injEq, D.bool.injEq, D.ptr.injEq, Int.natCast_inj, UInt8.toNat_inj, mT, true_and, and_true] at h
    rw [h]
noncomputable def z10 : Sp where
  α := List Tok
  f := 10
  ok := fun l => (TokL l)
  args := fun l => [slT l]
  res := fun l => (printRV l, [])
  inj := by
    rintro l l' _ _ h
    simp only [vS, vI, slT, vT_inj, List.cons.injEq, V.agg.injEq, V.d.injEq, D.sl.injEq, D.int.injEq, D.str.injEq, D.bool.injEq, D.ptr.injEq, Int.natCast_inj, UInt8.toNat_inj, mT, true_and, and_true] at h
    rw [h]
theorem k74_of {L E} (h : Has L z74) : K74 (cx GT L E) := fun c => h c trivial
theorem k75_of {L E} (h : Has L z75) : K75 (cx GT L E) := fun c => h c trivial
theorem k95_of {L E} (h : Has L z95) : K95 (cx GT L E) := fun c => h c trivial
theorem k86_of {L E} (h : Has L z86) : K86 (cx GT L E) := fun c => h c trivial
theorem k79_of {L E} (h : Has L z79) : K79 (cx GT L E) := fun c s h1 => h (c, s) h1
theorem k77_of {L E} (h : Has L z77) : K77 (cx GT L E) := fun c => h c trivial
theorem k57_of {L E} (h : Has L z57) : K57 (cx GT L E) := fun c => h c trivial
theorem k76_of {L E} (h : Has L z76) : K76 (cx GT L E) := fun s i h1 h2 => h (s, i) ⟨h1, h2⟩
theorem k55_of {L E} (h : Has L z55) : K55 (cx GT L E) := fun s i h1 h2 => h (s, i) ⟨h1, h2⟩
theorem k78_of {L E} (h : Has L z78) : K78 (cx GT L E) := fun s h1 => h s h1
theorem k58_of {L E} (h : Has L z58) : K58 (cx GT L E) := fun s => h s trivial
theorem k53_of {L E} (h : Has L z53) : K53 (cx GT L E) := fun s h1 => h s h1
theorem k54_of {L E} (h : Has L z54) : K54 (cx GT L E) := fun s b h1 => h (s, b) h1
theorem k56_of {L E} (h : Has L z56) : K56 (cx GT L E) := fun s h1 h2 => h s ⟨h1, h2⟩
theorem k34_of {L E} (h : Has L z34) : K34 (cx GT L E) := fun k s h1 => h (k, s) h1
theorem k19_of {L E} (h : Has L z19) : K19 (cx GT L E) := fun t h1 => h t h1
theorem k36_of {L E} (h : Has L z36) : K36 (cx GT L E) := fun c q => h (c, q) trivial
theorem k35_of {L E} (h : Has L z35) : K35 (cx GT L E) := fun n h1 => h n h1
theorem k20_of {L E} (h : Has L z20) : K20 (cx GT L E) := fun t h1 => h t h1
theorem k10_of {L E} (h : Has L z10) : K10 (cx GT L E) := fun l h1 => h l h1
noncomputable def NR30 : List Sp := z74 :: N29
theorem znR30 : Known Tryd.prog GT NR30 EE := by
  exact zn29.add mixedD (fun c _ => f74_ok) (fun c _ => ⟨_, ev_small _ c⟩)
noncomputable def NR31 : List Sp := z75 :: NR30
theorem znR31 : Known Tryd.prog GT NR31 EE := by
  exact znR30.add mixedD (fun c _ => f75_ok) (fun c _ => ⟨_, ev_capital _ c⟩)
noncomputable def NR32 : List Sp := z95 :: NR31
theorem znR32 : Known Tryd.prog GT NR32 EE := by
  exact znR31.add mixedD (fun c _ => f95_ok) (fun c _ => ⟨_, ev_digit _ c⟩)
noncomputable def NR33 : List Sp := z86 :: NR32
theorem znR33 : Known Tryd.prog GT NR33 EE := by
  have k74 := k74_of (E := EE) (show Has NR32 z74 by repeat (first | exact has_head _ _ | refine has_tail ?_ (by decide)))
  have k75 := k75_of (E := EE) (show Has NR32 z75 by repeat (first | exact has_head _ _ | refine has_tail ?_ (by decide)))
  have k95 := k95_of (E := EE) (show Has NR32 z95 by repeat (first | exact has_head _ _ | refine has_tail ?_ (by decide)))
  exact znR32.add mixedD (fun c _ => f86_ok) (fun c _ => ⟨_, ev_sign _ k74 k75 k95 c⟩)
noncomputable def NR34 : List Sp := z79 :: NR33
theorem znR34 : Known Tryd.prog GT NR34 EE := by
  exact znR33.add mixedD (fun ⟨c, s⟩ _ => f79_ok) (fun ⟨c, s⟩ h1 => ⟨_, ev_among _ c s h1⟩)
noncomputable def NR35 : List Sp := z77 :: NR34
theorem znR35 : Known Tryd.prog GT NR35 EE := by
  have k79 := k79_of (E := EE) (show Has NR34 z79 by repeat (first | exact has_head _ _ | refine has_tail ?_ (by decide)))
  exact znR34.add mixedD (fun c _ => f77_ok) (fun c _ => ⟨_, ev_operator _ k79 c⟩)
noncomputable def NR36 : List Sp := z57 :: NR35
theorem znR36 : Known Tryd.prog GT NR36 EE := by
  have k79 := k79_of (E := EE) (show Has NR35 z79 by repeat (first | exact has_head _ _ | refine has_tail ?_ (by decide)))
  exact znR35.add mixedD (fun c _ => f57_ok) (fun c _ => ⟨_, ev_special _ k79 c⟩)
noncomputable def NR37 : List Sp := z76 :: NR36
theorem znR37 : Known Tryd.prog GT NR37 EE := by
  have k86 := k86_of (E := EE) (show Has NR36 z86 by repeat (first | exact has_head _ _ | refine has_tail ?_ (by decide)))
  exact znR36.add mixedD (fun ⟨s, i⟩ _ => f76_ok) (fun ⟨s, i⟩ ⟨h1, h2⟩ => ⟨_, ev_signs _ k86 s i h1 h2⟩)
noncomputable def NR38 : List Sp := z55 :: NR37
theorem znR38 : Known Tryd.prog GT NR38 EE := by
  have k77 := k77_of (E := EE) (show Has NR37 z77 by repeat (first | exact has_head _ _ | refine has_tail ?_ (by decide)))
  exact znR37.add mixedD (fun ⟨s, i⟩ _ => f55_ok) (fun ⟨s, i⟩ ⟨h1, h2⟩ => ⟨_, ev_run5 _ k77 s i h1 h2⟩)
noncomputable def NR39 : List Sp := z78 :: NR38
theorem znR39 : Known Tryd.prog GT NR39 EE := by
  exact znR38.add mixedD (fun s _ => f78_ok) (fun s h1 => ⟨_, ev_dashesR _ s h1⟩)
noncomputable def NR40 : List Sp := z58 :: NR39
theorem znR40 : Known Tryd.prog GT NR40 EE := by
  exact znR39.add mixedD (fun s _ => f58_ok) (fun s _ => ⟨_, ev_reservedR _ s⟩)
noncomputable def NR41 : List Sp := z53 :: NR40
theorem znR41 : Known Tryd.prog GT NR41 EE := by
  exact znR40.add mixedD (fun s _ => f53_ok) (fun s h1 => ⟨_, ev_point _ s h1⟩)
noncomputable def NR42 : List Sp := z54 :: NR41
theorem znR42 : Known Tryd.prog GT NR42 EE := by
  have k74 := k74_of (E := EE) (show Has NR41 z74 by repeat (first | exact has_head _ _ | refine has_tail ?_ (by decide)))
  have k75 := k75_of (E := EE) (show Has NR41 z75 by repeat (first | exact has_head _ _ | refine has_tail ?_ (by decide)))
  have k76 := k76_of (E := EE) (show Has NR41 z76 by repeat (first | exact has_head _ _ | refine has_tail ?_ (by decide)))
  have k58 := k58_of (E := EE) (show Has NR41 z58 by repeat (first | exact has_head _ _ | refine has_tail ?_ (by decide)))
  exact znR41.add mixedD (fun ⟨s, b⟩ _ => f54_ok) (fun ⟨s, b⟩ h1 => ⟨_, ev_named _ k74 k75 k76 k58 s b h1⟩)
noncomputable def NR43 : List Sp := z56 :: NR42
theorem znR43 : Known Tryd.prog GT NR43 EE := by
  have k78 := k78_of (E := EE) (show Has NR42 z78 by repeat (first | exact has_head _ _ | refine has_tail ?_ (by decide)))
  exact znR42.add mixedD (fun s _ => f56_ok) (fun s ⟨h1, h2⟩ => ⟨_, ev_kindOf _ k78 s h1 h2⟩)
noncomputable def NR44 : List Sp := z34 :: NR43
theorem znR44 : Known Tryd.prog GT NR44 EE := by
  have k53 := k53_of (E := EE) (show Has NR43 z53 by repeat (first | exact has_head _ _ | refine has_tail ?_ (by decide)))
  have k54 := k54_of (E := EE) (show Has NR43 z54 by repeat (first | exact has_head _ _ | refine has_tail ?_ (by decide)))
  have k55 := k55_of (E := EE) (show Has NR43 z55 by repeat (first | exact has_head _ _ | refine has_tail ?_ (by decide)))
  have k56 := k56_of (E := EE) (show Has NR43 z56 by repeat (first | exact has_head _ _ | refine has_tail ?_ (by decide)))
  have k57 := k57_of (E := EE) (show Has NR43 z57 by repeat (first | exact has_head _ _ | refine has_tail ?_ (by decide)))
  have k58 := k58_of (E := EE) (show Has NR43 z58 by repeat (first | exact has_head _ _ | refine has_tail ?_ (by decide)))
  exact znR43.add mixedD (fun ⟨k, s⟩ _ => f34_ok) (fun ⟨k, s⟩ h1 => ⟨_, ev_formed _ k53 k54 k55 k56 k57 k58 k s h1⟩)
noncomputable def NR45 : List Sp := z19 :: NR44
theorem znR45 : Known Tryd.prog GT NR45 EE := by
  have k34 := k34_of (E := EE) (show Has NR44 z34 by repeat (first | exact has_head _ _ | refine has_tail ?_ (by decide)))
  exact znR44.add mixedD (fun t _ => f19_ok) (fun t h1 => ⟨_, ev_Is _ k34 t h1⟩)
noncomputable def NR46 : List Sp := z36 :: NR45
theorem znR46 : Known Tryd.prog GT NR46 EE := by
  exact znR45.add mixedD (fun ⟨c, q⟩ _ => f36_ok) (fun ⟨c, q⟩ _ => ⟨_, ev_told _ c q⟩)
noncomputable def NR47 : List Sp := z35 :: NR46
theorem znR47 : Known Tryd.prog GT NR47 EE := by
  exact znR46.add mixedD (fun n _ => f35_ok) (fun n h1 => ⟨_, ev_tens _ n h1⟩)
noncomputable def NR48 : List Sp := z20 :: NR47
theorem znR48 : Known Tryd.prog GT NR48 EE := by
  have k35 := k35_of (E := EE) (show Has NR47 z35 by repeat (first | exact has_head _ _ | refine has_tail ?_ (by decide)))
  have k36 := k36_of (E := EE) (show Has NR47 z36 by repeat (first | exact has_head _ _ | refine has_tail ?_ (by decide)))
  refine znR47.put (fun t h1 => ⟨by kernel_rfl, ?_⟩)
  by_cases g : t.kind = 6 ∨ t.kind = 7 ∨ t.kind = 8
  · exact (pure_sound (args := [vT t]) mixedD znR47.sound f20_ok (ev_writtenR _ k35 k36 t h1 g)).2
  · have e : writR t = t.text := by unfold writR; rw [if_neg (fun h => g (.inl h)), if_neg (fun h => g (.inr (.inl h))), if_neg (fun h => g (.inr (.inr h)))]
    show PureCall Tryd.prog GT 20 [vT t] (slB (writR t)) []
    rw [e]
    exact pure_writ t (fun h => g (.inl h)) (fun h => g (.inr (.inl h))) (fun h => g (.inr (.inr h)))
noncomputable def NR49 : List Sp := z10 :: NR48
theorem znR49 : Known Tryd.prog GT NR49 EE := by
  have k19 := k19_of (E := EE) (show Has NR48 z19 by repeat (first | exact has_head _ _ | refine has_tail ?_ (by decide)))
  have k20 := k20_of (E := EE) (show Has NR48 z20 by repeat (first | exact has_head _ _ | refine has_tail ?_ (by decide)))
  exact znR48.add mixedD (fun l _ => f10_ok) (fun l h1 => ⟨_, ev_PrintR _ k19 k20 l h1⟩)
end Go.Vm
end

section
namespace Go.Vm
open Go.Proofs Go.RowKit

def cT (t : Tok) : List Value := [.int .i64 t.kind, .string ⟨t.text.toArray⟩, .int .i64 t.num, .int .i64 t.at_]
def cL : List Tok → List Value
  | [] => []
  | t :: l => cT t ++ cL l
theorem cL_len : ∀ l : List Tok, (cL l).length = l.length * 4
  | [] => rfl
  | t :: l => by
    have := cL_len l
    simp only [cL, List.length_append, List.length_cons, cT, List.length_nil]
    omega
theorem cL_at : ∀ (l : List Tok) (i j : Nat) (t : Tok), l[i]? = some t → j < 4 → (cL l)[i * 4 + j]? = (cT t)[j]?
  | [], i, j, t, h, _ => by simp at h
  | u :: l, 0, j, t, h, hj => by
    simp only [List.getElem?_cons_zero, Option.some.injEq] at h
    subst h
    simp only [cL, Nat.zero_mul, Nat.zero_add]
    rw [List.getElem?_append_left (by simp [cT]; omega)]
  | u :: l, i + 1, j, t, h, hj => by
    simp only [List.getElem?_cons_succ] at h
    simp only [cL]
    rw [List.getElem?_append_right (by simp [cT]; omega)]
    have := cL_at l i j t h hj
    rw [← this]
    congr 1
    simp [cT]; omega
theorem cL_get {l : List Tok} {k : Nat} {c : Value} (h : (cL l)[k]? = some c) : ∃ i j t, k = i * 4 + j ∧ j < 4 ∧ l[i]? = some t ∧ (cT t)[j]? = some c := by
  have hk : k < l.length * 4 := by rw [← cL_len]; exact (List.getElem?_eq_some_iff.1 h).1
  have hi : k / 4 < l.length := by omega
  refine ⟨k / 4, k % 4, l[k / 4], by omega, by omega, List.getElem?_eq_getElem hi, ?_⟩
  rw [← cL_at l (k / 4) (k % 4) _ (List.getElem?_eq_getElem hi) (by omega), show k / 4 * 4 + k % 4 = k from by omega]
  exact h
theorem cL_one (l : List Tok) : ∀ v ∈ cL l, v.oneCell' = true := by
  induction l with
  | nil => intro v hv; simp [cL] at hv
  | cons t l ih =>
    intro v hv
    simp only [cL, List.mem_append] at hv
    rcases hv with h | h
    · simp only [cT, List.mem_cons, List.not_mem_nil, or_false] at h
      rcases h with rfl | rfl | rfl | rfl <;> rfl
    · exact ih v h
theorem repD_strA {w : World} {F : Nat → Prop} {v : Value} {s : BS} (h : RepD w F v (.str s)) : v = .string ⟨s.toArray⟩ := by
  cases h with | str t => rfl

theorem row_inv {w : World} {F : Nat → Prop} {base : Nat} {σ : Nat → Option Loc} {v : Value} {l : List Tok} (h : RepV w F base σ v (slT l)) :
    ∃ a cap, v = .slice a l.length cap ∧ l.length ≤ cap ∧ (a = none → cap = 0) ∧ (l ≠ [] → ∃ b o, a = some ⟨b, o, none⟩ ∧ F b ∧ ∀ j c, (cL l)[j]? = some c → w.cell? ⟨b, o + j, none⟩ = some c) := by
  change RepV w F base σ v (.d false (.sl 4 (l.map eTok))) at h
  generalize hx : (l.map eTok) = rows at h
  cases h with
  | d c v x h =>
  generalize hy : D.sl 4 rows = y at h
  cases h with
  | sl0 a cap k hc =>
    injection hy with _ hr
    rw [hr] at hx
    have : l = [] := by simpa using hx
    subst this
    exact ⟨a, cap, rfl, Nat.zero_le _, hc, fun h => absurd rfl h⟩
  | sl b o len cap k rows g h1 h2 h3 h4 h5 h6 =>
    injection hy with hk hr
    subst hk hr hx
    rw [List.length_map] at h1
    subst h1
    refine ⟨_, cap, rfl, h2, (fun h => by cases h), fun _ => ⟨b, o, rfl, h3, fun k c hc => ?_⟩⟩
    obtain ⟨i, j, t, rfl, hj, ht, hc⟩ := cL_get hc
    have hrow : (l.map eTok)[i]? = some (eTok t) := by rw [List.getElem?_map, ht]; rfl
    match j, hj, hc with
    | 0, _, hc =>
      have e := h5 i 0 _ _ hrow rfl
      rw [repD_int (h6 i 0 _ _ hrow rfl)] at e
      simp only [cT, List.getElem?_cons_zero, Option.some.injEq] at hc
      rw [← hc]; exact e
    | 1, _, hc =>
      have e := h5 i 1 _ _ hrow rfl
      rw [repD_strA (h6 i 1 _ _ hrow rfl)] at e
      simp only [cT, List.getElem?_cons_zero, List.getElem?_cons_succ, Option.some.injEq] at hc
      rw [← hc]; exact e
    | 2, _, hc =>
      have e := h5 i 2 _ _ hrow rfl
      rw [repD_int (h6 i 2 _ _ hrow rfl)] at e
      simp only [cT, List.getElem?_cons_zero, List.getElem?_cons_succ, Option.some.injEq] at hc
      rw [← hc]; exact e
    | 3, _, hc =>
      have e := h5 i 3 _ _ hrow rfl
      rw [repD_int (h6 i 3 _ _ hrow rfl)] at e
      simp only [cT, List.getElem?_cons_zero, List.getElem?_cons_succ, Option.some.injEq] at hc
      rw [← hc]; exact e
    | j + 4, hj, _ => omega
  | _ => cases hy
theorem row_rep {w : World} {F : Nat → Prop} {base : Nat} {σ : Nat → Option Loc} {b o cap : Nat} {l : List Tok} (hb : F b) (hl : l.length ≤ cap) (h : ∀ j c, (cL l)[j]? = some c → w.cell? ⟨b, o + j, none⟩ = some c) :
    RepV w F base σ (.slice (some ⟨b, o, none⟩) l.length cap) (slT l) := by
  have key : ∀ (i j : Nat) (r : List D) (d : D), (l.map eTok)[i]? = some r → r[j]? = some d → ∃ t, l[i]? = some t ∧ j < 4 ∧ (eTok t)[j]? = some d := by
    intro i j r d hr hd
    rw [List.getElem?_map, Option.map_eq_some_iff] at hr
    obtain ⟨t, ht, rfl⟩ := hr
    have := (List.getElem?_eq_some_iff.1 hd).1
    exact ⟨t, ht, this, hd⟩
  refine .d _ _ _ (.sl b o _ _ 4 _ (fun i j => (cL l).getD (i * 4 + j) undef) (by rw [List.length_map]) hl hb ?_ ?_ ?_)
  · intro r hr
    obtain ⟨u, _, rfl⟩ := List.mem_map.1 hr
    rfl
  · intro i j r d hr hd
    obtain ⟨t, ht, hj, hd⟩ := key i j r d hr hd
    have e := cL_at l i j t ht hj
    have hx : ∃ c, (cT t)[j]? = some c := ⟨_, List.getElem?_eq_getElem (by simp [cT]; omega)⟩
    obtain ⟨c, hc⟩ := hx
    rw [hc] at e
    rw [List.getD_eq_getElem?_getD, e]
    exact h _ _ e
  · intro i j r d hr hd
    obtain ⟨t, ht, hj, hd⟩ := key i j r d hr hd
    have e := cL_at l i j t ht hj
    rw [List.getD_eq_getElem?_getD, e]
    match j, hj, hd with
    | 0, _, hd =>
      simp only [eTok, List.getElem?_cons_zero, Option.some.injEq] at hd
      subst hd; exact .int _ _
    | 1, _, hd =>
      simp only [eTok, List.getElem?_cons_zero, List.getElem?_cons_succ, Option.some.injEq] at hd
      subst hd; exact .str ⟨t.text.toArray⟩
    | 2, _, hd =>
      simp only [eTok, List.getElem?_cons_zero, List.getElem?_cons_succ, Option.some.injEq] at hd
      subst hd; exact .int _ _
    | 3, _, hd =>
      simp only [eTok, List.getElem?_cons_zero, List.getElem?_cons_succ, Option.some.injEq] at hd
      subst hd; exact .int _ _
    | j + 4, hj, _ => omega

def RowAt (B : Nat) (w : World) (v : Value) (l : List Tok) : Prop :=
  ∃ a cap, v = .slice a l.length cap ∧ l.length ≤ cap ∧ (a = none → cap = 0) ∧ (l ≠ [] → ∃ b o, a = some ⟨b, o, none⟩ ∧ b < B ∧ ∀ j c, (cL l)[j]? = some c → w.cell? ⟨b, o + j, none⟩ = some c)
theorem RowAt.rep {B : Nat} {w : World} {v : Value} {l : List Tok} (h : RowAt B w v l) (hB : B ≤ w.heap.size) {base : Nat} {σ : Nat → Option Loc} : RepV w (There w) base σ v (slT l) := by
  obtain ⟨a, cap, rfl, h1, h2, h3⟩ := h
  by_cases g : l = []
  · subst g
    exact .d _ _ _ (.sl0 a cap 4 h2)
  · obtain ⟨b, o, rfl, hb, hc⟩ := h3 g
    exact row_rep (show b < w.heap.size by omega) h1 hc
theorem RowAt.keep {B : Nat} {w w' : World} {v : Value} {l : List Tok} (h : RowAt B w v l) (hk : ∀ b, b < B → w'.heap[b]? = w.heap[b]?) : RowAt B w' v l := by
  obtain ⟨a, cap, rfl, h1, h2, h3⟩ := h
  refine ⟨a, cap, rfl, h1, h2, fun g => ?_⟩
  obtain ⟨b, o, rfl, hb, hc⟩ := h3 g
  exact ⟨b, o, rfl, hb, fun j c hj => by rw [World.cell?_of_block (w := w) (hk b hb)]; exact hc j c hj⟩
theorem glob_keep {w w' : World} (hG : GlobRel w (There w) GT) (hs : w.heap.size ≤ w'.heap.size) (hb : ∀ b, b < w.heap.size → w'.heap[b]? = w.heap[b]?) : GlobRel w' (There w') GT :=
  hG.mono fun b h => ⟨Nat.lt_of_lt_of_le h hs, hb b h⟩

theorem call_of {f : FuncId} {args : List V} {r : V} {vals : Array Value} {w : World} (hP : PureCall Tryd.prog GT f args r []) (hG : GlobRel w (There w) GT) (hR : Reps w (There w) w.heap.size (fun _ => none) vals args) :
    Calls Tryd.prog f vals w fun e w' => ∃ v F' σ', e = .returned v ∧ Below w.heap.size w w' ∧ RepV w' F' w.heap.size σ' v r :=
  (hP w (There w) vals (fun b h => h) hG hR).mono fun e w' ⟨v, F', σ', he, hb, _, hr, _⟩ => ⟨v, F', σ', he, hb, hr⟩
theorem pr_inv {w : World} {F : Nat → Prop} {base : Nat} {σ : Nat → Option Loc} {v : Value} {s : BS} {n : Int} (h : RepV w F base σ v (.tup [vS s, vI n])) : v = .tuple #[.string ⟨s.toArray⟩, .int .i64 n] := by
  cases h with
  | tup cs vs h1 h2 =>
    obtain ⟨l⟩ := cs
    match l, h1, h2 with
    | [a, b], _, h2 =>
      obtain ⟨t, e0, e0'⟩ := (h2 0 a (vS s) rfl rfl).str_inv
      have e1 := (h2 1 b (vI n) rfl rfl).int_inv
      subst e0 e1
      rw [e0']
    | [], h1, _ => simp at h1
    | [_], h1, _ => simp at h1
    | _ :: _ :: _ :: _, h1, _ => simp at h1
theorem reps_one {w : World} {v : Value} {x : V} (h : RepV w (There w) w.heap.size (fun _ => none) v x) : Reps w (There w) w.heap.size (fun _ => none) #[v] [x] :=
  ⟨rfl, fun j a b ha hb => by
    match j, ha, hb with
    | 0, ha, hb => simp at ha hb; subst ha hb; exact h
    | j + 1, ha, hb => simp at ha⟩
theorem reps_two {w : World} {v u : Value} {x y : V} (h : RepV w (There w) w.heap.size (fun _ => none) v x) (h' : RepV w (There w) w.heap.size (fun _ => none) u y) : Reps w (There w) w.heap.size (fun _ => none) #[v, u] [x, y] :=
  ⟨rfl, fun j a b ha hb => by
    match j, ha, hb with
    | 0, ha, hb => simp at ha hb; subst ha hb; exact h
    | 1, ha, hb => simp at ha hb; subst ha hb; exact h'
    | j + 2, ha, hb => simp at ha⟩

theorem c9 {w : World} (hG : GlobRel w (There w) GT) : Calls Tryd.prog 9 #[] w fun e w' => e = .returned (.bool true) ∧ Below w.heap.size w w' := by
  have hP := (znR49.one z9 (by repeat (first | exact List.mem_cons_self .. | refine List.mem_cons_of_mem _ ?_)) () trivial).2
  refine (call_of hP hG ⟨rfl, fun j a b ha hb => by simp at ha⟩).mono ?_
  rintro e w' ⟨v, F', σ', rfl, hb, hr⟩
  exact ⟨by rw [hr.bool_inv], hb⟩
theorem c10 {B : Nat} {w : World} (hG : GlobRel w (There w) GT) (hB : B ≤ w.heap.size) {v : Value} {l : List Tok} (hl : TokL l) (h : RowAt B w v l) :
    Calls Tryd.prog 10 #[v] w fun e w' => e = .returned (.tuple #[.string ⟨(printS l).1.toArray⟩, .int .i64 (printS l).2]) ∧ Below w.heap.size w w' := by
  have hP := (znR49.one z10 (by repeat (first | exact List.mem_cons_self .. | refine List.mem_cons_of_mem _ ?_)) l hl).2
  refine (call_of hP hG (reps_one (h.rep hB))).mono ?_
  rintro e w' ⟨v, F', σ', rfl, hb, hr⟩
  have e : (z10.res l).1 = .tup [vS (printS l).1, vI (printS l).2] := by
    show printRV l = _
    unfold printRV
    rw [print_same hl]
  rw [e] at hr
  exact ⟨by rw [pr_inv hr], hb⟩
theorem c11 {B : Nat} {w : World} (hG : GlobRel w (There w) GT) (hB : B ≤ w.heap.size) {v : Value} {l : List Tok} (hl : TokL l) (h : RowAt B w v l) :
    Calls Tryd.prog 11 #[v] w fun e w' => e = .returned (.tuple #[.string ⟨(printS l).1.toArray⟩, .int .i64 (printS l).2]) ∧ Below w.heap.size w w' := by
  have hP := (znR49.one z11 (by repeat (first | exact List.mem_cons_self .. | refine List.mem_cons_of_mem _ ?_)) l hl).2
  refine (call_of hP hG (reps_one (h.rep hB))).mono ?_
  rintro e w' ⟨v, F', σ', rfl, hb, hr⟩
  have e : (z11.res l).1 = .tup [vS (printS l).1, vI (printS l).2] := rfl
  rw [e] at hr
  exact ⟨by rw [pr_inv hr], hb⟩
theorem c12 {B : Nat} {w : World} (hG : GlobRel w (There w) GT) (hB : B ≤ w.heap.size) {v u : Value} {l m : List Tok} (hl : l.length ≤ 4611686018427387903) (hm : m.length ≤ 4611686018427387903) (h : RowAt B w v l) (h' : RowAt B w u m) :
    Calls Tryd.prog 12 #[v, u] w fun e w' => e = .returned (.bool (decide (l = m))) ∧ Below w.heap.size w w' := by
  have hP := (znR49.one z12 (by repeat (first | exact List.mem_cons_self .. | refine List.mem_cons_of_mem _ ?_)) (l, m) ⟨hl, hm⟩).2
  refine (call_of hP hG (reps_two (h.rep hB) (h'.rep hB))).mono ?_
  rintro e w' ⟨v, F', σ', rfl, hb, hr⟩
  exact ⟨by rw [RepV.bool_inv hr], hb⟩

section
variable {P : Program}
theorem run_copy4 (w : World) (dT sT ty elem : TypeId) (g dLen dCap : Nat) (a : Addr) (sLen sCap : Nat) (cur : Array Value) (t : TypeId) (cs : List Value)
    (hu : P.underlying dT = some (.slice elem)) (hs : (P.info? elem).map (·.size) = some 4)
    (hg : w.heap[g]? = some (.cells cur t (0, 0))) (hn : cs.length = Nat.min sLen dLen * 4)
    (hsrc : ∀ j v, cs[j]? = some v → w.cell? (a.add j) = some v) (hfit : cs.length ≤ cur.size) (h1 : ∀ v ∈ cs, v.oneCell' = true) :
    (Builtin.copy_ #[dT, sT] ty #[.slice (some ⟨g, 0, none⟩) dLen dCap, .slice (some a) sLen sCap]).run P w =
      .ok (goInt (Nat.min sLen dLen)) (w.setRow g (cs ++ cur.toList.drop cs.length).toArray) := by
  have hl := run_loadCells_list (P := P) w a cs hsrc
  have hst := run_storeCells_at P g 0 t cs 0 cur w hg (by simpa using hfit) h1
  simp only [Nat.add_zero, Nat.zero_add, List.take_zero, List.nil_append] at hst
  cases hq : P.info? elem with
  | none => simp [hq] at hs
  | some i =>
    have hi : i.size = 4 := by simpa [hq] using hs
    simp [Builtin.copy_, run_underlying hu, Builtin.lenOf, Builtin.firstCells, sizeOf, typeInfo, hq, hi, ← hn, hl, hst]
theorem run_copy4_none (w : World) (dT sT ty elem : TypeId) (g dLen dCap : Nat) (a : Option Addr) (sCap : Nat)
    (hu : P.underlying dT = some (.slice elem)) (hs : (P.info? elem).map (·.size) = some 4) :
    (Builtin.copy_ #[dT, sT] ty #[.slice (some ⟨g, 0, none⟩) dLen dCap, .slice a 0 sCap]).run P w = .ok (goInt 0) w := by
  cases hq : P.info? elem with
  | none => simp [hq] at hs
  | some i =>
    have hi : i.size = 4 := by simpa [hq] using hs
    cases a <;> simp [Builtin.copy_, run_underlying hu, Builtin.lenOf, Builtin.firstCells, sizeOf, typeInfo, hq, hi, storeCells, loadCells, loadCellsFrom]
end
end Go.Vm
end

section
namespace Go.Vm
open Go.Proofs Go.RowKit Go.Extern.Stop Go.Stop Go.Extern

def zT : Value := .agg #[.int .i64 0, .string ⟨#[]⟩, .int .i64 0, .int .i64 0]
theorem info28 : ∃ i, Tryd.prog.info? 28 = some i ∧ i.size = 4 ∧ i.bytes = 40 ∧ i.zero = some zT := by
  have h1 : (Tryd.prog.info? 28).map (·.size) = some 4 := by kernel_rfl
  have h2 : (Tryd.prog.info? 28).map (·.bytes) = some 40 := by kernel_rfl
  have h3 : (Tryd.prog.info? 28).bind (·.zero) = some zT := by kernel_rfl
  cases h : Tryd.prog.info? 28 with
  | none => rw [h] at h1; cases h1
  | some i =>
    rw [h] at h1 h2 h3
    exact ⟨i, rfl, by simpa using h1, by simpa using h2, by simpa using h3⟩

theorem copy_row {B : Nat} {w : World} {g c cap : Nat} {a : Option Addr} {l : List Tok} {cur : Array Value} (ty : TypeId) (hg : w.heap[g]? = some (.cells cur 28 (0, 0))) (hc : cur.size = (l.length + 3) * 4)
    (h : RowAt B w (.slice a l.length cap) l) :
    ∃ w', (Builtin.copy_ #[22, 22] ty #[.slice (some ⟨g, 0, none⟩) l.length c, .slice a l.length cap]).run Tryd.prog w = .ok (goInt l.length) w' ∧
      w'.heap[g]? = some (.cells (cL l ++ cur.toList.drop (l.length * 4)).toArray 28 (0, 0)) ∧ w.grownBy w' (some g) := by
  obtain ⟨i28, hi, hi1, hi2, hi3⟩ := info28
  have hs : (Tryd.prog.info? 28).map (·.size) = some 4 := by rw [hi]; simp [hi1]
  obtain ⟨a0, cap0, he, h1, h2, h3⟩ := h
  injection he with e1 e2 e3
  subst e1 e3
  have hlt : g < w.heap.size := (Array.getElem?_eq_some_iff.1 hg).1
  by_cases hl : l = []
  · subst hl
    refine ⟨w, run_copy4_none w 22 22 ty 28 g _ c _ _ Tryd.underlying22 hs, ?_, ⟨rfl, rfl, rfl, Nat.le_refl _, fun _ _ _ => rfl⟩⟩
    rw [hg]
    simp [cL]
  · obtain ⟨b, o, rfl, hb, hcell⟩ := h3 hl
    have hr := run_copy4 (P := Tryd.prog) w 22 22 ty 28 g l.length c ⟨b, o, none⟩ l.length cap cur 28 (cL l) Tryd.underlying22 hs hg (by rw [cL_len]; simp) (fun j v hj => by cases j with | zero => simpa [Addr.add] using hcell 0 v hj | succ j => simpa [Addr.add] using hcell (j + 1) v hj) (by rw [cL_len, hc]; omega) (cL_one l)
    rw [cL_len] at hr
    rw [show Nat.min l.length l.length = l.length from Nat.min_self _] at hr
    exact ⟨_, hr, setRow_heap w g cur _ 28 (0, 0) hg, ⟨rfl, rfl, rfl, by simp [World.setRow], fun k hk hne => setRow_other w g k _ (fun e => hne (by rw [e]))⟩⟩

def mk : Tok := ⟨-9, [98, 101, 104, 105, 110, 100], 0, 0⟩
theorem lit_cells (w : World) (cs : List Value) (t : TypeId) : ∀ j u, cs[j]? = some u → (w.alloc (.cells cs.toArray t)).cell? ((⟨w.heap.size, 0, none⟩ : Addr).add j) = some u := by
  intro j u h
  have e : ((⟨w.heap.size, 0, none⟩ : Addr).add j) = ⟨w.heap.size, j, none⟩ := by cases j <;> simp [Addr.add]
  rw [e, Lib.cell_of_heap (heap_alloc_new _ _)]
  simpa using h

theorem RowAt.up {B B' : Nat} {w : World} {v : Value} {l : List Tok} (h : RowAt B w v l) (hB : B ≤ B') : RowAt B' w v l := by
  obtain ⟨a, cap, rfl, h1, h2, h3⟩ := h
  exact ⟨a, cap, rfl, h1, h2, fun g => by obtain ⟨b, o, e, hb, hc⟩ := h3 g; exact ⟨b, o, e, by omega, hc⟩⟩
theorem rowAt_own {w : World} {base R n cap : Nat} {l : List Tok} {xs : List Value} {N : Nat} (h : w.ownsRow base 28 4 (.slice (some ⟨R, 0, none⟩) N cap) N xs) (hx : ∀ (j : Nat) c, (cL l)[j]? = some c → xs[j]? = some c) (hN : l.length ≤ N) (hn : n = l.length) (hc : n ≤ cap) :
    RowAt (R + 1) w (.slice (some ⟨R, 0, none⟩) n cap) l := by
  subst hn
  refine ⟨_, cap, rfl, hc, (fun h => by cases h), fun _ => ⟨R, 0, rfl, by omega, fun j c hj => ?_⟩⟩
  have hj4 : j < l.length * 4 := by rw [← cL_len]; exact (List.getElem?_eq_some_iff.1 hj).1
  rw [Nat.zero_add, h.cellAt j (by omega)]
  exact hx j c hj

theorem cL_app : ∀ a b : List Tok, cL (a ++ b) = cL a ++ cL b
  | [], b => rfl
  | t :: a, b => by simp only [List.cons_append, cL, cL_app a b, List.append_assoc]
def nuT (i : Nat) : Tok := ⟨6, [], i, 0⟩
def rowK (l : List Tok) (k : Nat) : List Tok := (List.range k).map nuT ++ (l.drop k ++ [mk, mk, mk])
theorem rowK_set {l : List Tok} {k : Nat} (hk : k < l.length) : (rowK l k).set k (nuT k) = rowK l (k + 1) := by
  unfold rowK
  rw [List.set_append_right _ _ (by simp), List.length_map, List.length_range, Nat.sub_self, List.drop_eq_getElem_cons hk, List.cons_append, List.set_cons_zero, List.range_succ, List.map_append]
  simp
theorem rowK_at {l : List Tok} {k : Nat} (hk : k < l.length) : (rowK l k)[k]? = some l[k] := by
  unfold rowK
  rw [List.getElem?_append_right (by simp), List.length_map, List.length_range, Nat.sub_self, List.drop_eq_getElem_cons hk]
  rfl
theorem rowK_len {l : List Tok} {k : Nat} (hk : k ≤ l.length) : (rowK l k).length = l.length + 3 := by
  simp [rowK]; omega
theorem cL_set : ∀ (l : List Tok) (i : Nat) (t : Tok), i < l.length →
    ((((cL l).set (i * 4) (.int .i64 t.kind)).set (i * 4 + 1) (.string ⟨t.text.toArray⟩)).set (i * 4 + 2) (.int .i64 t.num)).set (i * 4 + 3) (.int .i64 t.at_) = cL (l.set i t)
  | [], i, t, h => by simp at h
  | u :: l, 0, t, h => by simp [cL, cT]
  | u :: l, i + 1, t, h => by
    have ih := cL_set l i t (by simpa using h)
    rw [List.set_cons_succ]
    simp only [cL]
    rw [← ih]
    have e : ∀ (xs : List Value) (j : Nat) (v : Value), (cT u ++ xs).set (4 + j) v = cT u ++ xs.set j v := fun xs j v => by
      rw [List.set_append_right _ _ (by simp [cT])]
      simp [cT]
    rw [show (i + 1) * 4 = 4 + i * 4 from by omega, show 4 + i * 4 + 1 = 4 + (i * 4 + 1) from by omega, show 4 + i * 4 + 2 = 4 + (i * 4 + 2) from by omega, show 4 + i * 4 + 3 = 4 + (i * 4 + 3) from by omega, e, e, e, e]

set_option maxRecDepth 100000 in
set_option maxHeartbeats 4000000 in
theorem prints_walk (W : World) (hG : GlobRel W (There W) GT) (v u : Value) (l m : List Tok) (hl : TokL l) (hm : TokL m) (hlen : l.length ≤ 2000000) (rv : RowAt W.heap.size W v l) (ru : RowAt W.heap.size W u m) :
    Calls Tryd.prog 3 #[v, u] W fun e w' => e = .returned (.bool true) ∧ Below W.heap.size W w' := by
  obtain ⟨a, cap, rfl, ha1, ha2, ha3⟩ := id rv
  obtain ⟨a', cap', rfl, hb1, hb2, hb3⟩ := id ru
  go_enter Tryd.func3, Tryd.ntmps3
  go_wp2_with (go_at_call 9; refine (c9 hG).mono ?_)
  rintro ev w1 ⟨rfl, b1⟩
  have g1 := glob_keep hG b1.size b1.block
  have rv1 := rv.keep b1.block
  have ru1 := ru.keep b1.block
  go_wp2_with (go_at_call 10; refine (c10 g1 b1.size hl rv1).mono ?_)
  rintro ev w2 ⟨rfl, b2'⟩
  have b2 := b1.trans (b2'.mono b1.size)
  have g2 := glob_keep g1 b2'.size b2'.block
  have rv2 := rv.keep b2.block
  have ru2 := ru.keep b2.block
  clear g1 rv1 ru1 b1 b2'
  go_wp2_with (go_at_call 10; refine (c10 g2 b2.size hm ru2).mono ?_)
  rintro ev w3 ⟨rfl, b3'⟩
  have b3 := b2.trans (b3'.mono b2.size)
  have g3 := glob_keep g2 b3'.size b3'.block
  have rv3 := rv.keep b3.block
  have ru3 := ru.keep b3.block
  clear g2 rv2 ru2 b2 b3'
  generalize hR1 : (⟨(printS l).1.toArray⟩ : ByteArray) = S1
  generalize hR2 : (printS l).2 = N1
  generalize hR3 : (⟨(printS m).1.toArray⟩ : ByteArray) = S2
  generalize hR4 : (printS m).2 = N2
  go_wp2
  obtain ⟨i28, hi, hi1, hi2, hi3⟩ := info28
  rw [run_make _ 22 28 i28 zT Tryd.underlying22 hi hi3 .i64 .i64 (l.length : Int) ((l.length : Int) + 3) (by omega) (by omega) (by rw [hi2]; omega) (by omega)]
  simp only [Result.andThen]
  rw [Oper.upon_value]
  rw [show ((l.length : Int) + 3).toNat = l.length + 3 from by omega, hi1, Int.toNat_natCast]
  generalize hW4 : (w3.alloc (.cells #[.int .i64 (-9), .string ⟨#[98, 101, 104, 105, 110, 100]⟩, .int .i64 0, .int .i64 0] 28)) = W4
  have s4 : W4.heap.size = w3.heap.size + 1 := by rw [← hW4]; simp
  have k4 : ∀ k, k < w3.heap.size → W4.heap[k]? = w3.heap[k]? := fun k hk => by rw [← hW4]; exact Lib.alloc_old _ _ k hk
  generalize hW5 : W4.alloc (.cells (madeCells zT.cells ((l.length + 3) * 4)) 28) = W5
  have s5 : W5.heap.size = W4.heap.size + 1 := by rw [← hW5]; simp
  have k5 : ∀ k, k < W4.heap.size → W5.heap[k]? = W4.heap[k]? := fun k hk => by rw [← hW5]; exact Lib.alloc_old _ _ k hk
  have r5 : W5.heap[W4.heap.size]? = some (.cells (madeCells zT.cells ((l.length + 3) * 4)) 28 (0, 0)) := by rw [← hW5]; exact heap_alloc_new _ _
  have m4 : W4.heap[w3.heap.size]? = some (.cells #[.int .i64 (-9), .string ⟨#[98, 101, 104, 105, 110, 100]⟩, .int .i64 0, .int .i64 0] 28 (0, 0)) := by rw [← hW4]; exact heap_alloc_new _ _
  have m5 := (k5 w3.heap.size (by omega)).trans m4
  have o4 : W4.os = w3.os ∧ W4.tape = w3.tape ∧ W4.output = w3.output := by rw [← hW4]; exact ⟨rfl, rfl, rfl⟩
  have o5 : W5.os = W4.os ∧ W5.tape = W4.tape ∧ W5.output = W4.output := by rw [← hW5]; exact ⟨rfl, rfl, rfl⟩
  have b5 : Below W.heap.size W W5 := b3.trans ⟨by rw [o5.1, o4.1], by rw [o5.2.1, o4.2.1], by rw [o5.2.2, o4.2.2], by omega, fun k hk => by
    have := b3.size
    rw [k5 k (by omega), k4 k (by omega)]⟩
  clear hW4 hW5 m4 o4 o5 hi3
  go_wp2
  rw [s4] at r5
  obtain ⟨w6, e6, r6, gr6⟩ := copy_row (g := w3.heap.size + 1) (c := l.length + 3) 3 r5 (by rw [size_madeCells]) (rv.keep b5.block)
  rw [e6]
  simp only [Result.andThen]
  rw [Oper.upon_value]
  have k6 : ∀ k, k < W5.heap.size → k ≠ w3.heap.size + 1 → w6.heap[k]? = W5.heap[k]? := fun k hk hne => gr6.block k hk (fun e => hne (by injection e))
  have s6 : w6.heap.size = W5.heap.size ∨ W5.heap.size ≤ w6.heap.size := .inr gr6.size
  have b6 : Below W.heap.size W w6 := b5.trans ⟨gr6.os, gr6.tape, gr6.output, gr6.size, fun k hk => by
    have := b3.size
    exact k6 k (by omega) (by omega)⟩
  have m6 := (k6 w3.heap.size (by omega) (by omega)).trans m5
  have ow6 : w6.ownsRow W.heap.size 28 4 (.slice (some ⟨w3.heap.size + 1, 0, none⟩) l.length (l.length + 3)) l.length (cL l) := by
    have := b3.size
    refine ⟨cL_len l, .inr ⟨w3.heap.size + 1, l.length + 3, _, rfl, by omega, r6, by omega, by have : maxLen = 9223372036854775807 := rfl; omega, ?_, ?_⟩⟩
    · have hz : (madeCells zT.cells ((l.length + 3) * 4)).toList.length = (l.length + 3) * 4 := (Array.length_toList ..).trans (size_madeCells _ _)
      rw [List.size_toArray, List.length_append, List.length_drop, cL_len, hz]; omega
    · rw [List.take_left' (cL_len l)]
  have g6 := glob_keep g3 (by have := gr6.size; omega : w3.heap.size ≤ w6.heap.size) (fun b hb => by rw [k6 b (by omega) (by omega), k5 b (by omega), k4 b hb])
  have sz6 := gr6.size
  have q0 : w6.cell? ⟨w3.heap.size, 0, none⟩ = some (.int .i64 (-9)) := by rw [Lib.cell_of_heap m6]; rfl
  have q1 : w6.cell? ⟨w3.heap.size, 1, none⟩ = some (.string ⟨#[98, 101, 104, 105, 110, 100]⟩) := by rw [Lib.cell_of_heap m6]; rfl
  have q2 : w6.cell? ⟨w3.heap.size, 2, none⟩ = some (.int .i64 0) := by rw [Lib.cell_of_heap m6]; rfl
  have q3 : w6.cell? ⟨w3.heap.size, 3, none⟩ = some (.int .i64 0) := by rw [Lib.cell_of_heap m6]; rfl
  clear r5 k4 k5 k6 m5 s6 gr6 r6 e6 b5 g3
  have owA : ∀ o, (w6.alloc o).ownsRow W.heap.size 28 4 (.slice (some ⟨w3.heap.size + 1, 0, none⟩) l.length (l.length + 3)) l.length (cL l) := by
    intro o
    obtain ⟨o1, o2⟩ := ow6
    refine ⟨o1, ?_⟩
    rcases o2 with ⟨h, _⟩ | ⟨g, cp, cur, h, hb, hg, hr⟩
    · cases h
    · refine .inr ⟨g, cp, cur, h, hb, ?_, hr⟩
      rw [Lib.alloc_old _ _ g (Array.getElem?_eq_some_iff.1 hg).1]
      exact hg
  go_wp2_with (first | (at_builtin; refine wpList_append_fits _ rfl _ _ 22 rfl W.heap.size 28 i28 4 Tryd.underlying22 hi hi1 (w3.heap.size + 1) l.length (l.length + 3) (cL l) rfl (owA _) ⟨w6.heap.size, 0, none⟩ 3 3 (cL [mk, mk, mk]) rfl rfl (lit_cells _ _ _) (cL_one _) (Nat.le_refl _) ?_) | go_in)
  intro w7 ow7 gr7
  clear owA ow6
  have sz7 := gr7.size
  rw [World.size_alloc] at sz7
  have k7 : ∀ k, k < w6.heap.size → k ≠ w3.heap.size + 1 → w7.heap[k]? = w6.heap[k]? := fun k hk hne => by
    rw [gr7.block k (by rw [World.size_alloc]; omega) (fun e => hne (by injection e)), Lib.alloc_old _ _ k hk]
  have b7 : Below W.heap.size W w7 := b6.trans ⟨gr7.os, gr7.tape, gr7.output, by omega, fun k hk => by
    have := b3.size
    exact k7 k (by omega) (by omega)⟩
  have g7 := glob_keep hG b7.size b7.block
  have m7 := (k7 w3.heap.size (by omega) (by omega)).trans m6
  have row7 : RowAt (w3.heap.size + 1 + 1) w7 (.slice (some ⟨w3.heap.size + 1, 0, none⟩) l.length (l.length + 3)) l :=
    rowAt_own ow7 (fun j c hj => by rw [List.getElem?_append_left (List.getElem?_eq_some_iff.1 hj).1]; exact hj) (by omega) rfl (by omega)
  clear gr7 k7 q0 q1 q2 q3 m6 g6 b6
  go_wp2_with (go_at_call 11; refine (c11 g7 (by omega) hl row7).mono ?_)
  rintro ev w8 ⟨rfl, b8'⟩
  rw [hR1, hR2]
  have b8 := b7.trans (b8'.mono b7.size)
  have row8 := row7.keep (w' := w8) (fun b hb => b8'.block b (by omega))
  have g8 := glob_keep hG b8.size b8.block
  have ru8 := ru.keep b8.block
  have sz8 := b8'.size
  go_wp2_with (go_at_call 11; refine (c11 g8 b8.size hm ru8).mono ?_)
  rintro ev w9 ⟨rfl, b9'⟩
  rw [hR3, hR4]
  have b9 := b8.trans (b9'.mono b8.size)
  have row9 := row8.keep (w' := w9) (fun b hb => b9'.block b (by omega))
  have g9 := glob_keep hG b9.size b9.block
  have sz9 := b9'.size
  go_wp2_with (go_at_call 11; refine (c11 g9 (by omega) hl row9).mono ?_)
  rintro ev w10 ⟨rfl, b10'⟩
  rw [hR1, hR2]
  have b10 := b9.trans (b10'.mono b9.size)
  have row10 := row9.keep (w' := w10) (fun b hb => b10'.block b (by omega))
  have g10 := glob_keep hG b10.size b10.block
  have rv10 := (rv.keep b10.block).up (B' := w3.heap.size + 1 + 1) (by have := b3.size; omega)
  have sz10 := b10'.size
  go_wp2_with (go_at_call 12; refine (c12 g10 (by omega) (by omega) (by omega) row10 rv10).mono ?_)
  rintro ev w11 rfl b11'
  have b11 := b10.trans (b11'.mono b10.size)
  have sz11 := b11'.size
  have k11 : ∀ b, b < w7.heap.size → w11.heap[b]? = w7.heap[b]? := fun b hb => by
    rw [b11'.block b (by omega), b10'.block b (by omega), b9'.block b (by omega), b8'.block b hb]
  have m11 := (k11 w3.heap.size (by omega)).trans m7
  have ow11 : w11.ownsRow W.heap.size 28 4 (.slice (some ⟨w3.heap.size + 1, 0, none⟩) (l.length + 3) (l.length + 3)) (l.length + 3) (cL l ++ cL [mk, mk, mk]) := by
    obtain ⟨o1, o2⟩ := ow7
    refine ⟨o1, ?_⟩
    rcases o2 with ⟨h, _⟩ | ⟨g, cp, cur, h, hb, hg, hr⟩
    · cases h
    · refine .inr ⟨g, cp, cur, h, hb, ?_, hr⟩
      rw [k11 g (Array.getElem?_eq_some_iff.1 hg).1]
      exact hg
  clear g7 g8 g9 g10 row7 row8 row9 row10 rv10 ru8 b8' b9' b10' b11' b7 b8 b9 b10 m7 ow7 k11
  go_wp2
  have q0 : w11.cell? ⟨w3.heap.size, 0, none⟩ = some (.int .i64 (-9)) := by rw [Lib.cell_of_heap m11]; rfl
  have q1 : w11.cell? ⟨w3.heap.size, 1, none⟩ = some (.string ⟨#[98, 101, 104, 105, 110, 100]⟩) := by rw [Lib.cell_of_heap m11]; rfl
  have q2 : w11.cell? ⟨w3.heap.size, 2, none⟩ = some (.int .i64 0) := by rw [Lib.cell_of_heap m11]; rfl
  have q3 : w11.cell? ⟨w3.heap.size, 3, none⟩ = some (.int .i64 0) := by rw [Lib.cell_of_heap m11]; rfl
  have cel : ∀ k j c, k < 3 → (cT mk)[j]? = some c → w11.cell? ⟨w3.heap.size + 1, (l.length + k) * 4 + j, none⟩ = some c := fun k j c hk hj => by
    have hj4 : j < 4 := (List.getElem?_eq_some_iff.1 hj).1
    rw [ow11.cellAt _ (by omega), List.getElem?_append_right (by rw [cL_len]; omega), cL_len, show (l.length + k) * 4 + j - l.length * 4 = k * 4 + j from by omega]
    rw [cL_at [mk, mk, mk] k j mk (by match k, hk with | 0, _ => rfl | 1, _ => rfl | 2, _ => rfl) hj4]
    exact hj
  have x00 : w11.cell? ⟨w3.heap.size + 1, l.length * 4, none⟩ = some (.int .i64 (-9)) := cel 0 0 _ (by omega) rfl
  have x01 : w11.cell? ⟨w3.heap.size + 1, l.length * 4 + 1, none⟩ = some (.string ⟨#[98, 101, 104, 105, 110, 100]⟩) := cel 0 1 _ (by omega) rfl
  have x02 : w11.cell? ⟨w3.heap.size + 1, l.length * 4 + 2, none⟩ = some (.int .i64 0) := cel 0 2 _ (by omega) rfl
  have x03 : w11.cell? ⟨w3.heap.size + 1, l.length * 4 + 3, none⟩ = some (.int .i64 0) := cel 0 3 _ (by omega) rfl
  have x10 : w11.cell? ⟨w3.heap.size + 1, (l.length + 1) * 4, none⟩ = some (.int .i64 (-9)) := cel 1 0 _ (by omega) rfl
  have x11 : w11.cell? ⟨w3.heap.size + 1, (l.length + 1) * 4 + 1, none⟩ = some (.string ⟨#[98, 101, 104, 105, 110, 100]⟩) := cel 1 1 _ (by omega) rfl
  have x12 : w11.cell? ⟨w3.heap.size + 1, (l.length + 1) * 4 + 2, none⟩ = some (.int .i64 0) := cel 1 2 _ (by omega) rfl
  have x13 : w11.cell? ⟨w3.heap.size + 1, (l.length + 1) * 4 + 3, none⟩ = some (.int .i64 0) := cel 1 3 _ (by omega) rfl
  have x20 : w11.cell? ⟨w3.heap.size + 1, (l.length + 1 + 1) * 4, none⟩ = some (.int .i64 (-9)) := cel 2 0 _ (by omega) rfl
  have x21 : w11.cell? ⟨w3.heap.size + 1, (l.length + 1 + 1) * 4 + 1, none⟩ = some (.string ⟨#[98, 101, 104, 105, 110, 100]⟩) := cel 2 1 _ (by omega) rfl
  have x22 : w11.cell? ⟨w3.heap.size + 1, (l.length + 1 + 1) * 4 + 2, none⟩ = some (.int .i64 0) := cel 2 2 _ (by omega) rfl
  have x23 : w11.cell? ⟨w3.heap.size + 1, (l.length + 1 + 1) * 4 + 3, none⟩ = some (.int .i64 0) := cel 2 3 _ (by omega) rfl
  refine Go.wp_loop_rounds 4 ?_
  rw [rounds_succ]
  go_wp2
  go_region
  go_wp2
  rw [rounds_succ]
  go_wp2
  go_region
  go_wp2
  rw [rounds_succ]
  go_wp2
  go_region
  go_wp2
  rw [rounds_succ]
  go_wp2
  clear cel x00 x01 x02 x03 x10 x11 x12 x13 x20 x21 x22 x23 q0 q1 q2 q3 m11
  go_loopw [21] (fun i wr => ∃ k : Nat, k ≤ l.length ∧ i = .int .i64 k ∧ wr.ownsRow W.heap.size 28 4 (.slice (some ⟨w3.heap.size + 1, 0, none⟩) (l.length + 3) (l.length + 3)) (l.length + 3) (cL (rowK l k)) ∧ Below W.heap.size W wr ∧ w3.heap.size + 1 < wr.heap.size)
    (fun i _ => l.length - (intOf i).toNat)
  case atStart =>
    refine ⟨0, Nat.zero_le _, rfl, ?_, b11.drew.drew.drew, ?_⟩
    · have e : cL l ++ cL [mk, mk, mk] = cL (rowK l 0) := by
        rw [← cL_app]; rfl
      rw [← e]; exact ow11
    · have : w11.drew.drew.drew.heap.size = w11.heap.size := rfl
      omega
  case round =>
    obtain ⟨k, hk, rfl, own, bel, hsz⟩ := hrel
    have y : ∀ j, j < 4 → k < l.length → ∃ c, wr.cell? ⟨w3.heap.size + 1, k * 4 + j, none⟩ = some c := fun j hj hk => by
      rw [own.cellAt _ (by omega), cL_at _ k j _ (rowK_at hk) hj]
      exact ⟨_, List.getElem?_eq_getElem (by simp [cT]; omega)⟩
    have ex : ∀ j, j < 4 → k < l.length → ∃ c, wr.cell? ⟨w3.heap.size + 1, k * 4 + j, none⟩ = some c := y
    by_cases hkl : k < l.length
    · obtain ⟨c0, y0⟩ := ex 0 (by omega) hkl
      obtain ⟨c1, y1⟩ := ex 1 (by omega) hkl
      obtain ⟨c2, y2⟩ := ex 2 (by omega) hkl
      obtain ⟨c3, y3⟩ := ex 3 (by omega) hkl
      have y0' : wr.cell? ⟨w3.heap.size + 1, k * 4, none⟩ = some c0 := y0
      clear y0
      have f0 := own.frozenAt (k * 4)
      have f1 := own.frozenAt (k * 4 + 1)
      have f2 := own.frozenAt (k * 4 + 2)
      have f3 := own.frozenAt (k * 4 + 3)
      clear ex y
      go_wp2
      have hR : W.heap.size ≤ w3.heap.size + 1 := by have := b3.size; omega
      refine ⟨⟨k + 1, by omega, rfl, ?_, (((bel.setCell hR _).setCell hR _).setCell hR _).setCell hR _, by simpa using hsz⟩, by simp [intOf]; omega⟩
      have st := ((((own.stored (k * 4) (.int .i64 6)).1.stored (k * 4 + 1) (.string ⟨#[]⟩)).1.stored (k * 4 + 2) (.int .i64 k)).1.stored (k * 4 + 3) (.int .i64 0)).1
      have e := cL_set (rowK l k) k (nuT k) (by rw [rowK_len hk]; omega)
      rw [rowK_set hkl] at e
      rw [← e]
      exact st
    · have hkn : k = l.length := by omega
      subst hkn
      clear ex y
      have hT : TokL ((List.range l.length).map nuT) := by
        refine ⟨by simp; omega, fun t ht => ?_⟩
        obtain ⟨i, hi, rfl⟩ := List.mem_map.1 ht
        have := List.mem_range.1 hi
        exact ⟨by simp [nuT], by simp only [nuT]; omega⟩
      have gE := glob_keep hG bel.size bel.block
      have rowE : RowAt (w3.heap.size + 1 + 1) wr (.slice (some ⟨w3.heap.size + 1, 0, none⟩) l.length (l.length + 3)) ((List.range l.length).map nuT) :=
        rowAt_own own (fun j c hj => by unfold rowK; rw [cL_app, List.getElem?_append_left (List.getElem?_eq_some_iff.1 hj).1]; exact hj) (by simp) (by simp) (by omega)
      go_wp2_with (go_at_call 10; refine (c10 gE (by omega) hT rowE).mono ?_)
      rintro ev w12 ⟨rfl, b12'⟩
      have b12 := bel.trans (b12'.mono bel.size)
      have g12 := glob_keep hG b12.size b12.block
      have row12 := rowE.keep (w' := w12) (fun b hb => b12'.block b (by omega))
      have sz12 := b12'.size
      generalize hE1 : (⟨(printS ((List.range l.length).map nuT)).1.toArray⟩ : ByteArray) = T1
      generalize hE2 : (printS ((List.range l.length).map nuT)).2 = M1
      go_wp2_with (go_at_call 11; refine (c11 g12 (by omega) hT row12).mono ?_)
      rintro ev w13 ⟨rfl, b13'⟩
      rw [hE1, hE2]
      have b13 := b12.trans (b13'.mono b12.size)
      go_wp2
      go_returns
      exact ⟨by simp, b13⟩
end Go.Vm
end

section
namespace Go.Vm
open Go.RowKit Go.Deep

variable {H : Type} {enc : TypeId × Value → H} {P : Program} {w : World} {spare : Nat → Bool} {held : Bool}

structure BulkOk (bulk : DataW H → Nat) : Prop where
  str : ∀ l, l.length ≤ bulk (.lit (.string l))
  sl : ∀ elems spare, elems.length ≤ bulk (.slice elems spare) ∧ ∀ e ∈ elems, bulk e ≤ bulk (.slice elems spare)
  agg : ∀ parts, ∀ e ∈ parts, bulk e ≤ bulk (.agg parts)

def TypedB (P : Program) (B : Nat) : Nat → TypeId → List D → Prop
  | 0, _, _ => False
  | n + 1, t, ds => match P.underlying t with
    | some .bool => ∃ b, ds = [.bool b]
    | some (.int k) => ∃ m, ds = [.int k m] ∧ (Lit.int k m).wf = true
    | some .string => ∃ s, ds = [.str s] ∧ s.length ≤ B
    | some (.slice e) => ∃ rows : List (List D), ds = [.sl (P.cellsOf e) rows] ∧ rows.length ≤ B ∧ ∀ r ∈ rows, r.length = P.cellsOf e ∧ TypedB P B n e r
    | some (.struct fs) => TypedF P (TypedB P B n) fs.toList ds
    | _ => False

theorem fields_repB (T : TypeId → Bool) (Ty : TypeId → List D → Prop) (Q : DataW H → Prop) (g : TypeId → List Value → Option (DataW H × List MemPlace))
    (hT : ∀ t cs x, T t = true → g t cs = some x → Q x.1 → cs.length = P.cellsOf t → ∃ ds, RepL w cs ds ∧ Ty t ds) (cs : List Value) :
    ∀ (fs : List Field) (off : Nat) (xs : List (DataW H × List MemPlace)), laidFrom P T off fs = some cs.length → (fs.mapM fun f => g f.type ((cs.drop f.offset).take (P.cellsOf f.type))) = some xs → (∀ x ∈ xs, Q x.1) → ∃ ds, RepL w (cs.drop off) ds ∧ TypedF P Ty fs ds
  | [], off, xs, hl, _, _ => by
    simp only [laidFrom, Option.some.injEq] at hl
    refine ⟨[], ⟨by simp [hl], fun j v d _ hd => by simp at hd⟩, rfl⟩
  | f :: fs, off, xs, hl, hm, hQ => by
    simp only [laidFrom] at hl
    split at hl
    case isFalse => cases hl
    rename_i hc
    obtain ⟨ho, ht⟩ := hc
    rw [List.mapM_cons] at hm
    cases hg : g f.type ((cs.drop f.offset).take (P.cellsOf f.type)) with
    | none => rw [hg] at hm; cases hm
    | some x =>
      rw [hg] at hm
      cases hr : fs.mapM (fun f => g f.type ((cs.drop f.offset).take (P.cellsOf f.type))) with
      | none => rw [hr] at hm; cases hm
      | some ys =>
        rw [hr] at hm
        obtain rfl : x :: ys = xs := Option.some.inj hm
        have hle : ∀ (fs : List Field) (off m : Nat), laidFrom P T off fs = some m → off ≤ m := by
          intro fs
          induction fs with
          | nil => intro off m h; simp only [laidFrom, Option.some.injEq] at h; omega
          | cons f fs ih =>
            intro off m h
            simp only [laidFrom] at h
            split at h
            · have := ih _ _ h; omega
            · cases h
        have hb := hle _ _ _ hl
        obtain ⟨ds, h1, h2⟩ := fields_repB T Ty Q g hT cs fs _ ys hl hr (fun y hy => hQ y (List.mem_cons_of_mem _ hy))
        have hlen : ((cs.drop off).take (P.cellsOf f.type)).length = P.cellsOf f.type := by
          rw [List.length_take, List.length_drop]; omega
        rw [ho] at hg
        obtain ⟨asq, h3, h4⟩ := hT f.type _ x ht hg (hQ x (by simp)) hlen
        refine ⟨asq ++ ds, ?_, asq, ds, rfl, by rw [h3.1]; exact hlen, h4, h2⟩
        have := h3.append h1
        rwa [← List.drop_drop, List.take_append_drop] at this

theorem trod_repB {bulk : DataW H → Nat} (hbk : BulkOk bulk) {B : Nat} : ∀ (n fuel : Nat) (t : TypeId) (cs : List Value) (x : DataW H × List MemPlace), plainT P n t = true → DataW.trod enc P w 0 spare held fuel t cs = some x → bulk x.1 ≤ B → ∃ ds, RepL w cs ds ∧ TypedB P B n t ds
  | 0, _, _, _, _, h, _, _ => by simp [plainT] at h
  | _ + 1, 0, _, _, _, _, h, _ => by simp [DataW.trod] at h
  | n + 1, fuel + 1, t, cs, x, hp, h, hB => by
    simp only [plainT] at hp
    cases ht : P.underlying t with
    | none => simp [ht] at hp
    | some d =>
      simp only [TypedB, ht] at hp ⊢
      cases d with
      | bool =>
        have : ∃ b, cs = [.bool b] := by
          unfold DataW.trod at h
          simp only [ht] at h
          split at h <;> first | (exact ⟨_, rfl⟩) | (simp_all; done) | (cases h; done)
        obtain ⟨b, rfl⟩ := this
        exact ⟨_, .one (.bool b), b, rfl⟩
      | int k =>
        have : ∃ m, cs = [.int k m] ∧ (Lit.int k m).wf = true := by
          unfold DataW.trod at h
          simp only [ht] at h
          split at h <;> first | (cases h; done) | skip
          all_goals (try (simp_all; done))
          all_goals (split at h <;> first | (cases h; done) | skip)
          all_goals (simp_all)
        obtain ⟨m, rfl, hw⟩ := this
        exact ⟨_, .one (.int k m), m, rfl, hw⟩
      | string =>
        obtain ⟨s', h1, hx, hs⟩ := DataW.trod_string ht h
        subst h1
        refine ⟨_, .one (.str s'), _, rfl, ?_⟩
        have := hbk.str s'.data.toList
        rw [hx] at hB
        exact Nat.le_trans this hB
      | slice e =>
        simp only [Bool.and_eq_true, decide_eq_true_eq] at hp
        rcases open_slice ht h with ⟨rfl, _⟩ | ⟨a, len, cap, m, n', Dd, Pl, rfl, _, hlc, hcm, hm, hxx, hel⟩
        · exact ⟨_, .one (.sl0 none 0 (P.cellsOf e) (fun _ => rfl)), [], rfl, by simp, fun r hr => by simp at hr⟩
        · rw [hxx] at hB
          have hsl := hbk.sl ((List.range len).map Dd) ((List.range (m - len)).map fun j => Dd (len + j))
          have hlen' : len ≤ B := by
            have := hsl.1
            rw [List.length_map, List.length_range] at this
            exact Nat.le_trans this hB
          have hpart : ∀ i, i < len → bulk (Dd i) ≤ B := fun i hi => Nat.le_trans (hsl.2 _ (List.mem_map.2 ⟨i, List.mem_range.2 hi, rfl⟩)) hB
          have hml : len ≤ m := by rw [hm]; split <;> omega
          have rowsOf : ∀ i, i < len → ∃ ds, ∃ cs', w.cells? 0 (a.add (i * P.cellsOf e)) (P.cellsOf e) = some cs' ∧ RepL w cs' ds ∧ TypedB P B n e ds := by
            intro i hi
            obtain ⟨cs', h1, h2⟩ := hel i (by omega)
            obtain ⟨ds, h3, h4⟩ := trod_repB hbk n n' e cs' _ hp.2 h2 (hpart i hi)
            exact ⟨ds, cs', h1, h3, h4⟩
          obtain ⟨rows, hr1, hr2⟩ := exists_list len rowsOf
          have typed : ∀ r ∈ rows, r.length = P.cellsOf e ∧ TypedB P B n e r := fun r hr => by
            obtain ⟨i, hi⟩ := List.getElem?_of_mem hr
            obtain ⟨cs', h1, h3, h4⟩ := hr2 i r hi
            exact ⟨by rw [h3.1, (cells?_get h1).1], h4⟩
          refine ⟨[.sl (P.cellsOf e) rows], .one ?_, rows, rfl, by omega, typed⟩
          by_cases hz : len = 0
          · have : rows = [] := List.eq_nil_of_length_eq_zero (by omega)
            subst this
            subst hz
            exact .sl0 (some a) cap _ (fun h => by cases h)
          · have h0 : 0 < rows.length := by omega
            obtain ⟨cs0, g1, g2, _⟩ := hr2 0 rows[0] (List.getElem?_eq_getElem h0)
            obtain ⟨c1, c2⟩ := cells?_get g1
            have hv := c2 0 cs0[0] (List.getElem?_eq_getElem (by omega))
            simp only [Nat.zero_mul] at hv
            have hsp : a.spot = none := by simpa [Addr.add] using World.cell?_spot hv
            have hblk : a.block < w.heap.size := by
              unfold World.cell? at hv
              split at hv
              · rename_i hh
                have := (Array.getElem?_eq_some_iff.1 hh).1
                simpa [Addr.add] using this
              · cases hv
            obtain ⟨ab, ao, asq⟩ := a
            simp only at hsp hblk
            subst hsp
            have cellat : ∀ (i j : Nat) (r : List D) (d : D), rows[i]? = some r → r[j]? = some d → ∃ v, w.cell? ⟨ab, ao + (i * P.cellsOf e + j), none⟩ = some v ∧ RepD w (There w) v d := by
              intro i j r d hi hj
              obtain ⟨cs', h1, h3, _⟩ := hr2 i r hi
              have hjl : j < cs'.length := by rw [← h3.1]; exact (List.getElem?_eq_some_iff.1 hj).1
              refine ⟨cs'[j], ?_, h3.2 j _ d (List.getElem?_eq_getElem hjl) hj⟩
              have := (cells?_get h1).2 j _ (List.getElem?_eq_getElem hjl)
              rw [add_lit, add_lit, Nat.add_assoc] at this
              exact this
            refine .sl ab ao len cap (P.cellsOf e) rows (fun i j => (w.cell? ⟨ab, ao + (i * P.cellsOf e + j), none⟩).getD default) hr1 hlc hblk (fun r hr => (typed r hr).1) (fun i j r d hi hj => ?_) (fun i j r d hi hj => ?_)
            · obtain ⟨v, hv, _⟩ := cellat i j r d hi hj
              rw [hv]; rfl
            · obtain ⟨v, hv, hR⟩ := cellat i j r d hi hj
              rw [hv]; exact hR
      | struct fs =>
        simp only [decide_eq_true_eq] at hp
        have hs : cs.length = P.cellsOf t ∧ ∃ xs, (fs.toList.mapM fun f => DataW.trod enc P w 0 spare held fuel f.type ((cs.drop f.offset).take (P.cellsOf f.type))) = some xs ∧ ∀ y ∈ xs, bulk y.1 ≤ B := by
          unfold DataW.trod at h
          simp only [ht] at h
          split at h
          · rename_i hl
            simp only [Option.map_eq_some_iff] at h
            obtain ⟨xs, hx, hxe⟩ := h
            subst hxe
            exact ⟨hl, xs, hx, fun y hy => Nat.le_trans (hbk.agg _ y.1 (List.mem_map.2 ⟨y, hy, rfl⟩)) hB⟩
          · cases h
        obtain ⟨hl, xs, hx, hxb⟩ := hs
        obtain ⟨ds, h1, h2⟩ := fields_repB (plainT P n) (TypedB P B n) (fun d => bulk d ≤ B) (fun t cs => DataW.trod enc P w 0 spare held fuel t cs) (fun t cs x hp h hq _ => trod_repB hbk n fuel t cs x hp h hq) cs fs.toList 0 xs (by rw [hl]; exact hp) hx hxb
        exact ⟨ds, by simpa using h1, h2⟩
      | _ => simp at hp

theorem arg_repB {bulk : DataW H → Nat} (hbk : BulkOk bulk) {B : Nat} {n : Nat} {t : TypeId} {v : Value} {d : DataW H} {ps : List MemPlace} {r : Reach} {b0 base : Nat} (hB : bulk d ≤ B) (hp : plainT P n t = true) (hv : Value.okWide P w r b0 t v) (h : DataW.Trod enc P w 0 spare held t v d ps) :
    ∃ ds, TypedB P B n t ds ∧ RepV w (There w) base (fun _ => none) v (argV (aggOf P t) ds) := by
  obtain ⟨fuel, h⟩ := h
  obtain ⟨ds, h1, h2⟩ := trod_repB hbk n fuel t v.cells.toList _ hp h hB
  refine ⟨ds, h2, ?_⟩
  cases n with
  | zero => simp [plainT] at hp
  | succ n =>
    simp only [plainT] at hp
    cases ht : P.underlying t with
    | none => simp [ht] at hp
    | some td =>
      simp only [ht] at hp
      have ha : aggOf P t = isAggD td := by simp [aggOf, ht]
      cases td with
      | struct fs =>
        simp only [Value.okWide, ht] at hv
        obtain ⟨cs, rfl, _, _⟩ := hv
        rw [ha]
        simp only [isAggD, argV, if_true]
        have hlen : ds.length = cs.size := by simpa [Value.cells] using h1.1
        refine .agg _ _ (by simp [hlen]) (fun j u x hu hx => ?_) (fun u hu => ?_)
        · simp only [List.getElem?_map, Option.map_eq_some_iff] at hx
          obtain ⟨y, hy, rfl⟩ := hx
          exact .d _ _ _ (h1.2 j u y (by simpa [Value.cells] using hu) hy)
        · obtain ⟨j, hj⟩ := Array.getElem?_of_mem hu
          have hjl : j < ds.length := by rw [hlen]; exact (Array.getElem?_eq_some_iff.1 hj).1
          exact (h1.2 j u _ (by simpa [Value.cells] using hj) (List.getElem?_eq_getElem hjl)).oneCell
      | bool =>
        simp only [TypedB, ht] at h2
        obtain ⟨b, rfl⟩ := h2
        have hag : ∀ cs, v ≠ .agg cs := by rintro cs rfl; simp [Value.okWide, ht, Cell.okWide, Cell.ok] at hv
        rw [ha]
        exact single hag h1
      | int k =>
        simp only [TypedB, ht] at h2
        obtain ⟨m, rfl, _⟩ := h2
        have hag : ∀ cs, v ≠ .agg cs := by rintro cs rfl; simp [Value.okWide, ht, Cell.okWide, Cell.ok] at hv
        rw [ha]
        exact single hag h1
      | string =>
        simp only [TypedB, ht] at h2
        obtain ⟨m, rfl, _⟩ := h2
        have hag : ∀ cs, v ≠ .agg cs := by rintro cs rfl; simp [Value.okWide, ht, Cell.okWide, Cell.ok] at hv
        rw [ha]
        exact single hag h1
      | slice e =>
        simp only [TypedB, ht] at h2
        obtain ⟨m, rfl, _⟩ := h2
        have hag : ∀ cs, v ≠ .agg cs := by rintro cs rfl; simp [Value.okWide, ht, Cell.okWide, Cell.ok] at hv
        rw [ha]
        exact single hag h1
      | _ => simp at hp

end Go.Vm
end

section
namespace Go.Vm
open Go.Proofs Go.Proofs.YtmmbgofnllcaeaaDoor
set_option maxRecDepth 100000

theorem bulk_one {H : Type} {d : DataW H} {l : List (DataW H)} (h : d ∈ l) : Rows.uptoBulk d ≤ Rows.uptoBulkAll l := by
  induction l with
  | nil => cases h
  | cons x r ih =>
    simp only [Rows.uptoBulkAll]
    cases List.mem_cons.1 h with
    | inl e => subst e; omega
    | inr e => have := ih e; omega
theorem bulk_pos {H : Type} (d : DataW H) : 1 ≤ Rows.uptoBulk d := by
  cases d with
  | lit l => cases l <;> simp [Rows.uptoBulk]
  | nil => simp [Rows.uptoBulk]
  | ptr d => simp [Rows.uptoBulk]
  | slice elems spare => simp [Rows.uptoBulk]
  | agg parts => simp [Rows.uptoBulk]
  | iface t d => simp [Rows.uptoBulk]
  | map entries => simp [Rows.uptoBulk]
  | held h => simp [Rows.uptoBulk]
theorem bulk_len {H : Type} (l : List (DataW H)) : l.length ≤ Rows.uptoBulkAll l := by
  induction l with
  | nil => simp [Rows.uptoBulkAll]
  | cons x r ih => have := bulk_pos x; simp only [Rows.uptoBulkAll, List.length_cons]; omega
theorem bulk_ok {H : Type} : BulkOk (Rows.uptoBulk (H := H)) :=
  ⟨fun l => by simp only [Rows.uptoBulk]; omega, fun elems spare => ⟨by have := bulk_len elems; simp only [Rows.uptoBulk]; omega, fun e he => by have := bulk_one he; simp only [Rows.uptoBulk]; omega⟩,
   fun parts e he => by have := bulk_one he; simp only [Rows.uptoBulk]; omega⟩

theorem rows_mapT {α : Type} {e : α → List D} {Q : α → Prop} : ∀ rows : List (List D), (∀ r ∈ rows, ∃ x, r = e x ∧ Q x) → ∃ l : List α, rows = l.map e ∧ ∀ x ∈ l, Q x
  | [], _ => ⟨[], rfl, fun x h => by simp at h⟩
  | r :: rows, h => by
    obtain ⟨x, h1, h2⟩ := h r (by simp)
    obtain ⟨l, h3, h4⟩ := rows_mapT rows (fun r hr => h r (List.mem_cons_of_mem _ hr))
    exact ⟨x :: l, by rw [h1, h3]; rfl, fun y hy => by
      rcases List.mem_cons.1 hy with rfl | hy
      · exact h2
      · exact h4 y hy⟩
theorem typedB_int {B n : Nat} {ds : List D} (h : TypedB Tryd.prog B (n + 1) 3 ds) : ∃ m, ds = [.int .i64 m] ∧ -9223372036854775808 ≤ m ∧ m ≤ 9223372036854775807 := by
  simp only [TypedB, Tryd.underlying3] at h
  obtain ⟨m, h1, h2⟩ := h
  simp only [Lit.wf, Bool.and_eq_true, decide_eq_true_eq] at h2
  have e1 : IntKind.i64.min = -9223372036854775808 := by decide
  have e2 : IntKind.i64.max = 9223372036854775807 := by decide
  rw [e1, e2] at h2
  exact ⟨m, h1, h2⟩
theorem typedB_str {B n : Nat} {ds : List D} (h : TypedB Tryd.prog B (n + 1) 9 ds) : ∃ s, ds = [.str s] ∧ s.length ≤ B := by
  simp only [TypedB, Tryd.underlying9] at h
  exact h
theorem cells33 : Tryd.prog.cellsOf 28 = 4 := by kernel_rfl
theorem typed_tok {B n : Nat} {ds : List D} (h : TypedB Tryd.prog B (n + 2) 28 ds) : ∃ t, ds = eTok t ∧ t.text.length ≤ B ∧ -9223372036854775808 ≤ t.num ∧ t.num ≤ 9223372036854775807 := by
  rw [TypedB] at h
  simp only [Tryd.underlying28, TypedF] at h
  obtain ⟨a, r, rfl, _, h1, b, r2, rfl, _, h2, c, r3, rfl, _, h3, d, r4, rfl, _, h4, rfl⟩ := h
  obtain ⟨x, rfl, _⟩ := typedB_int h1
  obtain ⟨y, rfl, hy⟩ := typedB_str h2
  obtain ⟨z, rfl, hz⟩ := typedB_int h3
  obtain ⟨u, rfl, _⟩ := typedB_int h4
  exact ⟨⟨x, y, z, u⟩, rfl, hy, hz⟩
theorem typed_toks {n : Nat} {ds : List D} (h : TypedB Tryd.prog 1048576 (n + 3) 22 ds) : ∃ l : List Tok, ds = [.sl 4 (l.map eTok)] ∧ TokL l := by
  rw [TypedB] at h
  simp only [Tryd.underlying22, cells33] at h
  obtain ⟨rows, rfl, hl, hr⟩ := h
  obtain ⟨l, rfl, h2⟩ := rows_mapT (e := eTok) rows (fun r h => typed_tok (hr r h).2)
  rw [List.length_map] at hl
  exact ⟨l, rfl, by omega, fun t ht => ⟨by have := (h2 t ht).1; omega, (h2 t ht).2⟩⟩
theorem plain22 : plainT Tryd.prog 3 22 = true := by kernel_rfl
end Go.Vm
end

section
namespace Go.Vm
open Go.Proofs Go.Proofs.YtmmbgofnllcaeaaDoor
set_option maxRecDepth 100000
theorem typed_toks2 {n : Nat} {ds : List D} (h : TypedB Tryd.prog 1048576 (n + 3) 22 ds) : ∃ l : List Tok, ds = [.sl 4 (l.map eTok)] ∧ TokL l ∧ l.length ≤ 1048576 := by
  rw [TypedB] at h
  simp only [Tryd.underlying22, cells33] at h
  obtain ⟨rows, rfl, hl, hr⟩ := h
  obtain ⟨l, rfl, h2⟩ := rows_mapT (e := eTok) rows (fun r h => typed_tok (hr r h).2)
  rw [List.length_map] at hl
  exact ⟨l, rfl, ⟨by omega, fun t ht => ⟨by have := (h2 t ht).1; omega, (h2 t ht).2⟩⟩, hl⟩
theorem rowAt_of {W : World} {base : Nat} {σ : Nat → Option Loc} {v : Value} {l : List Tok} (h : RepV W (There W) base σ v (slT l)) : RowAt W.heap.size W v l := by
  obtain ⟨a, cap, rfl, h1, h2, h3⟩ := row_inv h
  exact ⟨a, cap, rfl, h1, h2, fun g => by obtain ⟨b, o, e, hb, hc⟩ := h3 g; exact ⟨b, o, e, hb, hc⟩⟩

end Go.Vm
end

section
namespace Go.Vm
open Go.ChangeShapes Go.WideShapes Go.ChangeAt Go.RowKit Go.Proofs Go.Proofs.YtmmbgofnllcaeaaDoor
set_option linter.unusedVariables false

theorem ownD : ownKnob Tryd.prog.godebug = none := by kernel_rfl
theorem laidOutD : laidOutB Tryd.prog = true := by kernel_rfl
theorem gCls : Tryd.prog.globalNamed "sloth/lex.classes" = some 0 := by kernel_rfl
theorem gClsT : (Tryd.prog.globals[0]?).map (·.type) = some 71 := by kernel_rfl
theorem gP10T : (Tryd.prog.globals[2]?).map (·.type) = some 130 := by kernel_rfl

def laidL : List (String × DataW Unit) := [("math/bits.deBruijn32tab", Rows.laid_math_bits_deBruijn32tab), ("math/bits.deBruijn64tab", Rows.laid_math_bits_deBruijn64tab), ("internal/strconv.uint64pow10", Rows.laid_internal_strconv_uint64pow10), ("unicode/utf8.acceptRanges", Rows.laid_unicode_utf8_acceptRanges), ("sloth/lex.classes", Rows.laid_sloth_lex_classes), ("unicode/utf8.first", Rows.laid_unicode_utf8_first)]

def Reads (P : Program) (w : World) (n : String) (d : DataW Unit) : Prop :=
  ∃ g t cs fuel p, P.globalNamed n = some g ∧ (P.globals[g]?).map (·.type) = some t ∧ w.var? P n = some cs ∧ DataW.trod (fun _ => ()) P w 0 (fun _ => true) false fuel t cs.toList = some (d, p)
theorem reads_of {P : Program} {w : World} : ∀ {l : List (String × DataW Unit)} {ps : List MemPlace}, DataW.LaidVars P w l ps → ∀ n d, (n, d) ∈ l → Reads P w n d
  | [], _, _, _, _, hm => by cases hm
  | (n', d') :: r, ps, h, n, d, hm => by
    obtain ⟨g, t, cs, fuel, p, q, h1, h2, h3, h4, h5, _⟩ := h
    rcases List.mem_cons.1 hm with e | e
    · cases e
      exact ⟨g, t, cs, fuel, p, h1, h2, h3, h4⟩
    · exact reads_of h5 n d e
theorem tab_of_reads {P : Program} {W : World} {name : String} {k : IntKind} {zs : List Int} {g : Nat} {t e : TypeId} {n : Nat}
    (hg : P.globalNamed name = some g) (hty : (P.globals[g]?).map (·.type) = some t) (ht : P.underlying t = some (.array n e)) (he : P.underlying e = some (.int k)) (hce : P.cellsOf e = 1) (hct : P.cellsOf t = n)
    (h : Reads P W name (Lib.tabData k zs)) : Lib.TabIs P W name k zs := by
  obtain ⟨g', t', cs, fuel, p, hg', ht', hvar, hd⟩ := h
  obtain rfl := Option.some.inj (hg.symm.trans hg')
  obtain rfl := Option.some.inj (hty.symm.trans ht')
  unfold Lib.TabIs
  rw [hvar, ← Lib.cells_of_tab ht he hce hct hd]

theorem clsData : (Rows.laid_sloth_lex_classes : DataW Unit) = Lib.tabData .u8 (clTab.map fun n => ((n : Nat) : Int)) := by kernel_rfl
theorem p10Data : (Rows.laid_internal_strconv_uint64pow10 : DataW Unit) = Lib.tabData .u64 Lib.pow10Tab := by kernel_rfl

theorem glob_of_tab {W : World} {name : String} {k : IntKind} {zs : List Int} {g : Nat} (h : Lib.TabIs Tryd.prog W name k zs) (hg : Tryd.prog.globalNamed name = some g) :
    RepD W (There W) (.pointer (some ⟨g, 0, none⟩)) (.ptr (zs.map fun z => .int k z)) ∧ ∃ cs t fz, W.heap[g]? = some (.cells cs t fz) ∧ cs.size = (zs.map fun z => D.int k z).length := by
  have hb : ∃ cs t fz, W.heap[g]? = some (.cells cs t fz) ∧ cs.size = (zs.map fun z => D.int k z).length := by
    unfold Lib.TabIs World.var? at h
    rw [hg] at h
    replace h : (match W.heap[g]? with | some (.cells cs _ _) => some cs | _ => none) = some (zs.map fun z => Value.int k z).toArray := h
    split at h
    · rename_i cs t fz hh
      obtain rfl := Option.some.inj h
      exact ⟨_, t, fz, hh, by simp⟩
    · cases h
  refine ⟨?_, hb⟩
  obtain ⟨cs, t, fz, hh, hsz⟩ := hb
  refine .ptr g 0 _ (fun j => .int k (zs.getD j 0)) ?_ (fun j d hd => ?_) (fun j d hd => ?_)
  · show g < W.heap.size
    rcases Nat.lt_or_ge g W.heap.size with h' | h'
    · exact h'
    · simp [Array.getElem?_eq_none h'] at hh
  · have hj : j < zs.length := by
      rcases Nat.lt_or_ge j zs.length with h' | h'
      · exact h'
      · rw [List.getElem?_eq_none (by simpa using h')] at hd; cases hd
    rw [Nat.zero_add]
    exact h.cell hg j hj
  · rw [List.getElem?_map, Option.map_eq_some_iff] at hd
    obtain ⟨z, hz, rfl⟩ := hd
    have : zs.getD j 0 = z := by rw [List.getD_eq_getElem?_getD, hz]; rfl
    rw [this]
    exact .int k z

theorem glob_of_laid {W : World} (h : laidMetH Tryd.prog laidL W) : GlobRel W (There W) GT := by
  obtain ⟨ps, hv, _⟩ : laidMet Tryd.prog laidL W := h
  have h0 := reads_of hv "sloth/lex.classes" Rows.laid_sloth_lex_classes (by simp [laidL])
  have h2 := reads_of hv "internal/strconv.uint64pow10" Rows.laid_internal_strconv_uint64pow10 (by simp [laidL])
  rw [clsData] at h0
  rw [p10Data] at h2
  have t0 := tab_of_reads gCls gClsT Tryd.underlying71 Tryd.underlying5 (by kernel_rfl) (by kernel_rfl) h0
  have t2 := tab_of_reads gP10 gP10T Tryd.underlying130 Tryd.underlying122 (by kernel_rfl) (by kernel_rfl) h2
  intro g cells hg
  match g, hg with
  | 0, hg =>
    obtain rfl := Option.some.inj hg
    rw [if_neg (show ¬ isHandle (clTab.map fun n => D.int .u8 (n : Nat)) = true from fun e => Bool.noConfusion (show false = true from e))]
    have := glob_of_tab t0 gCls
    rw [List.map_map] at this
    exact this
  | 2, hg =>
    obtain rfl := Option.some.inj hg
    rw [if_neg (show ¬ isHandle (Lib.pow10Tab.map fun z => D.int .u64 z) = true from fun e => Bool.noConfusion (show false = true from e))]
    exact glob_of_tab t2 gP10
  | 1, hg => cases hg
  | n + 3, hg => cases hg

def flatN : Nat → DataW Unit → List Value
  | _, .lit (.int k n) => [.int k n]
  | n + 1, .agg ps => ps.flatMap (flatN n)
  | _, _ => []
def lay (g : Nat) (d : DataW Unit) (h : Array Obj) : Array Obj := h.modify g fun
  | .cells _ t frozen => .cells (flatN 3 d).toArray t frozen
  | o => o
noncomputable def laidWorld (os : Os) : World :=
  { World.holding Tryd.prog os ⟨#[], #[], []⟩ with heap := lay 7 Rows.laid_math_bits_deBruijn64tab (lay 6 Rows.laid_math_bits_deBruijn32tab (lay 4 Rows.laid_unicode_utf8_acceptRanges (lay 3 Rows.laid_unicode_utf8_first (lay 2 Rows.laid_internal_strconv_uint64pow10 (lay 0 Rows.laid_sloth_lex_classes (World.holding Tryd.prog os ⟨#[], #[], []⟩).heap))))) }
set_option maxRecDepth 100000 in
theorem laid_met (os : Os) (args : Array Value) : laidMet Tryd.prog laidL ((laidWorld os).forCall (fun _ _ => 0) ⟨#[], args, []⟩).memory :=
  (LaidIn.of_run [0, 2, 3, 4, 6, 7] 8 (by kernel_rfl) (by kernel_rfl) (by kernel_rfl) (by kernel_rfl)).met
end Go.Vm
end

section
namespace Go.Proofs.YtmmbgofnllcaeaaDoor.lexPrints
open Go.ChangeShapes Go.WideShapes Go.ChangeAt Go.RowKit Go.Vm Go.ChangeMaps
set_option linter.unusedVariables false

theorem post_below {H : Type} {enc : TypeId × Value → H} {P : Program} {f : Func} {s : ChangeSpec} {apart fresh handsOn again : Bool} {W W' : World} {args : Array Value} {v : Value} {ds gs : List (DataW H)} {before : List MemPlace}
    (hW : DataW.Whole enc P f.params.toList s.vars apart W args.toList ds gs before) (hb : Below W.heap.size W W')
    (hres : ∀ (b : Nat) (sp : Nat → Bool) (hd : Bool), DataW.TrodAll enc P W' b sp hd f.resultTypes.toList (v.resultList f.resultTypes.size) (s.fn H (ds ++ gs)).results [])
    (hargs : ∀ sp : Nat → Bool, (∀ p ∈ before, sp p.block = true) → DataW.TrodAll enc P W' 0 sp true f.params.toList args.toList (s.fn H (ds ++ gs)).args before)
    (hvars : ∀ sp : Nat → Bool, DataW.TrodVars enc P W' sp s.vars (s.fn H (ds ++ gs)).vars [])
    (hok : ∀ (j : Nat) (t : TypeId) (r : Value), f.resultTypes[j]? = some t → (v.resultList f.resultTypes.size)[j]? = some r → Value.okWide P W' .any 0 t r) :
    s.post enc P f apart fresh handsOn again W args v W' := by
  have hlt := hW.lt
  have hsp : ∀ p ∈ before, (fun b => decide (b < W.heap.size)) p.block = true := fun p hp => decide_eq_true (hlt p hp)
  have all := trodAll_append (hargs (fun _ => true) (fun _ _ => rfl)) (hres 0 (fun _ => true) true)
  rw [List.nil_append] at all
  obtain ⟨_, _, _, _, _, hz, hn⟩ := id hW
  refine ⟨ds, gs, before, [], before, [], hW, hres _ _ _, hargs _ hsp, hvars _, hb.frame _, fun _ => ⟨hok, _, _, before, ⟨before, [], all, hvars _, by simp, fun b off hp => ?_, hn⟩, fun p hp _ => hp⟩⟩
  rw [hb.frozen (hlt _ hp)]
  exact hz b off hp

theorem bulk2 {H : Type} {a b : DataW H} (h : Rows.uptoSmall H ([a, b] ++ []) = true) : Rows.uptoBulk a + Rows.uptoBulk b ≤ 1048576 := by
  have h := of_decide_eq_true h
  simpa only [List.append_nil, Rows.uptoBulkAll, Nat.add_zero] using h

set_option maxRecDepth 100000 in
theorem contract (H : Type) (enc : TypeId × Value → H) (W : World) (base : Nat) (args : Array Value) (ds gs : List (DataW H)) (before : List MemPlace)
    (hval : ∀ (j : Nat) t v, Tryd.f3.params[j]? = some t → args[j]? = some v → Value.okWide Tryd.prog W .any base t v)
    (hW : DataW.Whole enc Tryd.prog Tryd.f3.params.toList Rows.lexPrintsSpec.vars false W args.toList ds gs before) (hk : Rows.uptoSmall H (ds ++ gs) = true) (hL : laidMetH Tryd.prog laidL W) :
    Calls Tryd.prog 3 args W fun e W' => ∃ v, e = .returned v ∧ Rows.lexPrintsSpec.post enc Tryd.prog Tryd.f3 false true false false W args v W' := by
  have hW' := hW
  obtain ⟨p, q, hA0, hV, rfl, hfz, hnd⟩ := hW
  have hA : DataW.TrodAll enc Tryd.prog W 0 (fun _ => true) true Tryd.f3.params.toList args.toList ds p := hA0
  rw [Tryd.params3] at hA hval
  obtain ⟨v0, vs0, d0, ds0, p0, q0, hargs, rfl, rfl, h0, r0⟩ := trodAll_cons hA
  obtain ⟨v1, vs1, d1, ds1, p1, q1, rfl, rfl, rfl, h1, r1⟩ := trodAll_cons r0
  obtain ⟨rfl, rfl, rfl⟩ := trodAll_nil r1
  obtain rfl : args = #[v0, v1] := by cases args; simp_all
  obtain ⟨rfl, rfl⟩ := trodVars_none hV
  clear hA0
  simp only [List.append_nil] at hW'
  have hb := bulk2 hk
  obtain ⟨dl, hty, hr0⟩ := arg_repB bulk_ok (by omega : Rows.uptoBulk d0 ≤ 1048576) plain22 (hval 0 22 v0 rfl rfl) h0 (base := W.heap.size)
  obtain ⟨dm, hty1, hr1⟩ := arg_repB bulk_ok (by omega : Rows.uptoBulk d1 ≤ 1048576) plain22 (hval 1 22 v1 rfl rfl) h1 (base := W.heap.size)
  obtain ⟨l, rfl, hl, hll⟩ := typed_toks2 (n := 0) hty
  obtain ⟨m, rfl, hm, _⟩ := typed_toks2 (n := 0) hty1
  have hcall := prints_walk W (glob_of_laid hL) v0 v1 l m hl hm (by omega) (rowAt_of hr0) (rowAt_of hr1)
  refine hcall.mono fun e W' ⟨he, hbel⟩ => ?_
  subst he
  have hlt : ∀ x ∈ p0 ++ p1, x.block < W.heap.size := fun x hx => hW'.lt x (by simpa using hx)
  exact ⟨_, rfl, post_below hW' hbel (fun _ _ _ => (trodAll_cons_mk (shut_bool Tryd.underlying4 _) trodAll_mk0))
    (fun sp hsp => by
      have s1 := trodAll_cons_mk (WideElems.Trod_stays laidOutD (by kernel_rfl) (of_decide_eq_true (by kernel_rfl)) h1 (fun x hx => hbel.same (hlt x (List.mem_append_right _ hx))) (fun x hx => hsp x (by simp [hx]))) trodAll_mk0
      have s0 := trodAll_cons_mk (WideElems.Trod_stays laidOutD (by kernel_rfl) (of_decide_eq_true (by kernel_rfl)) h0 (fun x hx => hbel.same (hlt x (List.mem_append_left _ hx))) (fun x hx => hsp x (by simp [hx]))) s1
      have this' : DataW.TrodAll enc Tryd.prog W' 0 sp true [22, 22] [v0, v1] [d0, d1] (p0 ++ p1) := by simpa using s0
      exact this')
    (fun _ => rfl) (ok_one (by kernel_rfl) rfl (okWide_bool_mk Tryd.underlying4 _))⟩

def wargs : Array Value := #[.slice none 0 0, .slice none 0 0]
theorem reads (os : Os) {H : Type} (enc : TypeId × Value → H) : ∃ places, DataW.whole enc Tryd.prog ((laidWorld os).forCall (fun _ _ => 0) ⟨#[], wargs, []⟩).memory Tryd.f3.params.toList Rows.lexPrintsSpec.vars false wargs.toList 8 = some ([.nil, .nil], [], places) :=
  ⟨[], by kernel_rfl⟩

set_option maxRecDepth 100000 in
theorem liftedUpto (os : Os) (started : os.Started) (H : Type) (enc : TypeId × Value → H) (F : Stop.Interp) :
    ReturnsInHanded {} Tryd.checked os 3 .any ((Rows.OpenSpec.upto Rows.lexPrintsSpec).preRow enc Tryd.prog Tryd.f3 Rows.lexPrintsUptoRow.domain false Rows.lexPrintsUptoRow.laid) (((Rows.OpenSpec.upto Rows.lexPrintsSpec).at F).post enc Tryd.prog Tryd.f3 false true false false) := by
  obtain ⟨places, hx⟩ := reads os enc
  refine returnsInHanded_of_row (C := Tryd.checked) (s := Rows.OpenSpec.upto Rows.lexPrintsSpec) ownD started (by kernel_rfl) Tryd.func3
    (witness_row_at (enc := enc) (C := Tryd.checked) false (laidWorld os) wargs rfl (by kernel_rfl) (by kernel_rfl) (by kernel_rfl)
      (OpenSpec.preRow_of_cond 8 hx (by kernel_rfl) (fun k hk => by cases hk; kernel_rfl) (by kernel_rfl) (laid_met os wargs))) ?_
  intro W base args ds gs before hval hW _ hcond _ hL _ _
  exact contract H enc W base args ds gs before hval hW (hcond _ rfl) hL

theorem saidUpto : Rows.LexPrintsUptoSaid :=
  OpenClaim.holds_of_cond 3 Tryd.f3 rfl rfl rfl rfl rfl rfl rfl ⟨rfl, rfl, rfl, rfl, rfl⟩ rfl rfl rfl rfl rfl (by kernel_rfl) Tryd.func3 (by kernel_rfl)
    (of_decide_eq_true (by kernel_rfl)) (by unfold Func.isWrapper; first | (rw [if_pos (by decide +kernel)]; kernel_rfl) | (rw [if_neg (by decide +kernel)]; exact ⟨rfl, rfl⟩))
    (fun os started H enc _ F => by rw [OpenClaim.pre_eq_preRow]; exact liftedUpto os started H enc F)

theorem plain (f : FuncId) (fn : Func) (hf : Tryd.pinned.checked.prog.funcNamed "sloth/slothlaw01.LexPrints" = some f) (hfn : Tryd.pinned.checked.prog.funcs[f]? = some fn) :
    true = Tryd.pinned.checked.prog.looks [] ∧ ∀ (j : Nat) t, fn.params[j]? = some t → Tryd.pinned.checked.prog.wantsStandIn t = false := by
  obtain rfl : f = 3 := Option.some.inj ((show Tryd.prog.funcNamed "sloth/slothlaw01.LexPrints" = some 3 by kernel_rfl).symm.trans hf) |>.symm
  obtain rfl : fn = Tryd.f3 := (Option.some.inj (Tryd.func3.symm.trans hfn)).symm
  refine ⟨by kernel_rfl, fun j t ht => ?_⟩
  rw [Tryd.params3] at ht
  have h22 : Tryd.prog.wantsStandIn 22 = false := by kernel_rfl
  match j, ht with
  | 0, ht => simp at ht; subst ht; exact h22
  | 1, ht => simp at ht; subst ht; exact h22
  | j + 2, ht => simp at ht

theorem cardUpto : Rows.LexPrintsUptoCardSaid :=
  Claim7.holds_tied_plain_at .later [] _ _ _ _ saidUpto (fun _ h => by cases h) (by kernel_rfl) (fun _ h => by cases h) lexPrintsUpto_row_tie rfl ⟨rfl, rfl⟩ (by kernel_rfl) rfl plain (by kernel_rfl)
#print axioms cardUpto
end Go.Proofs.YtmmbgofnllcaeaaDoor.lexPrints
end
