/-
  CodeEnds comes to true, whatever the table, the number and the ways; the input reads as it did.
  Conditions: the listed package-level tables read as the program's text lays them (tied by the card).
-/
import Derived.Test.YtjpnaaebfdnccaaGreatDoorCodeEndsUptoCardSaidD
import Derived.Test.YtjpnaaebfdnccaaGreatDoorChecked
import Derived.Deep.Slices
import Derived.DataReads
import Derived.KernelRfl
import Derived.Test.YtjpnaaebfdnccaaGreatDoorRows
import Derived.ProofKit
import Derived.OpenShut
import Derived.Deep.DeepHandedRow
import Derived.Lib.LaidTab
import Derived.Lib.LaidIn
import Derived.ChangeMaps5
import Derived.LaidHandle
import Derived.Test.YtjpnaaebfdnccaaGreatDoorCards
import Derived.Test.YtjpnaaebfdnccaaGreatDoorTie
set_option linter.unusedVariables false
set_option linter.unusedSimpArgs false

section
namespace Go.Vm
theorem stacked_split {sh : List Shape} {x : Instr} {d : Int} (g : 1 ≤ x.op ∧ x.op < 18) (hd : 1 ≤ d) : stackedS sh x d = (behindR sh x d, needsR sh x d && decide (behindR sh x d ≤ 8000)) := by
  obtain ⟨op, a, b⟩ := x
  rcases ops17 g with h | h | h | h | h | h | h | h | h | h | h | h | h | h | h | h | h
  all_goals
    simp only at h
    subst h
    simp [stackedS, behindR, needsR]
  rotate_right
  · by_cases h : d = 1 <;> simp [h]
  · by_cases k : 8000 < a
    · simp [k]; omega
    · simp [k]; omega

end Go.Vm
end

section
namespace Go.Vm

def checkCodeS (ng : Nat) (sh : List Shape) (g : Glob) : Int :=
  if numsL ng sh.length g.code.length g.code g.code.length 0 = 0 then
    if g.code.length = 0 then 174 else depL sh g.code g.code.length 0 ((List.replicate g.code.length 0).set 0 (g.arity + 1))
  else numsL ng sh.length g.code.length g.code g.code.length 0

def namesOk (most : Int) : List (List UInt8 × Int) → List (List UInt8) → Bool
  | [], _ => true
  | (n, k) :: r, seen => if isNameS n && !seen.contains n && decide (0 ≤ k) && decide (k ≤ most) then namesOk most r (seen ++ [n]) else false
def headL (sh : List Shape) : Nat → Nat → Bool
  | 0, _ => true
  | k + 1, i => if i < sh.length ∧ nth sh i = nth givenS i then headL sh k (i + 1) else false
def headsOk (sh : List Shape) : Bool := headL sh 7 0
def codesS (ng : Nat) (sh : List Shape) : List Glob → Int
  | [] => 0
  | g :: r => if checkCodeS ng sh g = 0 then codesS ng sh r else checkCodeS ng sh g
def checkS (t : Table) : Int :=
  if greatS t then 4 else
  if namesOk 8 (t.shapes.map fun s => (s.name, s.fields)) [] = false then 172 else
  if headsOk t.shapes = false then 172 else
  if namesOk 24 (t.globals.map fun g => (g.name, g.arity)) [] = false then 172 else
  codesS t.globals.length t.shapes t.globals

theorem namesOk_mem (most : Int) : ∀ (l : List (List UInt8 × Int)) (seen : List (List UInt8)), namesOk most l seen = true → ∀ p ∈ l, isNameS p.1 = true ∧ 0 ≤ p.2 ∧ p.2 ≤ most := by
  intro l
  induction l with
  | nil => intro seen _ p hp; simp at hp
  | cons q l ih =>
    obtain ⟨n, k⟩ := q
    intro seen h p hp
    simp only [namesOk] at h
    split at h
    · rename_i hc
      simp only [Bool.and_eq_true, decide_eq_true_eq] at hc
      rcases List.mem_cons.1 hp with rfl | hp
      · exact ⟨hc.1.1.1, hc.1.2, hc.2⟩
      · exact ih _ h p hp
    · cases h

theorem greatL_mem : ∀ (l : List Glob) (n m : Int), greatL l n = some m → ∀ g ∈ l, (g.code.length : Int) ≤ 8000 := by
  intro l
  induction l with
  | nil => intro n m _ g hg; simp at hg
  | cons q l ih =>
    intro n m h g hg
    simp only [greatL] at h
    split at h
    · cases h
    · rcases List.mem_cons.1 hg with rfl | hg
      · omega
      · exact ih _ _ h g hg

theorem greatS_f {t : Table} (h : greatS t = false) : t.shapes.length ≤ 2000 ∧ t.globals.length ≤ 2000 ∧ ∀ g ∈ t.globals, g.code.length ≤ 8000 := by
  unfold greatS at h
  cases hg : greatL t.globals 0 with
  | none => rw [hg] at h; cases h
  | some n =>
    rw [hg] at h
    simp only [Bool.or_eq_false_iff, decide_eq_false_iff_not] at h
    exact ⟨by omega, by omega, fun g hm => by have := greatL_mem _ _ _ hg g hm; omega⟩

end Go.Vm
end

section
namespace Go.Vm

def K21 (K : Cx) : Prop := ∀ s : List UInt8, (s.length : Int) ≤ 9223372036854775807 → K.call 35 [.d false (.str s)] = some (.d false (.bool (isNameS s)), [])

def shapesOut (t : Table) (r : Bool × List (List UInt8)) : Ex × S := if r.1 then (.exit 0, ⟨[(1, .ptr 0 0 0), (3, .map 1)], [(0, .mix 2 [[.d false (.sl 2 (t.shapes.map eShape)), .d false (.sl 3 (t.globals.map eGlob))]]), (1, .map (seenE r.2))], 2, []⟩) else (.ret, ⟨[(2, .d false (.int .i64 172))], [], 0, []⟩)
theorem shapesOut_f (t m) : shapesOut t (false, m) = (.ret, ⟨[(2, .d false (.int .i64 172))], [], 0, []⟩) := rfl
theorem shapesOut_t (t m) : shapesOut t (true, m) = (.exit 0, ⟨[(1, .ptr 0 0 0), (3, .map 1)], [(0, .mix 2 [[.d false (.sl 2 (t.shapes.map eShape)), .d false (.sl 3 (t.globals.map eGlob))]]), (1, .map (seenE m))], 2, []⟩) := rfl

theorem shapes_loop (K : Cx) (h21 : K21 K) (t : Table) (hl : t.shapes.length ≤ 2000) (hn : ∀ s ∈ t.shapes, (s.name.length : Int) ≤ 9223372036854775807) : ∀ (k i : Nat) (seen : List (List UInt8)), i + k = t.shapes.length →
    lp K 0 [1, 3, 17, 18, 19] f13_L0 ⟨[(1, .ptr 0 0 0), (3, .map 1), (17, .d false (.sl 2 (t.shapes.map eShape))), (18, .d false (.int .i64 t.shapes.length)), (19, .d false (.int .i64 i))], [(0, .mix 2 [[.d false (.sl 2 (t.shapes.map eShape)), .d false (.sl 3 (t.globals.map eGlob))]]), (1, .map (seenE seen))], 2, []⟩ =
    some (shapesOut t (namesOk 8 ((t.shapes.drop i).map fun s => (s.name, s.fields)) seen, seen ++ (t.shapes.drop i).map (·.name))) := by
  intro k
  induction k with
  | zero =>
    intro i seen hi
    rw [lp_un f13_L0.eq_1, List.drop_of_length_le (by omega)]
    simp only [List.map_nil, namesOk, List.append_nil]
    simp (disch := first|decide|omega|(simp only [LN];first|done|omega)) only [SV, SW, Nat.reduceBEq, reduceCtorEq, Nat.reduceAdd, shapesOut_t]
  | succ k ih =>
    intro i seen hi
    have hcast : ((i + 1 : Nat) : Int) = (i : Int) + 1 := by omega
    have hlt : i < t.shapes.length := by omega
    rw [lp_un f13_L0.eq_1, drop_nth hlt]
    have hnm := hn _ (nth_mem (l := t.shapes) (i := (i : Int)) (by omega) (by omega))
    have hc := h21 _ hnm
    have ih := fun seen => ih (i + 1) seen (by omega)
    rw [hcast] at ih
    simp only [List.map_cons, namesOk]
    generalize hs : nth t.shapes (i : Int) = s at hc hnm
    generalize isNameS s.name = b1 at hc
    clear hnm hn
    cases hse : seen.contains s.name with
    | true =>
      cases b1 with
      | false =>
        simp only [Bool.false_and]
        simp (disch := first|decide|omega|(simp only [LN];first|done|omega)) only [SV, SW, Nat.reduceBEq, Nat.reduceAdd, hs, eShape_eq, lose, viewD, hc, hse, shapesOut_f]
      | true =>
        simp only [Bool.not_true, Bool.and_false, Bool.false_and]
        simp (disch := first|decide|omega|(simp only [LN];first|done|omega)) only [SV, SW, Nat.reduceBEq, Nat.reduceAdd, hs, eShape_eq, lose, viewD, hc, hse, shapesOut_f]
    | false =>
      cases b1 with
      | false =>
        simp only [Bool.false_and]
        simp (disch := first|decide|omega|(simp only [LN];first|done|omega)) only [SV, SW, Nat.reduceBEq, Nat.reduceAdd, hs, eShape_eq, lose, viewD, hc, hse, shapesOut_f]
      | true =>
        by_cases g1 : 0 ≤ s.fields
        · by_cases g2 : s.fields ≤ 8
          · have ih := ih (seen ++ [s.name])
            have e1 : decide (0 ≤ s.fields) = true := by simpa using g1
            have e2 : decide (s.fields ≤ 8) = true := by simpa using g2
            have hset := setE_seen s.name seen hse
            simp only [e1, e2, Bool.not_false, Bool.and_self, if_true]
            rw [List.append_assoc] at ih
            simp (disch := first|decide|omega|(simp only [LN];first|done|omega)) only [SV, SW, Nat.reduceBEq, Nat.reduceAdd, hs, eShape_eq, lose, viewD, hc, hse, evWr_mset, wrMset_map, msB_map, hset, stM_some, reduceCtorEq]
            exact ih
          · have e2 : decide (s.fields ≤ 8) = false := by simpa using g2
            simp only [e2, Bool.and_false]
            simp (disch := first|decide|omega|(simp only [LN];first|done|omega)) only [SV, SW, Nat.reduceBEq, Nat.reduceAdd, hs, eShape_eq, lose, viewD, hc, hse, shapesOut_f]
        · have e2 : decide (0 ≤ s.fields) = false := by simpa using g1
          simp only [e2, Bool.and_false, Bool.false_and]
          simp (disch := first|decide|omega|(simp only [LN];first|done|omega)) only [SV, SW, Nat.reduceBEq, Nat.reduceAdd, hs, eShape_eq, lose, viewD, hc, hse, shapesOut_f]

def globsOut (t : Table) (r : Bool) : Ex × S := if r then (.exit 4, ⟨[(1, .ptr 0 0 0)], [(0, .mix 2 [[.d false (.sl 2 (t.shapes.map eShape)), .d false (.sl 3 (t.globals.map eGlob))]])], 1, []⟩) else (.ret, ⟨[(2, .d false (.int .i64 172))], [], 0, []⟩)
theorem globsOut_f (t) : globsOut t false = (.ret, ⟨[(2, .d false (.int .i64 172))], [], 0, []⟩) := rfl
theorem globsOut_t (t) : globsOut t true = (.exit 4, ⟨[(1, .ptr 0 0 0)], [(0, .mix 2 [[.d false (.sl 2 (t.shapes.map eShape)), .d false (.sl 3 (t.globals.map eGlob))]])], 1, []⟩) := rfl

theorem globs_loop (K : Cx) (h21 : K21 K) (t : Table) (hl : t.globals.length ≤ 2000) (hn : ∀ s ∈ t.globals, (s.name.length : Int) ≤ 9223372036854775807) : ∀ (k i : Nat) (seen : List (List UInt8)), i + k = t.globals.length →
    lp K 0 [1, 3, 72, 73, 74] f13_L2 ⟨[(1, .ptr 0 0 0), (3, .map 1), (72, .d false (.sl 3 (t.globals.map eGlob))), (73, .d false (.int .i64 t.globals.length)), (74, .d false (.int .i64 i))], [(0, .mix 2 [[.d false (.sl 2 (t.shapes.map eShape)), .d false (.sl 3 (t.globals.map eGlob))]]), (1, .map (seenE seen))], 2, []⟩ =
    some (globsOut t (namesOk 24 ((t.globals.drop i).map fun s => (s.name, s.arity)) seen)) := by
  intro k
  induction k with
  | zero =>
    intro i seen hi
    rw [lp_un f13_L2.eq_1, List.drop_of_length_le (by omega)]
    simp only [List.map_nil, namesOk]
    simp (disch := first|decide|omega|(simp only [LN];first|done|omega)) only [SV, SW, Nat.reduceBEq, globsOut_t]
  | succ k ih =>
    intro i seen hi
    have hcast : ((i + 1 : Nat) : Int) = (i : Int) + 1 := by omega
    have hlt : i < t.globals.length := by omega
    rw [lp_un f13_L2.eq_1, drop_nth hlt]
    have hnm := hn _ (nth_mem (l := t.globals) (i := (i : Int)) (by omega) (by omega))
    have hc := h21 _ hnm
    have ih := fun seen => ih (i + 1) seen (by omega)
    rw [hcast] at ih
    simp only [List.map_cons, namesOk]
    generalize hs : nth t.globals (i : Int) = s at hc hnm
    generalize isNameS s.name = b1 at hc
    clear hnm hn
    cases hse : seen.contains s.name with
    | true =>
      cases b1 with
      | false =>
        simp only [Bool.false_and]
        simp (disch := first|decide|omega|(simp only [LN];first|done|omega)) only [SV, SW, Nat.reduceBEq, Nat.reduceAdd, hs, eGlob_eq, lose, viewD, hc, hse, globsOut_f]
      | true =>
        simp only [Bool.not_true, Bool.and_false, Bool.false_and]
        simp (disch := first|decide|omega|(simp only [LN];first|done|omega)) only [SV, SW, Nat.reduceBEq, Nat.reduceAdd, hs, eGlob_eq, lose, viewD, hc, hse, globsOut_f]
    | false =>
      cases b1 with
      | false =>
        simp only [Bool.false_and]
        simp (disch := first|decide|omega|(simp only [LN];first|done|omega)) only [SV, SW, Nat.reduceBEq, Nat.reduceAdd, hs, eGlob_eq, lose, viewD, hc, hse, globsOut_f]
      | true =>
        by_cases g1 : 0 ≤ s.arity
        · by_cases g2 : s.arity ≤ 24
          · have ih := ih (seen ++ [s.name])
            have e1 : decide (0 ≤ s.arity) = true := by simpa using g1
            have e2 : decide (s.arity ≤ 24) = true := by simpa using g2
            have hset := setE_seen s.name seen hse
            simp only [e1, e2, Bool.not_false, Bool.and_self, if_true]
            simp (disch := first|decide|omega|(simp only [LN];first|done|omega)) only [SV, SW, Nat.reduceBEq, Nat.reduceAdd, hs, eGlob_eq, lose, viewD, hc, hse, evWr_mset, wrMset_map, msB_map, hset, stM_some, reduceCtorEq]
            exact ih
          · have e2 : decide (s.arity ≤ 24) = false := by simpa using g2
            simp only [e2, Bool.and_false]
            simp (disch := first|decide|omega|(simp only [LN];first|done|omega)) only [SV, SW, Nat.reduceBEq, Nat.reduceAdd, hs, eGlob_eq, lose, viewD, hc, hse, globsOut_f]
        · have e2 : decide (0 ≤ s.arity) = false := by simpa using g1
          simp only [e2, Bool.and_false, Bool.false_and]
          simp (disch := first|decide|omega|(simp only [LN];first|done|omega)) only [SV, SW, Nat.reduceBEq, Nat.reduceAdd, hs, eGlob_eq, lose, viewD, hc, hse, globsOut_f]

def headOut (t : Table) (seen : List (List UInt8)) (r : Bool) : Ex × S := if r then (.exit 2, ⟨[(1, .ptr 0 0 0), (3, .map 1)], [(0, .mix 2 [[.d false (.sl 2 (t.shapes.map eShape)), .d false (.sl 3 (t.globals.map eGlob))]]), (1, .map (seenE seen))], 2, []⟩) else (.ret, ⟨[(2, .d false (.int .i64 172))], [], 0, []⟩)
theorem headOut_f (t m) : headOut t m false = (.ret, ⟨[(2, .d false (.int .i64 172))], [], 0, []⟩) := rfl
theorem headOut_t (t m) : headOut t m true = (.exit 2, ⟨[(1, .ptr 0 0 0), (3, .map 1)], [(0, .mix 2 [[.d false (.sl 2 (t.shapes.map eShape)), .d false (.sl 3 (t.globals.map eGlob))]]), (1, .map (seenE m))], 2, []⟩) := rfl

theorem head_loop (K : Cx) (t : Table) (hl : t.shapes.length ≤ 2000) (seen : List (List UInt8)) : ∀ (k i : Nat), i + k = 7 →
    lp K 0 [1, 3, 48, 49, 50] f13_L1 ⟨[(1, .ptr 0 0 0), (3, .map 1), (48, .bsl 2 0 7), (49, .d false (.int .i64 7)), (50, .d false (.int .i64 i))], [(0, .mix 2 [[.d false (.sl 2 (t.shapes.map eShape)), .d false (.sl 3 (t.globals.map eGlob))]]), (1, .map (seenE seen)), (2, .dat true 2 (givenS.map eShape))], 3, []⟩ =
    some (headOut t seen (headL t.shapes k i)) := by
  have h7 : givenS.length = 7 := rfl
  intro k
  induction k with
  | zero =>
    intro i hi
    rw [lp_un f13_L1.eq_1]
    simp only [headL]
    simp (disch := first|decide|omega|(simp only [LN];first|done|omega)) only [SV, SW, Nat.reduceBEq, reduceCtorEq, Nat.reduceAdd, headOut_t]
  | succ k ih =>
    intro i hi
    have hcast : ((i + 1 : Nat) : Int) = (i : Int) + 1 := by omega
    have ih := ih (i + 1) (by omega)
    rw [hcast] at ih
    rw [lp_un f13_L1.eq_1]
    simp only [headL]
    by_cases g : i < t.shapes.length
    · generalize hs : nth t.shapes (i : Int) = s
      generalize hg : nth givenS (i : Int) = s'
      by_cases e1 : s.name = s'.name
      · by_cases e2 : s.fields = s'.fields
        · have e : s = s' := by cases s; cases s'; simp at e1 e2; subst e1; subst e2; rfl
          rw [if_pos ⟨g, e⟩]
          subst e
          simp (disch := first|decide|omega|(simp only [LN];first|done|omega)) only [SV, SW, Nat.reduceBEq, Nat.reduceAdd, hg, eShape_eq, lose, hs, evEqs, cellsEq, cellEq, reduceCtorEq, Nat.reduceEqDiff]
          exact ih
        · rw [if_neg (fun h => e2 (by rw [h.2]))]
          have d2 : (s.fields == s'.fields) = false := by simpa using e2
          clear e2
          simp (disch := first|decide|omega|(simp only [LN];first|done|omega)) only [SV, SW, Nat.reduceBEq, Nat.reduceAdd, hg, eShape_eq, lose, hs, e1, evEqs, cellsEq, cellEq, d2, headOut_f]
      · rw [if_neg (fun h => e1 (by rw [h.2]))]
        have d1 : decide (s.name = s'.name) = false := by simpa using e1
        simp (disch := first|decide|omega|(simp only [LN];first|done|omega)) only [SV, SW, Nat.reduceBEq, Nat.reduceAdd, hg, eShape_eq, lose, hs, evEqs, cellsEq, cellEq, d1, headOut_f]
    · rw [if_neg (fun h => g h.1)]
      simp (disch := first|decide|omega|(simp only [LN];first|done|omega)) only [SV, SW, Nat.reduceBEq, Nat.reduceAdd, eShape_eq, lose, headOut_f]

end Go.Vm
end

section
namespace Go.Vm

theorem isName_loop (K : Cx) (s : List UInt8) (hs : (s.length : Int) ≤ 9223372036854775807) : ∀ (k i : Nat), i + k = s.length →
    lp K 0 [0, 5, 6] f35_L0 ⟨[(0, .d false (.str s)), (5, .d false (.int .i64 s.length)), (6, .d false (.int .i64 i))], [], 0, []⟩ =
    some (if (s.drop i).all goodB then (.exit 0, ⟨[(0, .d false (.str s))], [], 0, []⟩) else (.ret, ⟨[(2, .d false (.bool false))], [], 0, []⟩)) := by
  intro k
  induction k with
  | zero =>
    intro i hi
    rw [lp_un f35_L0.eq_1, List.drop_of_length_le (by omega)]
    simp (disch := first|decide|omega|(simp only [LN];first|done|omega)) only [SV, SW, Nat.reduceBEq]
  | succ k ih =>
    intro i hi
    have ih := ih (i + 1) (by omega)
    have hcast : ((i + 1 : Nat) : Int) = (i : Int) + 1 := by omega
    rw [hcast] at ih
    rw [lp_un f35_L0.eq_1, drop_nth (by omega : i < s.length), List.all_cons]
    generalize hb : nth s (i : Int) = b
    have h0 : 0 ≤ (b.toNat : Int) := by omega
    by_cases g1 : (b.toNat : Int) < 32
    · have : goodB b = false := by simp [goodB]; omega
      rw [this]
      simp (disch := first|decide|omega|(simp only [LN];first|done|omega)) only [SV, SW, Nat.reduceBEq, hb]
    · by_cases g2 : 126 < (b.toNat : Int)
      · have : goodB b = false := by simp [goodB]; omega
        rw [this]
        simp (disch := first|decide|omega|(simp only [LN];first|done|omega)) only [SV, SW, Nat.reduceBEq, hb]
      · have : goodB b = true := by simp [goodB]; omega
        rw [this]
        simp (disch := first|decide|omega|(simp only [LN];first|done|omega)) only [SV, SW, Nat.reduceBEq, hb]
        exact ih

theorem ev_isName (K : Cx) (s : List UInt8) (hs : (s.length : Int) ≤ 9223372036854775807) : runFun K f35 [.d false (.str s)] [] = some (.d false (.bool (isNameS s)), [], []) := by
  have hlp := isName_loop K s hs s.length 0 (by omega)
  simp only [Int.natCast_zero, List.drop_zero] at hlp
  unfold isNameS
  by_cases h : s.all goodB = true
  · rw [if_pos h] at hlp
    rw [h]
    simp (disch := first|decide|omega|(simp only [LN];first|done|omega)) only [SV, SW, f35, Nat.reduceBEq, hlp, oneOr]
  · rw [if_neg h] at hlp
    rw [Bool.not_eq_true] at h
    rw [h]
    simp (disch := first|decide|omega|(simp only [LN];first|done|omega)) only [SV, SW, f35, Nat.reduceBEq, hlp, oneOr]

theorem ev_given (K : Cx) : runFun K f36 [] [] = some (.bsl 0 0 7, [.dat true 2 (givenS.map eShape)], []) := by
  simp (disch := first|decide|omega|(simp only [LN];first|done|omega)) only [SV, SW, f36, Nat.reduceAdd, oneOr, hNew, V.forget, V.drop1, V.ref0, V.newR, viewD, givenS, eShape_eq]

theorem wrap_of {x y : Int} (h : x % 18446744073709551616 = y % 18446744073709551616) : IntKind.i64.wrap x = IntKind.i64.wrap y := by
  unfold IntKind.wrap
  have e1 : (2 : Int) ^ IntKind.i64.bits = 18446744073709551616 := by decide
  simp only [e1, h]
theorem wrap_mod (x : Int) : IntKind.i64.wrap x % 18446744073709551616 = x % 18446744073709551616 := by
  unfold IntKind.wrap
  have e1 : (2 : Int) ^ IntKind.i64.bits = 18446744073709551616 := by decide
  simp only [e1]
  split <;> omega
theorem wrap_add (n c : Int) : IntKind.i64.wrap (IntKind.i64.wrap n + c) = IntKind.i64.wrap (n + c) := by
  refine wrap_of ?_
  rw [Int.add_emod, wrap_mod, ← Int.add_emod]

theorem great_loop (K : Cx) (t : Table) (hl : (t.globals.length : Int) ≤ 9223372036854775807) (hb : ∀ g ∈ t.globals, (g.code.length : Int) ≤ 9223372036854775807) : ∀ (k i : Nat) (n v : Int), i + k = t.globals.length → v = IntKind.i64.wrap n →
    lp K 0 [1, 3, 7, 8, 9] f34_L0 ⟨[(1, .ptr 0 0 0), (3, .d false (.int .i64 v)), (7, .d false (.sl 3 (t.globals.map eGlob))), (8, .d false (.int .i64 t.globals.length)), (9, .d false (.int .i64 i))], [(0, .mix 2 [[.d false (.sl 2 (t.shapes.map eShape)), .d false (.sl 3 (t.globals.map eGlob))]])], 1, []⟩ =
    some (match greatL (t.globals.drop i) n with
     | none => (.ret, ⟨[(2, .d false (.bool true))], [], 0, []⟩)
     | some m => (.exit 0, ⟨[(1, .ptr 0 0 0), (3, .d false (.int .i64 (IntKind.i64.wrap m)))], [(0, .mix 2 [[.d false (.sl 2 (t.shapes.map eShape)), .d false (.sl 3 (t.globals.map eGlob))]])], 1, []⟩)) := by
  intro k
  induction k with
  | zero =>
    intro i n v hi hv
    rw [lp_un f34_L0.eq_1, List.drop_of_length_le (by omega)]
    simp (disch := first|decide|omega|(simp only [LN];first|done|omega)) only [SV, SW, hv, Nat.reduceBEq, greatL]
  | succ k ih =>
    intro i n v hi hv
    have hlt : i < t.globals.length := by omega
    have hcast : ((i + 1 : Nat) : Int) = (i : Int) + 1 := by omega
    rw [lp_un f34_L0.eq_1, drop_nth hlt, greatL]
    have hbg := hb _ (nth_mem (l := t.globals) (i := (i : Int)) (by omega) (by omega))
    by_cases g1 : 8000 < ((nth t.globals i).code.length : Int)
    · rw [if_pos g1]
      clear hv
      simp (disch := first|decide|omega|(simp only [LN];first|done|omega)) only [SV, SW, Nat.reduceBEq, Nat.reduceAdd, eGlob_eq, lose]
    · rw [if_neg g1]
      have ih := ih (i + 1) (n + (nth t.globals i).code.length) (IntKind.i64.wrap (v + (nth t.globals i).code.length)) (by omega) (by rw [hv, wrap_add])
      rw [hcast] at ih
      clear hv
      simp (disch := first|decide|omega|(simp only [LN];first|done|omega)) only [SV, SW, Nat.reduceBEq, Nat.reduceAdd, eGlob_eq, lose]
      exact ih

theorem ev_great (K : Cx) (t : Table) (hl : (t.globals.length : Int) ≤ 9223372036854775807) (hs : (t.shapes.length : Int) ≤ 9223372036854775807) (hb : ∀ g ∈ t.globals, (g.code.length : Int) ≤ 9223372036854775807) :
    runFun K f34 [.agg [.d false (.sl 2 (t.shapes.map eShape)), .d false (.sl 3 (t.globals.map eGlob))]] [] = some (.d false (.bool (greatS t)), [], []) := by
  have hlp := great_loop K t hl hb t.globals.length 0 0 0 (by omega) (by decide)
  simp only [Int.natCast_zero, List.drop_zero] at hlp
  unfold greatS
  cases h : greatL t.globals 0 with
  | none =>
    rw [h] at hlp
    simp only at hlp
    simp (disch := first|decide|omega|(simp only [LN];first|done|omega)) only [SV, SW, f34, Nat.reduceAdd, Nat.reduceBEq, hlp, oneOr]
  | some n =>
    have hle := greatL_le _ _ _ h
    rw [h] at hlp
    simp only at hlp
    simp only
    by_cases hg : 2000 < (t.globals.length : Int)
    · clear hle
      simp (disch := first|decide|omega|(simp only [LN];first|done|omega)) only [SV, SW, f34, Nat.reduceAdd, Nat.reduceBEq, hlp, oneOr]
    · rw [wrap64 (by omega) (by omega)] at hlp
      clear hg
      simp (disch := first|decide|omega|(simp only [LN];first|done|omega)) only [SV, SW, f34, Nat.reduceAdd, Nat.reduceBEq, hlp, oneOr]

end Go.Vm
end

section
namespace Go.Vm
/- 'sloth/slothref17.big' -/
/- 'sloth/slothref17.shapes' -/
/- 'sloth/slothref17.heads' -/
/- 'sloth/slothref17.Name' -/
end Go.Vm
end

section
namespace Go.Vm

def K40 (K : Cx) : Prop := ∀ op : Int, K.call 79 [.d false (.int .i64 op)] = some (vForm (formS op) (decide (1 ≤ op ∧ op < 18)), [])
def K41 (K : Cx) : Prop := ∀ (sh : List Shape) (gl : List Glob) (nm : List UInt8) (ar : Int) (cd : List Instr) (at_ n kind : Int), 0 ≤ kind ∧ kind ≤ 8 →
  K.call 80 [.agg [.d false (.sl 2 (sh.map eShape)), .d false (.sl 3 (gl.map eGlob))], .agg [.d false (.str nm), .d false (.int .i64 ar), .d false (.sl 3 (cd.map eInstr))], .d false (.int .i64 at_), .d false (.int .i64 n), .d false (.int .i64 kind)]
    = some (.d false (.int .i64 (numberS gl.length sh.length cd.length at_ n kind)), [])
def K42 (K : Cx) : Prop := ∀ (sh : List Shape) (gl : List Glob) (op a b d : Int), 1 ≤ d ∧ d ≤ 8000 → (0 ≤ a ∧ a ≤ 9223372036854775807 ∨ (op ≠ 1 ∧ op ≠ 4 ∧ op ≠ 5 ∧ op ≠ 7 ∧ op ≠ 8)) → (op = 9 ∨ op = 10 → 0 ≤ a ∧ a < sh.length ∧ 0 ≤ (nth sh a).fields ∧ (nth sh a).fields ≤ 8) →
  K.call 81 [.agg [.d false (.sl 2 (sh.map eShape)), .d false (.sl 3 (gl.map eGlob))], .agg [.d false (.int .i64 op), .d false (.int .i64 a), .d false (.int .i64 b)], .d false (.int .i64 d)]
    = some (.tup [.d false (.int .i64 (stackedS sh ⟨op, a, b⟩ d).1), .d false (.bool (stackedS sh ⟨op, a, b⟩ d).2)], [])
def K43 (K : Cx) : Prop := ∀ (c : Bool) (Dp : List Int) (at_ d : Int) (n : Nat), 0 ≤ at_ ∧ at_ < Dp.length → n = Dp.length →
  K.eff 82 [.bsl 0 0 n, .d false (.int .i64 at_), .d false (.int .i64 d)] [.dat c 1 (Dp.map eInt)] = some (.d false (.bool (reachB' Dp at_ d)), [.dat c 1 ((reachS Dp at_ d).map eInt)], [])

def numsOut (sh : List Shape) (gl : List Glob) (nm : List UInt8) (ar : Int) (cd : List Instr) (r : Int) : Ex × S := if r = 0 then (.exit 0, ⟨[(2, .ptr 0 0 0), (3, .ptr 1 0 0)], [(0, .mix 2 [[.d false (.sl 2 (sh.map eShape)), .d false (.sl 3 (gl.map eGlob))]]), (1, .mix 3 [[.d false (.str nm), .d false (.int .i64 ar), .d false (.sl 3 (cd.map eInstr))]])], 2, []⟩)
      else (.ret, ⟨[(4, .d false (.int .i64 r))], [], 0, []⟩)
theorem numsOut_0 (sh gl nm ar cd) : numsOut sh gl nm ar cd 0 = (.exit 0, ⟨[(2, .ptr 0 0 0), (3, .ptr 1 0 0)], [(0, .mix 2 [[.d false (.sl 2 (sh.map eShape)), .d false (.sl 3 (gl.map eGlob))]]), (1, .mix 3 [[.d false (.str nm), .d false (.int .i64 ar), .d false (.sl 3 (cd.map eInstr))]])], 2, []⟩) := rfl
theorem numsOut_172 (sh gl nm ar cd) : numsOut sh gl nm ar cd 172 = (.ret, ⟨[(4, .d false (.int .i64 172))], [], 0, []⟩) := rfl
theorem numsOut_174 (sh gl nm ar cd) : numsOut sh gl nm ar cd 174 = (.ret, ⟨[(4, .d false (.int .i64 174))], [], 0, []⟩) := rfl

theorem nums_loop (K : Cx) (h40 : K40 K) (h41 : K41 K) (sh : List Shape) (gl : List Glob) (nm : List UInt8) (ar : Int) (cd : List Instr) (hl : cd.length ≤ 8000) : ∀ (k i : Nat), i + k = cd.length →
    lp K 0 [2, 3, 20, 21, 22] f37_L0 ⟨[(2, .ptr 0 0 0), (3, .ptr 1 0 0), (20, .d false (.sl 3 (cd.map eInstr))), (21, .d false (.int .i64 cd.length)), (22, .d false (.int .i64 i))],
      [(0, .mix 2 [[.d false (.sl 2 (sh.map eShape)), .d false (.sl 3 (gl.map eGlob))]]), (1, .mix 3 [[.d false (.str nm), .d false (.int .i64 ar), .d false (.sl 3 (cd.map eInstr))]])], 2, []⟩ =
    some (numsOut sh gl nm ar cd (numsL gl.length sh.length cd.length cd k i)) := by
  intro k
  induction k with
  | zero =>
    intro i hi
    rw [lp_un f37_L0.eq_1]
    simp (disch := first|decide|omega|(simp only [LN];first|done|omega)) only [SV, SW, Nat.reduceBEq, reduceCtorEq, Nat.reduceAdd, numsL, numsOut_0]
  | succ k ih =>
    intro i hi
    have hcast : ((i + 1 : Nat) : Int) = (i : Int) + 1 := by omega
    have ih := ih (i + 1) (by omega)
    rw [hcast] at ih
    have hlt : i < cd.length := by omega
    rw [lp_un f37_L0.eq_1]
    simp only [numsL]
    generalize hx : nth cd (i : Int) = x
    have hc := h40 x.op
    have hk := formS_kind x.op
    unfold vForm at hc
    by_cases g : 1 ≤ x.op ∧ x.op < 18
    · have hd : decide (1 ≤ x.op ∧ x.op < 18) = true := by simpa using g
      rw [hd] at hc
      have ha := h41 sh gl nm ar cd i x.a (formS x.op).2.1 hk.1
      have hb := h41 sh gl nm ar cd i x.b (formS x.op).2.2 hk.2
      have hs : numsS gl.length sh.length cd.length i x = (if numberS gl.length sh.length cd.length i x.a (formS x.op).2.1 = 172 ∨ numberS gl.length sh.length cd.length i x.b (formS x.op).2.2 = 172 then 172 else if numberS gl.length sh.length cd.length i x.a (formS x.op).2.1 ≠ 0 ∨ numberS gl.length sh.length cd.length i x.b (formS x.op).2.2 ≠ 0 then 174 else 0) := by
        simp only [numsS, if_pos g]
      rw [hs]
      have va := numberS_val gl.length sh.length cd.length i x.a (formS x.op).2.1
      have vb := numberS_val gl.length sh.length cd.length i x.b (formS x.op).2.2
      generalize numberS gl.length sh.length cd.length i x.a (formS x.op).2.1 = a at ha va
      generalize numberS gl.length sh.length cd.length i x.b (formS x.op).2.2 = b at hb vb
      clear hs hk
      rcases va with rfl | rfl | rfl <;> rcases vb with rfl | rfl | rfl
      · simp (disch := first|decide|omega|(simp only [LN];first|done|omega)) only [SV, SW, Nat.reduceBEq, Nat.reduceAdd, hx, eInstr_eq, lose, viewD, hc, ha, hb, reduceCtorEq, Int.reduceEq, ne_eq, not_true_eq_false]
        exact ih
      all_goals simp (disch := first|decide|omega|(simp only [LN];first|done|omega)) only [SV, SW, Nat.reduceBEq, Nat.reduceAdd, hx, eInstr_eq, lose, viewD, hc, ha, hb, Int.reduceEq, ne_eq, not_true_eq_false, numsOut_172, numsOut_174]
    · have hd : decide (1 ≤ x.op ∧ x.op < 18) = false := by simpa using g
      rw [hd] at hc
      have hs : numsS gl.length sh.length cd.length i x = 172 := by simp only [numsS, if_neg g]
      rw [hs]
      simp (disch := first|decide|omega|(simp only [LN];first|done|omega)) only [SV, SW, Nat.reduceBEq, Nat.reduceAdd, hx, eInstr_eq, lose, viewD, hc, Int.reduceEq, numsOut_172]

end Go.Vm
end

section
namespace Go.Vm

def depOut (r : Int) : Ex × S := if r = 0 then (.exit 2, ⟨[], [], 0, []⟩) else (.ret, ⟨[(4, .d false (.int .i64 r))], [], 0, []⟩)
theorem depOut_0 : depOut 0 = (.exit 2, ⟨[], [], 0, []⟩) := rfl
theorem depOut_173 : depOut 173 = (.ret, ⟨[(4, .d false (.int .i64 173))], [], 0, []⟩) := rfl
theorem depOut_174 : depOut 174 = (.ret, ⟨[(4, .d false (.int .i64 174))], [], 0, []⟩) := rfl

set_option maxHeartbeats 4000000 in
theorem dep_loop (K : Cx) (h42 : K42 K) (h43 : K43 K) (sh : List Shape) (gl : List Glob) (nm : List UInt8) (ar : Int) (cd : List Instr) (hl : cd.length ≤ 8000) (hs : ShOk sh) (hn : ∀ i : Nat, i < cd.length → NumOk sh.length cd.length i (nth cd i)) (hw : ∀ x ∈ cd, x.a ≤ 9223372036854775807) :
   ∀ (k i : Nat) (c : Bool) (Dp : List Int), i + k = cd.length → Dp.length = cd.length → DpOk Dp →
    lp K 0 [2, 3, 11, 78, 79, 80] f37_L1 ⟨[(2, .ptr 0 0 0), (3, .ptr 1 0 0), (11, .bsl 2 0 cd.length), (78, .d false (.sl 3 (cd.map eInstr))), (79, .d false (.int .i64 cd.length)), (80, .d false (.int .i64 i))],
      [(0, .mix 2 [[.d false (.sl 2 (sh.map eShape)), .d false (.sl 3 (gl.map eGlob))]]), (1, .mix 3 [[.d false (.str nm), .d false (.int .i64 ar), .d false (.sl 3 (cd.map eInstr))]]), (2, .dat c 1 (Dp.map eInt))], 3, []⟩ =
    some (depOut (depL sh cd k i Dp)) := by
  intro k
  induction k with
  | zero =>
    intro i c Dp hi hD hok
    rw [lp_un f37_L1.eq_1]
    simp (disch := first|decide|omega|(simp only [LN];first|done|omega)) only [SV, SW, Nat.reduceBEq, depL, depOut_0]
  | succ k ih =>
    intro i c Dp hi hD hok
    have hcast : ((i + 1 : Nat) : Int) = (i : Int) + 1 := by omega
    have hlt : i < cd.length := by omega
    have hx0 := hn i hlt
    have hw0 := hw (nth cd i) (nth_mem (by omega) (by omega))
    have hdr := hok (nth Dp i) (nth_mem (by omega) (by omega))
    rw [lp_un f37_L1.eq_1]
    simp only [depL]
    generalize hx : nth cd (i : Int) = x at hx0 hw0
    generalize hd : nth Dp (i : Int) = d at hdr
    by_cases g0 : d = 0
    · subst g0
      rw [if_pos rfl]
      (try clear hj); (try clear ht); (try clear hok1); (try clear hok2); (try clear hn); (try clear hs); (try clear hok); (try clear hx0); (try clear hst); (try clear hxe); (try clear gt); (try clear n13); (try clear n16); (try clear n17); (try clear g0); (try clear hop); (try clear hw0); (try clear gg)
      simp (disch := first|decide|omega|(simp only [LN];first|done|omega)) only [SV, SW, Nat.reduceBEq, Nat.reduceAdd, hx, eInstr_eq, lose, hd, eInt_eq, depOut_174]
    rw [if_neg g0]
    have b0 : (d == 0) = false := by simpa using g0
    have hrg0 := fun h => stacked_range (d := d) hs hx0 (by omega) h
    have hc := h42 sh gl x.op x.a x.b d (by omega) (by have h1 := hx0.cnt; have h2 := hx0.upd; omega) (fun ho => ⟨(hx0.con ho).1, (hx0.con ho).2, hs _ (nth_mem (hx0.con ho).1 (hx0.con ho).2)⟩)
    have hxe : (⟨x.op, x.a, x.b⟩ : Instr) = x := rfl
    rw [hxe] at hc
    generalize hst : stackedS sh x d = r at hc hrg0
    obtain ⟨bh, okb⟩ := r
    simp only at hc hrg0 ⊢
    cases okb with
    | false =>
      rw [if_pos rfl]
      (try clear hj); (try clear ht); (try clear hok1); (try clear hok2); (try clear hn); (try clear hs); (try clear hok); (try clear hx0); (try clear hst); (try clear hxe); (try clear gt); (try clear n13); (try clear n16); (try clear n17); (try clear g0); (try clear hop); (try clear hw0); (try clear gg)
      simp (disch := first|decide|omega|(simp only [LN];first|done|omega)) only [SV, SW, Nat.reduceBEq, Nat.reduceAdd, hx, eInstr_eq, lose, hd, eInt_eq, b0, viewD, hc, depOut_173]
    | true =>
      rw [if_neg (by simp)]
      have hrg := hrg0 rfl
      clear hrg0
      have hj := hx0.jmp
      have ht := hx0.tst
      have ih := fun c Dp => ih (i + 1) c Dp (by omega)
      rw [hcast] at ih
      by_cases gg : goesOn x = true
      · rw [if_pos gg]
        have ⟨n13, n16, n17⟩ : x.op ≠ 13 ∧ x.op ≠ 16 ∧ x.op ≠ 17 := by
          simp [goesOn] at gg; omega
        have b13 : (x.op != 13) = true := by simpa using n13
        have b16 : (x.op != 16) = true := by simpa using n16
        have b17 : (x.op != 17) = true := by simpa using n17
        have c13 : (x.op == 13) = false := by simpa using n13
        by_cases gl1 : (i : Int) + 1 = cd.length
        · rw [if_pos gl1]
          have bl1 : ((i : Int) + 1 == (cd.length : Int)) = true := by simpa using gl1
          (try clear hj); (try clear ht); (try clear hok1); (try clear hok2); (try clear hn); (try clear hs); (try clear hok); (try clear hx0); (try clear hst); (try clear hxe); (try clear gt); (try clear n13); (try clear n16); (try clear n17); (try clear g0); (try clear hop); (try clear hw0); (try clear gg)
          simp (disch := first|decide|omega|(simp only [LN];first|done|omega)) only [SV, SW, Nat.reduceBEq, Nat.reduceAdd, hx, eInstr_eq, lose, hd, eInt_eq, b0, viewD, hc, b13, b16, b17, bl1, depOut_174]
        · rw [if_neg gl1]
          have bl1 : ((i : Int) + 1 == (cd.length : Int)) = false := by simpa using gl1
          have gl2 : (i : Int) + 1 < cd.length := by omega
          clear gl1
          have he := h43 false Dp (i + 1) bh cd.length (by omega) hD.symm
          have hlen1 := reachS_len Dp (i + 1) bh
          have hok1 : DpOk (reachS Dp (i + 1) bh) := reachS_ok hok (by omega)
          generalize hrb : reachB' Dp (i + 1) bh = rb at he
          generalize reachS Dp (i + 1) bh = D1 at he hlen1 hok1
          cases rb with
          | false =>
            rw [if_pos rfl]
            (try clear hj); (try clear ht); (try clear hok1); (try clear hok2); (try clear hn); (try clear hs); (try clear hok); (try clear hx0); (try clear hst); (try clear hxe); (try clear gt); (try clear n13); (try clear n16); (try clear n17); (try clear g0); (try clear hop); (try clear hw0); (try clear gg)
            simp (disch := first|decide|omega|(simp only [LN];first|done|omega)) only [SV, SW, Nat.reduceBEq, Nat.reduceAdd, hx, eInstr_eq, lose, hd, eInt_eq, b0, viewD, hc, b13, b16, b17, bl1, wonV_some, he, loseM, Nat.reduceSub, depOut_173]
          | true =>
            rw [if_neg (by simp)]
            by_cases gt : x.op = 14 ∨ x.op = 15
            · have ht := ht gt
              have hti : targI x = x.b := by simp only [targI]; rw [if_neg n13, if_pos gt]
              rw [hti, if_pos (by omega)]
              have he2 := h43 false D1 x.b bh cd.length (by omega) (by omega)
              have hlen2 := reachS_len D1 x.b bh
              have hok2 : DpOk (reachS D1 x.b bh) := reachS_ok hok1 (by omega)
              generalize hrb2 : reachB' D1 x.b bh = rb2 at he2
              generalize reachS D1 x.b bh = D2 at he2 hlen2 hok2
              have hpos : 0 < x.b := by omega
              have ih := ih false D2 (by omega) hok2
              (try clear hj); (try clear ht); (try clear hok1); (try clear hok2); (try clear hn); (try clear hs); (try clear hok); (try clear hx0); (try clear hst); (try clear hxe); (try clear n13); (try clear n16); (try clear n17); (try clear g0); (try clear hop); (try clear hw0); (try clear gg)
              by_cases g14 : x.op = 14
              · have c14 : (x.op == 14) = true := by simpa using g14
                clear g14 gt
                cases rb2 with
                | false =>
                  rw [if_pos rfl]
                  simp (disch := first|decide|omega|(simp only [LN];first|done|omega)) only [SV, SW, Nat.reduceBEq, Nat.reduceAdd, hx, eInstr_eq, lose, hd, eInt_eq, b0, viewD, hc, b13, b16, b17, bl1, wonV_some, he, loseM, Nat.reduceSub, c13, c14, he2, depOut_173]
                | true =>
                  rw [if_neg (by simp)]
                  simp (disch := first|decide|omega|(simp only [LN];first|done|omega)) only [SV, SW, Nat.reduceBEq, Nat.reduceAdd, hx, eInstr_eq, lose, hd, eInt_eq, b0, viewD, hc, b13, b16, b17, bl1, wonV_some, he, loseM, Nat.reduceSub, c13, c14, he2, reduceCtorEq, Nat.reduceEqDiff]
                  exact ih
              · have c14 : (x.op == 14) = false := by simpa using g14
                have c15 : (x.op == 15) = true := by simpa using gt.resolve_left g14
                clear g14 gt
                cases rb2 with
                | false =>
                  rw [if_pos rfl]
                  simp (disch := first|decide|omega|(simp only [LN];first|done|omega)) only [SV, SW, Nat.reduceBEq, Nat.reduceAdd, hx, eInstr_eq, lose, hd, eInt_eq, b0, viewD, hc, b13, b16, b17, bl1, wonV_some, he, loseM, Nat.reduceSub, c13, c14, c15, he2, depOut_173]
                | true =>
                  rw [if_neg (by simp)]
                  simp (disch := first|decide|omega|(simp only [LN];first|done|omega)) only [SV, SW, Nat.reduceBEq, Nat.reduceAdd, hx, eInstr_eq, lose, hd, eInt_eq, b0, viewD, hc, b13, b16, b17, bl1, wonV_some, he, loseM, Nat.reduceSub, c13, c14, c15, he2, reduceCtorEq, Nat.reduceEqDiff]
                  exact ih
            · have hti : targI x = 0 := by simp only [targI]; rw [if_neg n13, if_neg gt]
              rw [hti, if_neg (by omega)]
              have ih := ih false D1 (by omega) hok1
              have c14 : (x.op == 14) = false := by simp; omega
              have c15 : (x.op == 15) = false := by simp; omega
              clear gt
              (try clear hj); (try clear ht); (try clear hok1); (try clear hok2); (try clear hn); (try clear hs); (try clear hok); (try clear hx0); (try clear hst); (try clear hxe); (try clear n13); (try clear n16); (try clear n17); (try clear g0); (try clear hop); (try clear hw0); (try clear gg)
              simp (disch := first|decide|omega|(simp only [LN];first|done|omega)) only [SX, SW, Nat.reduceBEq, Nat.reduceAdd, hx, eInstr_eq, lose, hd, eInt_eq, b0, viewD, hc, b13, b16, b17, bl1, wonV_t, he, loseM, Nat.reduceSub, c13, c14, c15, reduceCtorEq, Nat.reduceEqDiff]
              exact ih
      · rw [if_neg gg]
        have hop : x.op = 13 ∨ x.op = 16 ∨ x.op = 17 := by
          simp [goesOn] at gg; omega
        by_cases g13 : x.op = 13
        · have hj := hj g13
          have hti : targI x = x.a := by simp only [targI]; rw [if_pos g13]
          rw [hti, if_pos (by omega)]
          have he2 := h43 false Dp x.a bh cd.length (by omega) (by omega)
          have hlen2 := reachS_len Dp x.a bh
          have hok2 : DpOk (reachS Dp x.a bh) := reachS_ok hok (by omega)
          generalize hrb2 : reachB' Dp x.a bh = rb2 at he2
          generalize reachS Dp x.a bh = D2 at he2 hlen2 hok2
          rw [g13] at hc
          cases rb2 with
          | false =>
            rw [if_pos rfl]
            (try clear hj); (try clear ht); (try clear hok1); (try clear hok2); (try clear hn); (try clear hs); (try clear hok); (try clear hx0); (try clear hst); (try clear hxe); (try clear gt); (try clear n13); (try clear n16); (try clear n17); (try clear g0); (try clear hop); (try clear hw0); (try clear gg)
            simp (disch := first|decide|omega|(simp only [LN];first|done|omega)) only [SX, SW, Nat.reduceBEq, Nat.reduceAdd, hx, eInstr_eq, g13, lose, hd, eInt_eq, b0, viewD, hc, wonV_t, he2, loseM, Nat.reduceSub, depOut_173]
          | true =>
            rw [if_neg (by simp)]
            have ih := ih false D2 (by omega) hok2
            (try clear hj); (try clear ht); (try clear hok1); (try clear hok2); (try clear hn); (try clear hs); (try clear hok); (try clear hx0); (try clear hst); (try clear hxe); (try clear gt); (try clear n13); (try clear n16); (try clear n17); (try clear g0); (try clear hop); (try clear hw0); (try clear gg)
            simp (disch := first|decide|omega|(simp only [LN];first|done|omega)) only [SX, SW, Nat.reduceBEq, Nat.reduceAdd, hx, eInstr_eq, g13, lose, hd, eInt_eq, b0, viewD, hc, wonV_t, he2, loseM, Nat.reduceSub, reduceCtorEq, Nat.reduceEqDiff]
            exact ih
        · have hti : targI x = 0 := by simp only [targI]; rw [if_neg g13, if_neg (by omega)]
          rw [hti, if_neg (by omega)]
          have ih := ih c Dp hD hok
          by_cases g16 : x.op = 16
          · rw [g16] at hc
            (try clear hj); (try clear ht); (try clear hok1); (try clear hok2); (try clear hn); (try clear hs); (try clear hok); (try clear hx0); (try clear hst); (try clear hxe); (try clear gt); (try clear n13); (try clear n16); (try clear n17); (try clear g0); (try clear hop); (try clear hw0); (try clear gg)
            simp (disch := first|decide|omega|(simp only [LN];first|done|omega)) only [SX, SW, Nat.reduceBEq, Nat.reduceAdd, hx, eInstr_eq, g16, lose, hd, eInt_eq, b0, viewD, hc, wonV_t, reduceCtorEq, Nat.reduceEqDiff]
            exact ih
          · have g17 : x.op = 17 := by omega
            rw [g17] at hc
            (try clear hj); (try clear ht); (try clear hok1); (try clear hok2); (try clear hn); (try clear hs); (try clear hok); (try clear hx0); (try clear hst); (try clear hxe); (try clear gt); (try clear n13); (try clear n16); (try clear n17); (try clear g0); (try clear hop); (try clear hw0); (try clear gg)
            simp (disch := first|decide|omega|(simp only [LN];first|done|omega)) only [SX, SW, Nat.reduceBEq, Nat.reduceAdd, hx, eInstr_eq, g17, lose, hd, eInt_eq, b0, viewD, hc, wonV_t, reduceCtorEq, Nat.reduceEqDiff]
            exact ih

theorem numsL_ok {ng ns nc : Int} {cd : List Instr} : ∀ (k i : Nat), numsL ng ns nc cd k i = 0 → ∀ j : Nat, i ≤ j → j < i + k → numsS ng ns nc j (nth cd j) = 0 := by
  intro k
  induction k with
  | zero => intro i _ j h1 h2; omega
  | succ k ih =>
    intro i h j h1 h2
    simp only [numsL] at h
    split at h
    · rename_i h0
      by_cases hj : j = i
      · subst hj; exact h0
      · exact ih (i + 1) h j (by omega) (by omega)
    · rename_i h0
      exact absurd h h0

theorem depL_val (sh : List Shape) (cd : List Instr) : ∀ (k i : Nat) (Dp : List Int), depL sh cd k i Dp = 0 ∨ depL sh cd k i Dp = 173 ∨ depL sh cd k i Dp = 174 := by
  intro k
  induction k with
  | zero => intro i Dp; exact .inl rfl
  | succ k ih =>
    intro i Dp
    simp only [depL]
    repeat' split
    all_goals first | exact ih _ _ | simp

theorem numsL_val (ng ns nc : Int) (cd : List Instr) : ∀ (k i : Nat), numsL ng ns nc cd k i = 0 ∨ numsL ng ns nc cd k i = 172 ∨ numsL ng ns nc cd k i = 174 := by
  intro k
  induction k with
  | zero => intro i; exact .inl rfl
  | succ k ih =>
    intro i
    simp only [numsL]
    split
    · exact ih _
    · unfold numsS
      split
      · simp only
        split
        · simp
        · split <;> simp
      · simp

set_option maxHeartbeats 4000000 in
theorem ev_checkCode (K : Cx) (h40 : K40 K) (h41 : K41 K) (h42 : K42 K) (h43 : K43 K) (sh : List Shape) (gl : List Glob) (g : Glob) (hs : ShOk sh) (hl : g.code.length ≤ 8000) (ha : 0 ≤ g.arity ∧ g.arity ≤ 24) (hw : ∀ x ∈ g.code, x.a ≤ 9223372036854775807) :
    runFun K f37 [.agg [.d false (.sl 2 (sh.map eShape)), .d false (.sl 3 (gl.map eGlob))], .agg [.d false (.str g.name), .d false (.int .i64 g.arity), .d false (.sl 3 (g.code.map eInstr))]] [] = some (.d false (.int .i64 (checkCodeS gl.length sh g)), [], []) := by
  obtain ⟨nm, ar, cd⟩ := g
  simp only at hl ha hw ⊢
  have l0 := nums_loop K h40 h41 sh gl nm ar cd hl cd.length 0 (by omega)
  simp only [Int.natCast_zero] at l0
  unfold checkCodeS
  simp only
  have nv := numsL_val gl.length sh.length cd.length cd cd.length 0
  cases hz : decide (numsL gl.length sh.length cd.length cd cd.length 0 = 0) with
  | false =>
    have hz : ¬ numsL gl.length sh.length cd.length cd cd.length 0 = 0 := by simpa using hz
    rw [if_neg hz]
    generalize numsL gl.length sh.length cd.length cd cd.length 0 = r at l0 hz nv
    rcases nv with rfl | rfl | rfl
    · exact absurd rfl hz
    · rw [numsOut_172] at l0
      simp (disch := first|decide|omega|(simp only [LN];first|done|omega)) only [SV, SW, f37, Nat.reduceAdd, Nat.reduceBEq, reduceCtorEq, l0, oneOr]
    · rw [numsOut_174] at l0
      simp (disch := first|decide|omega|(simp only [LN];first|done|omega)) only [SV, SW, f37, Nat.reduceAdd, Nat.reduceBEq, reduceCtorEq, l0, oneOr]
  | true =>
    have hz : numsL gl.length sh.length cd.length cd cd.length 0 = 0 := by simpa using hz
    rw [if_pos hz]
    rw [hz, numsOut_0] at l0
    by_cases hc : cd.length = 0
    · rw [if_pos hc]
      have hc0 : ((cd.length : Int) == 0) = true := by simpa using hc
      clear hz nv hw hc
      simp (disch := first|decide|omega|(simp only [LN];first|done|omega)) only [SV, SW, f37, Nat.reduceAdd, Nat.reduceBEq, reduceCtorEq, l0, hc0, oneOr]
    · rw [if_neg hc]
      have hok := fun (i : Nat) (hi : i < cd.length) => numsS_ok (numsL_ok cd.length 0 hz i (by omega) (by omega))
      have l1 := dep_loop K h42 h43 sh gl nm ar cd hl hs hok hw cd.length 0 true ((List.replicate cd.length 0).set 0 (ar + 1)) (by omega) (by simp) (by
        intro v hv
        rcases List.mem_or_eq_of_mem_set hv with h | h
        · have := List.eq_of_mem_replicate h; omega
        · omega)
      simp only [Int.natCast_zero] at l1
      have dv := depL_val sh cd cd.length 0 ((List.replicate cd.length 0).set 0 (ar + 1))
      generalize hr : depL sh cd cd.length 0 ((List.replicate cd.length 0).set 0 (ar + 1)) = r at l1 dv
      have hc0 : ((cd.length : Int) == 0) = false := by simpa using hc
      have hpos : 0 < cd.length := by omega
      clear hok hw nv hz hr hc
      rcases dv with rfl | rfl | rfl
      · rw [depOut_0] at l1
        simp (disch := first|decide|omega|(simp only [LN];first|done|omega)) only [SV, SW, f37, Nat.reduceAdd, Nat.reduceBEq, reduceCtorEq, l0, hc0, mkMks, fIntR, Int.toNat_zero, eInt_eq, fIntS, lose, Nat.reduceEqDiff, l1, oneOr]
      · rw [depOut_173] at l1
        simp (disch := first|decide|omega|(simp only [LN];first|done|omega)) only [SV, SW, f37, Nat.reduceAdd, Nat.reduceBEq, reduceCtorEq, l0, hc0, mkMks, fIntR, Int.toNat_zero, eInt_eq, fIntS, lose, Nat.reduceEqDiff, l1, oneOr]
      · rw [depOut_174] at l1
        simp (disch := first|decide|omega|(simp only [LN];first|done|omega)) only [SV, SW, f37, Nat.reduceAdd, Nat.reduceBEq, reduceCtorEq, l0, hc0, mkMks, fIntR, Int.toNat_zero, eInt_eq, fIntS, lose, Nat.reduceEqDiff, l1, oneOr]

end Go.Vm
end

section
namespace Go.Vm
/- 'sloth/slothref17.numbers' -/
/- 'sloth/slothref17.Depths' -/
theorem numsS_R (ng ns nc i : Int) (x : Instr) : numsS ng ns nc i x = if numbersR ng ns x = false then 172 else if (jumpsR x && (decide (targetR x ≤ i) || decide (nc ≤ targetR x))) = true then 174 else 0 := by
  unfold numsS
  by_cases g : 1 ≤ x.op ∧ x.op < 18
  · rw [if_pos g]
    obtain ⟨op, a, b⟩ := x
    have key : ∀ (p : Bool), (if p = true then (0 : Int) else 172) = 172 ↔ p = false := by intro p; cases p <;> simp
    rcases ops17 g with h | h | h | h | h | h | h | h | h | h | h | h | h | h | h | h | h <;>
      (simp only at h; subst h; simp [formS, formT, nth, numberS, numbersR, jumpsR, targetR]; try grind)
  · rw [if_neg g]
    have hn := opn g
    simp [numbersR, hn]

def K46 (K : Cx) : Prop := ∀ (sh : List Shape) (gl : List Glob) (x : Instr), K.call 28 [tabA' sh gl, insA x] = some (.d false (.bool (numbersR gl.length sh.length x)), [])
def K48 (K : Cx) : Prop := ∀ x : Instr, K.call 32 [insA x] = some (.d false (.int .i64 (targetR x)), [])
def K49 (K : Cx) : Prop := ∀ (sh : List Shape) (gl : List Glob) (x : Instr) (d : Int), (1 ≤ d ∧ d ≤ 8000) → (x.op = 9 → 0 ≤ x.a ∧ x.a < sh.length) → K.call 29 [tabA' sh gl, insA x, .d false (.int .i64 d)] = some (.d false (.bool (needsR sh x d)), [])
def K50 (K : Cx) : Prop := ∀ (sh : List Shape) (gl : List Glob) (x : Instr) (d : Int), (1 ≤ d ∧ d ≤ 8000) → (x.op = 4 ∨ x.op = 5 ∨ x.op = 8 → 0 ≤ x.a ∧ x.a ≤ 9223372036854775807) → (x.op = 9 ∨ x.op = 10 → 0 ≤ x.a ∧ x.a < sh.length ∧ 0 ≤ fieldsS sh x.a ∧ fieldsS sh x.a ≤ 8) →
  K.call 31 [tabA' sh gl, insA x, .d false (.int .i64 d)] = some (.d false (.int .i64 (behindR sh x d)), [])
def K51 (K : Cx) : Prop := ∀ x : Instr, K.call 30 [insA x] = some (.d false (.bool (endsR x)), [])

end Go.Vm
end

section
namespace Go.Vm
theorem nth_set {α : Type} [Inhabited α] (l : List α) (n j : Nat) (x : α) : nth (l.set n x) (j : Int) = if n = j ∧ j < l.length then x else nth l (j : Int) := by
  unfold nth
  simp only [Int.toNat_natCast, List.getD_eq_getElem?_getD, List.getElem?_set]
  by_cases h : n = j
  · subst h
    by_cases h2 : n < l.length
    · simp [h2]
    · rw [if_pos rfl, if_neg h2, if_neg (by omega), List.getElem?_eq_none (by omega)]
  · simp [h]
theorem reachS_keep {Dp : List Int} {at_ v : Int} (h0 : 0 ≤ at_) {j : Nat} (h : nth Dp (j : Int) ≠ 0) : nth (reachS Dp at_ v) (j : Int) = nth Dp (j : Int) := by
  unfold reachS
  split
  · rename_i hz
    rw [nth_set, if_neg]
    rintro ⟨e, _⟩
    rw [← e, show ((at_.toNat : Nat) : Int) = at_ by omega] at h
    exact h hz
  · rfl
theorem reachS_at {Dp : List Int} {at_ v : Int} (h0 : 0 ≤ at_) (h1 : at_ < Dp.length) (h : reachB' Dp at_ v = true) : nth (reachS Dp at_ v) at_ = v := by
  unfold reachS
  unfold reachB' at h
  split
  · have := nth_set Dp at_.toNat at_.toNat v
    rw [show ((at_.toNat : Nat) : Int) = at_ by omega] at this
    rw [this, if_pos ⟨rfl, by omega⟩]
  · rename_i hz
    rw [if_neg hz] at h
    simpa using h

theorem depL_flow {sh : List Shape} {cd : List Instr} (hs : ShOk sh) (hn : ∀ i : Nat, i < cd.length → NumOk sh.length cd.length i (nth cd i)) : ∀ (k i : Nat) (Dp : List Int), i + k = cd.length → Dp.length = cd.length → DpOk Dp → depL sh cd k i Dp = 0 →
    ∃ Df : List Int, Df.length = cd.length ∧ (∀ j : Nat, nth Dp (j : Int) ≠ 0 → nth Df (j : Int) = nth Dp (j : Int)) ∧ ∀ q : Nat, i ≤ q → q < cd.length →
      1 ≤ nth Df (q : Int) ∧ nth Df (q : Int) ≤ 8000 ∧ (stackedS sh (nth cd q) (nth Df (q : Int))).2 = true ∧ (goesOn (nth cd q) = true → q + 1 < cd.length ∧ nth Df ((q + 1 : Nat) : Int) = (stackedS sh (nth cd q) (nth Df (q : Int))).1) ∧
      (0 < targI (nth cd q) → nth Df (targI (nth cd q)) = (stackedS sh (nth cd q) (nth Df (q : Int))).1) := by
  intro k
  induction k with
  | zero =>
    intro i Dp hi hD hok _
    exact ⟨Dp, hD, fun _ _ => rfl, fun q h1 h2 => by omega⟩
  | succ k ih =>
    intro i Dp hi hD hok h
    have hlt : i < cd.length := by omega
    have hx := hn i hlt
    have hdr := hok (nth Dp i) (nth_mem (by omega) (by omega))
    simp only [depL] at h
    generalize hxe : nth cd (i : Int) = x at h hx
    by_cases g0 : nth Dp (i : Int) = 0
    · rw [if_pos g0] at h; cases h
    rw [if_neg g0] at h
    have hst2 := fun hh => stacked_range (d := nth Dp (i : Int)) hs hx (by omega) hh
    generalize hst : stackedS sh x (nth Dp (i : Int)) = r at h hst2
    obtain ⟨v, ok⟩ := r
    simp only at h hst2
    cases ok with
    | false => rw [if_pos rfl] at h; cases h
    | true =>
    rw [if_neg (by simp)] at h
    have hv := hst2 rfl
    have htr : 0 < targI x → (i : Int) < targI x ∧ targI x < cd.length := by
      intro ht
      unfold targI at ht ⊢
      split
      · rename_i c; exact hx.jmp c
      · rename_i c
        rw [if_neg c] at ht
        split
        · rename_i c2; exact hx.tst c2
        · rename_i c2; rw [if_neg c2] at ht; omega
    -- what follows from the rest
    have fin : ∀ D1 : List Int, D1.length = cd.length → DpOk D1 → (∀ j : Nat, nth Dp (j : Int) ≠ 0 → nth D1 (j : Int) = nth Dp (j : Int)) → (goesOn x = true → i + 1 < cd.length ∧ nth D1 ((i + 1 : Nat) : Int) = v) → (0 < targI x → nth D1 (targI x) = v) →
        depL sh cd k (i + 1) D1 = 0 → ∃ Df : List Int, Df.length = cd.length ∧ (∀ j : Nat, nth Dp (j : Int) ≠ 0 → nth Df (j : Int) = nth Dp (j : Int)) ∧ ∀ q : Nat, i ≤ q → q < cd.length →
          1 ≤ nth Df (q : Int) ∧ nth Df (q : Int) ≤ 8000 ∧ (stackedS sh (nth cd q) (nth Df (q : Int))).2 = true ∧ (goesOn (nth cd q) = true → q + 1 < cd.length ∧ nth Df ((q + 1 : Nat) : Int) = (stackedS sh (nth cd q) (nth Df (q : Int))).1) ∧
          (0 < targI (nth cd q) → nth Df (targI (nth cd q)) = (stackedS sh (nth cd q) (nth Df (q : Int))).1) := by
      intro D1 hD1 hok1 keep on to hrest
      obtain ⟨Df, q1, q2, q3⟩ := ih (i + 1) D1 (by omega) hD1 hok1 hrest
      refine ⟨Df, q1, fun j hj => by rw [q2 j (by rw [keep j hj]; exact hj), keep j hj], fun q h1 h2 => ?_⟩
      by_cases hq : q = i
      · subst hq
        have hdi : nth Df (q : Int) = nth Dp (q : Int) := by rw [q2 q (by rw [keep q g0]; exact g0), keep q g0]
        rw [hdi, hxe, hst]
        refine ⟨by omega, by omega, rfl, fun hg => ?_, fun ht => ?_⟩
        · obtain ⟨o1, o2⟩ := on hg
          exact ⟨o1, by rw [q2 (q + 1) (by rw [o2]; omega), o2]⟩
        · have e := to ht
          have e2 : ((targI x).toNat : Int) = targI x := by omega
          have := q2 (targI x).toNat (by rw [e2, e]; omega)
          rw [e2, e] at this
          exact this
      · exact q3 q (by omega) h2
    have hc : ((i + 1 : Nat) : Int) = (i : Int) + 1 := by omega
    by_cases gg : goesOn x = true
    · rw [if_pos gg] at h
      by_cases gl : (i : Int) + 1 = cd.length
      · rw [if_pos gl] at h; cases h
      rw [if_neg gl] at h
      cases hb1 : reachB' Dp ((i : Int) + 1) v with
      | false => rw [hb1, if_pos rfl] at h; cases h
      | true =>
      rw [hb1, if_neg (by simp)] at h
      have a1 := reachS_at (by omega) (by rw [hD]; omega) hb1
      have l1 := reachS_len Dp ((i : Int) + 1) v
      have k1 := fun j hj => reachS_keep (Dp := Dp) (at_ := (i : Int) + 1) (v := v) (by omega) (j := j) hj
      have o1 : DpOk (reachS Dp ((i : Int) + 1) v) := reachS_ok hok (by omega)
      by_cases gt : 0 < targI x
      · have htr := htr gt
        rw [if_pos gt] at h
        cases hb2 : reachB' (reachS Dp ((i : Int) + 1) v) (targI x) v with
        | false => rw [hb2, if_pos rfl] at h; cases h
        | true =>
        rw [hb2, if_neg (by simp)] at h
        refine fin _ (by rw [reachS_len, l1, hD]) (reachS_ok o1 (by omega)) (fun j hj => ?_) (fun _ => ⟨by omega, ?_⟩) (fun _ => reachS_at (by omega) (by rw [l1, hD]; omega) hb2) h
        · rw [reachS_keep (by omega) (by rw [k1 j hj]; exact hj), k1 j hj]
        · rw [reachS_keep (by omega) (by rw [hc, a1]; omega), hc, a1]
      · rw [if_neg gt] at h
        exact fin _ (by rw [l1, hD]) o1 k1 (fun _ => ⟨by omega, by rw [hc, a1]⟩) (fun hh => absurd hh gt) h
    · rw [if_neg gg] at h
      by_cases gt : 0 < targI x
      · have htr := htr gt
        rw [if_pos gt] at h
        cases hb2 : reachB' Dp (targI x) v with
        | false => rw [hb2, if_pos rfl] at h; cases h
        | true =>
        rw [hb2, if_neg (by simp)] at h
        exact fin _ (by rw [reachS_len, hD]) (reachS_ok hok (by omega)) (fun j hj => reachS_keep (by omega) hj) (fun hh => absurd hh gg) (fun _ => reachS_at (by omega) (by rw [hD]; omega) hb2) h
      · rw [if_neg gt] at h
        exact fin Dp hD hok (fun _ _ => rfl) (fun hh => absurd hh gg) (fun hh => absurd hh gt) h

structure Flow (ng : Nat) (sh : List Shape) (ar : Int) (cd : List Instr) (δ : Nat → Int) : Prop where
  z : δ 0 = ar + 1
  d : ∀ q, q < cd.length → 1 ≤ δ q ∧ δ q ≤ 8000
  nums : ∀ q, q < cd.length → numbersR ng sh.length (nth cd q) = true ∧ NumOk sh.length cd.length q (nth cd q)
  need : ∀ q, q < cd.length → needsR sh (nth cd q) (δ q) = true
  on : ∀ q, q < cd.length → goesOn (nth cd q) = true → q + 1 < cd.length ∧ δ (q + 1) = behindR sh (nth cd q) (δ q)
  to : ∀ q, q < cd.length → 0 ≤ targetR (nth cd q) → (q : Int) < targetR (nth cd q) ∧ targetR (nth cd q) < cd.length ∧ δ (targetR (nth cd q)).toNat = behindR sh (nth cd q) (δ q)
theorem flow_of {ng : Nat} {sh : List Shape} {g : Glob} (hs : ShOk sh) (har : 0 ≤ g.arity ∧ g.arity ≤ 24) (hl : g.code.length ≤ 8000) (h : checkCodeS ng sh g = 0) : 0 < g.code.length ∧ ∃ δ, Flow ng sh g.arity g.code δ := by
  unfold checkCodeS at h
  by_cases c1 : numsL ng sh.length g.code.length g.code g.code.length 0 = 0
  · rw [if_pos c1] at h
    by_cases c2 : g.code.length = 0
    · rw [if_pos c2] at h; cases h
    · rw [if_neg c2] at h
      have hnum := fun q (hq : q < g.code.length) => numsL_ok g.code.length 0 c1 q (by omega) (by omega)
      have hok := fun q (hq : q < g.code.length) => numsS_ok (hnum q hq)
      have hpos : 0 < g.code.length := by omega
      have hD0 : nth ((List.replicate g.code.length (0 : Int)).set 0 (g.arity + 1)) ((0 : Nat) : Int) = g.arity + 1 := by
        rw [nth_set, if_pos ⟨rfl, by simpa using hpos⟩]
      obtain ⟨Df, q1, q2, q3⟩ := depL_flow hs hok g.code.length 0 _ (by omega) (by simp) (by
        intro v hv
        rcases List.mem_or_eq_of_mem_set hv with h1 | h1
        · rw [List.mem_replicate] at h1; omega
        · omega) h
      refine ⟨hpos, fun q => nth Df (q : Int), ⟨?_, fun q hq => ⟨(q3 q (by omega) hq).1, (q3 q (by omega) hq).2.1⟩, fun q hq => ⟨?_, hok q hq⟩, fun q hq => ?_, fun q hq hg => ?_, fun q hq ht => ?_⟩⟩
      · show nth Df ((0 : Nat) : Int) = _
        rw [q2 0 (by rw [hD0]; omega), hD0]
      · have := hnum q hq
        rw [numsS_R] at this
        cases hb : numbersR ng sh.length (nth g.code q) with
        | true => rfl
        | false => rw [hb, if_pos rfl] at this; cases this
      · obtain ⟨p1, p2, p3, _⟩ := q3 q (by omega) hq
        rw [stacked_split (hok q hq).op p1] at p3
        simp only [Bool.and_eq_true] at p3
        exact p3.1
      · obtain ⟨p1, p2, p3, p4, _⟩ := q3 q (by omega) hq
        obtain ⟨o1, o2⟩ := p4 hg
        rw [stacked_split (hok q hq).op p1] at o2
        exact ⟨o1, o2⟩
      · obtain ⟨p1, p2, p3, _, p5⟩ := q3 q (by omega) hq
        have hx := hok q hq
        have e : targI (nth g.code q) = targetR (nth g.code q) ∧ (q : Int) < targetR (nth g.code q) ∧ targetR (nth g.code q) < g.code.length := by
          unfold targetR at ht ⊢
          unfold targI
          by_cases c13 : (nth g.code q).op = 13
          · rw [if_pos c13, if_pos c13]; exact ⟨rfl, hx.jmp c13⟩
          · rw [if_neg c13] at ht
            by_cases c14 : (nth g.code q).op = 14 ∨ (nth g.code q).op = 15
            · rw [if_neg c13, if_pos c14, if_neg c13, if_pos c14]; exact ⟨rfl, hx.tst c14⟩
            · rw [if_neg c14] at ht; omega
        obtain ⟨e1, e2, e3⟩ := e
        have := p5 (by rw [e1]; omega)
        rw [e1, stacked_split (hok q hq).op p1] at this
        refine ⟨e2, e3, ?_⟩
        rw [show ((targetR (nth g.code q)).toNat : Int) = targetR (nth g.code q) by omega]
        exact this
  · rw [if_neg c1] at h; exact absurd h c1
end Go.Vm
end

section
namespace Go.Vm
/- 'sloth/slothlaw17.CodeEnds' -/
def f10_L0 : C :=
 (.seq
  (.seq
   (.reg [⟨[], [(64, (.bin .leq (.sl 16) (.sl 10)))], [], none, [2, 3, 9, 10, 12, 13, 14, 15, 16], 3, [], [], []⟩])
   (.cond (.sl 64)
    .skip
    (.seq
     (.tidy 0 [2, 3, 9, 10, 12, 13])
     (.exit 2))))
  (.seq
   (.block 3
    (.seq
     (.seq
      (.reg [⟨[], [(78, (.or (.or (.bin .lss (.sl 14) (.int .i64 0)) (.bin .geq (.sl 14) (.sl 10))) (.bin .eql (.sl 16) (.sl 10))))], [], none, [2, 3, 9, 10, 12, 13, 14, 15, 16], 12, [], [], []⟩])
      (.cond (.sl 78)
       (.seq
        (.reg [⟨[], [(6, (.bool false))], [], none, [], 1, [], [], []⟩])
        (.seq
         (.tidy 0 [6])
         .ret))
       .skip))
     (.seq
      (.reg [⟨[(17, .box (.agg (.cons (.int .i64 0) (.cons (.int .i64 0) (.cons (.int .i64 0) .nil)))))], [], [], some (none, .store 3 (.sl 17) (.ld 3 true (.ia 3 (.ld 1 false (.fa 2 (.sl 9))) (.sl 14)))), [2, 3, 9, 10, 12, 13, 14, 15, 16, 17], 7, [], [], []⟩])
      (.seq
       (.reg [⟨[], [(18, (.call 28 (.cons (.ld 2 true (.sl 3)) (.cons (.ld 3 true (.sl 17)) .nil))))], [], none, [2, 3, 9, 10, 12, 13, 14, 15, 16, 17], 4, [], [], []⟩])
       (.seq
        (.seq
         (.reg [⟨[], [(88, (.un .not (.sl 18)))], [], none, [2, 3, 9, 10, 12, 13, 14, 15, 16, 17], 2, [], [], []⟩])
         (.cond (.sl 88)
          (.seq
           (.reg [⟨[], [(6, (.bool false))], [], none, [], 1, [], [], []⟩])
           (.seq
            (.tidy 0 [6])
            .ret))
          .skip))
        (.seq
         (.reg [⟨[], [(19, (.call 29 (.cons (.ld 2 true (.sl 3)) (.cons (.ld 3 true (.sl 17)) (.cons (.sl 15) .nil)))))], [], none, [2, 3, 9, 10, 12, 13, 14, 15, 16, 17], 5, [], [], []⟩])
         (.seq
          (.seq
           (.reg [⟨[], [(117, (.or (.or (.or (.bin .lss (.sl 15) (.int .i64 1)) (.bin .gtr (.sl 15) (.int .i64 8000))) (.un .not (.sl 19))) (.and (.bin .neq (.ld 1 false (.ia 1 (.sl 12) (.sl 14))) (.int .i64 0)) (.bin .neq (.ld 1 false (.ia 1 (.sl 12) (.sl 14))) (.sl 15)))))], [], none, [2, 3, 9, 10, 12, 13, 14, 15, 16, 17], 25, [], [], []⟩])
           (.cond (.sl 117)
            (.seq
             (.reg [⟨[], [(6, (.bool false))], [], none, [], 1, [], [], []⟩])
             (.seq
              (.tidy 0 [6])
              .ret))
            .skip))
          (.seq
           (.reg [⟨[], [], [], some (none, .store 1 (.ia 1 (.sl 12) (.sl 14)) (.sl 15)), [2, 3, 9, 10, 12, 13, 14, 15, 16, 17], 5, [], [], []⟩])
           (.seq
            (.reg [⟨[], [(20, (.call 30 (.cons (.ld 3 true (.sl 17)) .nil)))], [], none, [2, 3, 9, 10, 12, 13, 14, 15, 16, 17], 3, [], [], []⟩])
            (.seq
             (.seq
              (.reg [⟨[], [(124, (.sl 20))], [], none, [2, 3, 9, 10, 12, 13, 14, 15, 16, 17], 1, [], [], []⟩])
              (.cond (.sl 124)
               (.seq
                (.tidy 0 [2, 3, 9, 10, 12, 13])
                (.exit 2))
               .skip))
             (.seq
              (.reg [⟨[], [(15, (.call 31 (.cons (.ld 2 true (.sl 3)) (.cons (.ld 3 true (.sl 17)) (.cons (.sl 15) .nil)))))], [], none, [2, 3, 9, 10, 12, 13, 14, 16, 17], 5, [], [], []⟩])
              (.seq
               (.reg [⟨[], [(21, (.call 32 (.cons (.ld 3 true (.sl 17)) .nil)))], [], none, [2, 3, 9, 10, 12, 13, 14, 15, 16, 17], 3, [], [], []⟩])
               (.seq
                (.reg [⟨[], [(11, (.and (.bin .gtr (.len false (.sl 2)) (.int .i64 0)) (.eqs true false [1] (.ld 1 false (.ia 1 (.sl 2) (.bin .rem (.bin .add (.sl 13) (.sl 16)) (.len false (.sl 2))))) (.bin .eql (.sl 13) (.int .i64 2)))))], [], none, [2, 3, 9, 10, 12, 13, 14, 15, 16, 17, 21], 18, [], [], []⟩])
                (.seq
                 (.reg [⟨[], [(157, (.or (.bin .eql (.ld 1 false (.fa 0 (.sl 17))) (.int .i64 13)) (.and (.bin .geq (.sl 21) (.int .i64 0)) (.sl 11))))], [], none, [2, 3, 9, 10, 12, 13, 14, 15, 16, 21], 10, [], [], []⟩])
                 (.cond (.sl 157)
                  (.reg [⟨[], [(14, (.sl 21))], [], none, [2, 3, 9, 10, 12, 13, 15, 16], 2, [], [], []⟩])
                  (.reg [⟨[], [(14, (.bin .add (.sl 14) (.int .i64 1)))], [], none, [2, 3, 9, 10, 12, 13, 15, 16], 3, [], [], []⟩]))))))))))))))))
   (.reg [⟨[], [(16, (.bin .add (.sl 16) (.int .i64 1)))], [], none, [2, 3, 9, 10, 12, 13, 14, 15], 3, [], [], []⟩])))
def f10_L1 : C :=
 (.seq
  (.seq
   (.reg [⟨[], [(56, (.bin .lss (.sl 13) (.int .i64 3)))], [], none, [2, 3, 9, 10, 12, 13], 2, [], [], []⟩])
   (.cond (.sl 56)
    .skip
    (.seq
     (.tidy 0 [])
     (.exit 0))))
  (.seq
   (.block 1
    (.seq
     (.reg [⟨[], [(14, (.int .i64 0))], [], none, [2, 3, 9, 10, 12, 13], 1, [], [], []⟩])
     (.seq
      (.reg [⟨[], [(15, (.bin .add (.ld 1 false (.fa 1 (.sl 9))) (.int .i64 1)))], [], none, [2, 3, 9, 10, 12, 13, 14], 4, [], [], []⟩])
      (.seq
       (.reg [⟨[], [(16, (.int .i64 0))], [], none, [2, 3, 9, 10, 12, 13, 14, 15], 1, [], [], []⟩])
       (.block 2
        (.seq (.tidy 0 [2, 3, 9, 10, 12, 13, 14, 15, 16]) (.loop (.seq (.tidy 0 [2, 3, 9, 10, 12, 13, 14, 15, 16]) f10_L0))))))))
   (.reg [⟨[], [(13, (.bin .add (.sl 13) (.int .i64 1)))], [], none, [2, 3, 9, 10, 12], 3, [], [], []⟩])))
def f10 : Fun := ⟨
 (.seq
  (.reg [⟨[(3, .box (.sl 0))], [], [(.bool false)], none, [1, 2, 3], 2, [], [], []⟩])
  (.seq
   (.reg [⟨[], [(7, (.call 11 .nil))], [], none, [1, 2, 3], 2, [], [], []⟩])
   (.seq
    (.reg [⟨[], [(8, (.call 13 (.cons (.ld 2 true (.sl 3)) .nil)))], [], none, [1, 2, 3, 7], 3, [], [], []⟩])
    (.seq
     (.seq
      (.reg [⟨[], [(36, (.or (.or (.un .not (.sl 7)) (.bin .neq (.sl 8) (.int .i64 0))) (.bin .eql (.len false (.ld 1 false (.fa 1 (.sl 3)))) (.int .i64 0))))], [], none, [1, 2, 3, 7], 12, [], [], []⟩])
      (.cond (.sl 36)
       (.seq
        (.reg [⟨[], [(6, (.sl 7))], [], none, [], 2, [], [], []⟩])
        (.seq
         (.tidy 0 [6])
         .ret))
       .skip))
     (.seq
      (.reg [⟨[(9, .box (.agg (.cons (.str []) (.cons (.int .i64 0) (.cons (.nilsl 3) .nil)))))], [], [], some (none, .store 3 (.sl 9) (.ld 3 true (.ia 3 (.ld 1 false (.fa 1 (.sl 3))) (.bin .rem (.cond (.and (.bin .eql (.bin .and (.sl 1) (.int .i64 0)) (.bin .and (.sl 1) (.int .i64 0))) (.bin .gtr (.sl 1) (.int .i64 0))) (.sl 1) (.int .i64 0)) (.len false (.ld 1 false (.fa 1 (.sl 3)))))))), [2, 3, 9], 12, [[], [0], [], [2], [], [4], [4, 5], [5, 4, 6, 2, 3], [3, 2, 6, 4, 5, 7, 0, 1], [1, 0, 7, 5, 4, 6, 2, 3, 8], [], [8, 3, 2, 6, 4, 5, 7, 0, 1, 9, 10]], [], []⟩])
      (.seq
       (.reg [⟨[], [(10, (.len false (.ld 1 false (.fa 2 (.sl 9)))))], [], none, [2, 3, 9], 4, [], [], []⟩])
       (.seq
        (.reg [⟨[], [], [(.bool false)], none, [2, 3, 9, 10], 1, [], [], []⟩])
        (.seq
         (.seq
          (.reg [⟨[], [(52, (.bin .eql (.sl 10) (.int .i64 0)))], [], none, [2, 3, 9, 10], 2, [], [], []⟩])
          (.cond (.sl 52)
           (.seq
            (.reg [⟨[], [(6, (.bool false))], [], none, [], 1, [], [], []⟩])
            (.seq
             (.tidy 0 [6])
             .ret))
           .skip))
         (.seq
          (.reg [⟨[(54, .mks 1 (.cons (.int .i64 0) .nil) (.sl 10) (.sl 10))], [(12, (.sl 54))], [], none, [2, 3, 9, 10], 3, [], [], []⟩])
          (.seq
           (.seq
            (.reg [⟨[], [(13, (.int .i64 0))], [], none, [2, 3, 9, 10, 12], 1, [], [], []⟩])
            (.block 0
             (.seq (.tidy 0 [2, 3, 9, 10, 12, 13]) (.loop (.seq (.tidy 0 [2, 3, 9, 10, 12, 13]) f10_L1)))))
           (.seq
            (.reg [⟨[], [(6, (.bool true))], [], none, [], 1, [], [], []⟩])
            (.seq
             (.tidy 0 [6])
             .ret)))))))))))),
 [(.sl 6)], false⟩
theorem f10_ok : funOk Go.Proofs.Tryz.prog 10 0 3 f10 = true := by kernel_rfl

def otherW (ways : List Bool) (t k : Int) : Bool := decide (0 < (ways.length : Int)) && (nth ways ((t + k) % ways.length) != (t == 2))
def DpL (δ : Nat → Int) (Dl : List Int) : Prop := ∀ j : Nat, j < Dl.length → nth Dl (j : Int) = 0 ∨ nth Dl (j : Int) = δ j
def wayAt (ways : List Bool) (sh : List Shape) (gl : List Glob) (nm : List UInt8) (ar : Int) (cd : List Instr) (c : Bool) (Dl : List Int) (t i d k : Int) : S :=
  ⟨[(2, .d false (.sl 1 (ways.map eBool))), (3, .ptr 0 0 0), (9, .ptr 1 0 0), (10, .d false (.int .i64 cd.length)), (12, .bsl 2 0 cd.length), (13, .d false (.int .i64 t)), (14, .d false (.int .i64 i)), (15, .d false (.int .i64 d)), (16, .d false (.int .i64 k))],
    [(0, .mix 2 [[.d false (.sl 2 (sh.map eShape)), .d false (.sl 3 (gl.map eGlob))]]), (1, .mix 3 [[.d false (.str nm), .d false (.int .i64 ar), .d false (.sl 3 (cd.map eInstr))]]), (2, .dat c 1 (Dl.map eInt))], 3, []⟩
def wayEnd (ways : List Bool) (sh : List Shape) (gl : List Glob) (nm : List UInt8) (ar : Int) (cd : List Instr) (c : Bool) (Dl : List Int) (t : Int) : S :=
  ⟨[(2, .d false (.sl 1 (ways.map eBool))), (3, .ptr 0 0 0), (9, .ptr 1 0 0), (10, .d false (.int .i64 cd.length)), (12, .bsl 2 0 cd.length), (13, .d false (.int .i64 t))],
    [(0, .mix 2 [[.d false (.sl 2 (sh.map eShape)), .d false (.sl 3 (gl.map eGlob))]]), (1, .mix 3 [[.d false (.str nm), .d false (.int .i64 ar), .d false (.sl 3 (cd.map eInstr))]]), (2, .dat c 1 (Dl.map eInt))], 3, []⟩

set_option maxHeartbeats 4000000 in
theorem way_loop (K : Cx) (h46 : K46 K) (h48 : K48 K) (h49 : K49 K) (h50 : K50 K) (h51 : K51 K) (ways : List Bool) (hw : (ways.length : Int) ≤ 9223372036854775807) (sh : List Shape) (gl : List Glob) (nm : List UInt8) (ar : Int) (cd : List Instr) (hl : cd.length ≤ 8000) (hs : ShOk sh) (ha : ∀ x ∈ cd, x.a ≤ 9223372036854775807)
    {δ : Nat → Int} (hF : Flow gl.length sh ar cd δ) (t : Int) (ht : 0 ≤ t ∧ t ≤ 2) (c : Bool) : ∀ (m i k : Nat) (Dl : List Int), i + m = cd.length → 0 < m → k ≤ i → Dl.length = cd.length → DpL δ Dl →
    ∃ Dl', Dl'.length = cd.length ∧ DpL δ Dl' ∧ lp K 0 [2, 3, 9, 10, 12, 13, 14, 15, 16] f10_L0 (wayAt ways sh gl nm ar cd c Dl t i (δ i) k) = some (.exit 2, wayEnd ways sh gl nm ar cd c Dl' t) := by
  intro m
  induction m using Nat.strongRecOn with
  | _ m ih =>
    intro i k Dl hi hm hk hDl hok
    have hlt : i < cd.length := by omega
    have hd := hF.d i hlt
    obtain ⟨hnum, hx⟩ := hF.nums i hlt
    have hneed := hF.need i hlt
    have hon := hF.on i hlt
    have hto := hF.to i hlt
    have hax := ha (nth cd i) (nth_mem (by omega) (by omega))
    have hdl := hok i (by omega)
    have hset : DpL δ (Dl.set i (δ i)) := by
      intro j hj
      rw [nth_set]
      split
      · rename_i e; rw [e.1]; exact .inr rfl
      · exact hok j (by simpa using hj)
    generalize hxe : nth cd (i : Int) = x at *
    have c46 := h46 sh gl x
    have c48 := h48 x
    have c49 := h49 sh gl x (δ i) hd (fun h => hx.con (.inl h))
    have c50 := h50 sh gl x (δ i) hd (fun h => ⟨hx.cnt (by omega), hax⟩) (fun ho => ⟨(hx.con ho).1, (hx.con ho).2, hs _ (nth_mem (hx.con ho).1 (hx.con ho).2)⟩)
    have c51 := h51 x
    rw [hnum] at c46
    rw [hneed] at c49
    unfold tabA' at c46 c49 c50
    unfold insA at c46 c48 c49 c50 c51
    have hd3 : (nth Dl (i : Int) != 0 && nth Dl (i : Int) != δ i) = false := by
      rcases hdl with h | h <;> simp [h]
    have hcast : ((k + 1 : Nat) : Int) = (k : Int) + 1 := by omega
    have hcasti : ((i + 1 : Nat) : Int) = (i : Int) + 1 := by omega
    have kn : ((k : Int) == (cd.length : Int)) = false := by simp; omega
    have hends : endsR x = true ∨ endsR x = false := by cases endsR x <;> simp
    have next : ∀ j : Nat, i < j → j < cd.length → ∃ Dl', Dl'.length = cd.length ∧ DpL δ Dl' ∧ lp K 0 [2, 3, 9, 10, 12, 13, 14, 15, 16] f10_L0 (wayAt ways sh gl nm ar cd c (Dl.set i (δ i)) t j (δ j) (k + 1 : Nat)) = some (.exit 2, wayEnd ways sh gl nm ar cd c Dl' t) :=
      fun j h1 h2 => ih (cd.length - j) (by omega) j (k + 1) _ (by omega) (by omega) (by omega) (by simp [hDl]) hset
    rcases hends with he | he
    · rw [he] at c51
      refine ⟨Dl.set i (δ i), by simp [hDl], hset, ?_⟩
      rw [lp_un f10_L0.eq_1]
      unfold wayAt wayEnd
      clear ih next hon hto hok hset hdl hF hs ha hx hax
      simp (disch := first|decide|omega|(simp only [LN];first|done|omega)) only [SV, SW, Nat.reduceBEq, kn, Nat.reduceAdd, hxe, eInstr_eq, lose, viewD, c46, c49, eInt_eq, hd3, fIntS, c51, reduceCtorEq, Nat.reduceEqDiff]
    · rw [he] at c51
      have key : ∀ (w : Bool) (j : Nat), otherW ways t k = w → (if x.op = 13 ∨ (0 ≤ targetR x ∧ w = true) then targetR x else (i : Int) + 1) = (j : Int) → δ j = behindR sh x (δ i) → i < j → j < cd.length →
          ∃ Dl', Dl'.length = cd.length ∧ DpL δ Dl' ∧ lp K 0 [2, 3, 9, 10, 12, 13, 14, 15, 16] f10_L0 (wayAt ways sh gl nm ar cd c Dl t i (δ i) k) = some (.exit 2, wayEnd ways sh gl nm ar cd c Dl' t) := by
        intro w j hw1 hj hδ j1 j2
        obtain ⟨Dl', q1, q2, q3⟩ := next j j1 j2
        refine ⟨Dl', q1, q2, ?_⟩
        rw [hδ, hcast] at q3
        rw [lp_un f10_L0.eq_1]
        unfold wayAt wayEnd at q3 ⊢
        clear ih next hon hto hok hset hdl hF hs ha hax hδ
        have turn : (∃ b13, (x.op == 13) = b13 ∧ ∃ bt, decide (0 ≤ targetR x) = bt ∧ (if (b13 || (bt && w)) = true then targetR x else (i : Int) + 1) = (j : Int)) := by
          refine ⟨_, rfl, _, rfl, ?_⟩
          rw [← hj]
          simp only [Bool.or_eq_true, beq_iff_eq, Bool.and_eq_true, decide_eq_true_eq]
        obtain ⟨b13, hb13, bt, hbt, hjj⟩ := turn
        rw [← hjj] at q3
        clear hj hjj he
        by_cases hw0 : ways = []
        · subst hw0
          have e1 : w = false := by rw [← hw1]; simp [otherW]
          subst e1
          clear hw1
          cases b13 with
          | true =>
            simp only [Bool.true_or, if_true] at q3
            simp (disch := first|decide|omega|(simp only [LN];first|done|omega)) only [SV, SW, Nat.reduceBEq, kn, Nat.reduceAdd, hxe, eInstr_eq, lose, viewD, c46, c49, eInt_eq, hd3, fIntS, c51, c50, c48, hb13, reduceCtorEq, Nat.reduceEqDiff]
            exact q3
          | false =>
            simp only [Bool.and_false, Bool.or_self, Bool.false_eq_true, if_false] at q3
            cases bt with
            | true => simp (disch := first|decide|omega|(simp only [LN];first|done|omega)) only [SV, SW, Nat.reduceBEq, kn, Nat.reduceAdd, hxe, eInstr_eq, lose, viewD, c46, c49, eInt_eq, hd3, fIntS, c51, c50, c48, hb13, hbt, reduceCtorEq, Nat.reduceEqDiff]; exact q3
            | false => simp (disch := first|decide|omega|(simp only [LN];first|done|omega)) only [SV, SW, Nat.reduceBEq, kn, Nat.reduceAdd, hxe, eInstr_eq, lose, viewD, c46, c49, eInt_eq, hd3, fIntS, c51, c50, c48, hb13, hbt, reduceCtorEq, Nat.reduceEqDiff]; exact q3
        · have hpos : 0 < ways.length := List.length_pos_iff.2 hw0
          have hne : ((ways.length : Int) = 0) = False := by simp; omega
          have hmod : (t + (k : Int)).tmod (ways.length : Int) = (t + k) % ways.length := Int.tmod_eq_emod_of_nonneg (by omega)
          have r1 : 0 ≤ (t + (k : Int)) % ways.length := Int.emod_nonneg _ (by omega)
          have r2 : (t + (k : Int)) % ways.length < ways.length := Int.emod_lt_of_pos _ (by omega)
          have e1 : (nth ways ((t + (k : Int)) % ways.length) != (t == 2)) = w := by
            rw [← hw1]; unfold otherW
            rw [decide_eq_true (by omega : 0 < (ways.length : Int)), Bool.true_and]
          generalize (t + (k : Int)) % ways.length = r at *
          have e2 : (!(nth ways r == (t == 2))) = w := e1
          clear hw1 hw0
          cases b13 with
          | true =>
            simp only [Bool.true_or, if_true] at q3
            simp (disch := first|decide|omega|(simp only [LN];first|done|omega)) only [SV, SW, Nat.reduceBEq, kn, Nat.reduceAdd, hxe, eInstr_eq, lose, viewD, c46, c49, eInt_eq, hd3, fIntS, c51, c50, c48, hne, hmod, eBool_eq, evEqs, cellsEq, cellEq, hb13, reduceCtorEq, Nat.reduceEqDiff]
            exact q3
          | false =>
            simp only [Bool.false_or] at q3
            cases bt with
            | true =>
              simp only [Bool.true_and] at q3
              cases w with
              | true =>
                simp only [if_true] at q3
                simp (disch := first|decide|omega|(simp only [LN];first|done|omega)) only [SV, SW, Nat.reduceBEq, kn, Nat.reduceAdd, hxe, eInstr_eq, lose, viewD, c46, c49, eInt_eq, hd3, fIntS, c51, c50, c48, hne, hmod, eBool_eq, evEqs, cellsEq, cellEq, e2, hb13, hbt, reduceCtorEq, Nat.reduceEqDiff]
                exact q3
              | false =>
                simp only [Bool.false_eq_true, if_false] at q3
                simp (disch := first|decide|omega|(simp only [LN];first|done|omega)) only [SV, SW, Nat.reduceBEq, kn, Nat.reduceAdd, hxe, eInstr_eq, lose, viewD, c46, c49, eInt_eq, hd3, fIntS, c51, c50, c48, hne, hmod, eBool_eq, evEqs, cellsEq, cellEq, e2, hb13, hbt, reduceCtorEq, Nat.reduceEqDiff]
                exact q3
            | false =>
              simp only [Bool.false_and, Bool.false_eq_true, if_false] at q3
              simp (disch := first|decide|omega|(simp only [LN];first|done|omega)) only [SV, SW, Nat.reduceBEq, kn, Nat.reduceAdd, hxe, eInstr_eq, lose, viewD, c46, c49, eInt_eq, hd3, fIntS, c51, c50, c48, hne, hmod, eBool_eq, evEqs, cellsEq, cellEq, e2, hb13, hbt, reduceCtorEq, Nat.reduceEqDiff]
              exact q3
      by_cases c1 : x.op = 13 ∨ (0 ≤ targetR x ∧ otherW ways t k = true)
      · have ht0 : 0 ≤ targetR x := by
          rcases c1 with c | c
          · unfold targetR; rw [if_pos c]; have := hx.jmp c; omega
          · exact c.1
        obtain ⟨t1, t2, t3⟩ := hto ht0
        exact key _ (targetR x).toNat rfl (by rw [if_pos c1]; omega) t3 (by omega) (by omega)
      · have hg : goesOn x = true := by
          rw [Bool.eq_false_iff] at he
          unfold endsR at he
          unfold goesOn
          simp only [ne_eq, Bool.or_eq_true, beq_iff_eq] at he
          simp only [Bool.and_eq_true, bne_iff_ne, ne_eq]
          refine ⟨⟨fun h => c1 (.inl h), fun h => he (.inl h)⟩, fun h => he (.inr h)⟩
        obtain ⟨o1, o2⟩ := hon hg
        exact key _ (i + 1) rfl (by rw [if_neg c1]; omega) o2 (by omega) (by omega)
end Go.Vm
end

section
namespace Go.Vm

structure TabOk (t : Table) : Prop where
  sh : (t.shapes.length : Int) ≤ 9223372036854775807
  gl : (t.globals.length : Int) ≤ 9223372036854775807
  cd : ∀ g ∈ t.globals, (g.code.length : Int) ≤ 9223372036854775807
  sn : ∀ s ∈ t.shapes, (s.name.length : Int) ≤ 9223372036854775807
  gn : ∀ g ∈ t.globals, (g.name.length : Int) ≤ 9223372036854775807
  wd : ∀ g ∈ t.globals, ∀ x ∈ g.code, x.a ≤ 9223372036854775807

def K20 (K : Cx) : Prop := ∀ (t : Table), TabOk t → K.call 34 [.agg [.d false (.sl 2 (t.shapes.map eShape)), .d false (.sl 3 (t.globals.map eGlob))]] = some (.d false (.bool (greatS t)), [])
def K22 (K : Cx) : Prop := K.call 36 [] = some (.bsl 0 0 7, [.dat true 2 (givenS.map eShape)])
def K23 (K : Cx) : Prop := ∀ (sh : List Shape) (gl : List Glob) (nm : List UInt8) (ar : Int) (cd : List Instr), ShOk sh → cd.length ≤ 8000 → 0 ≤ ar ∧ ar ≤ 24 → (∀ x ∈ cd, x.a ≤ 9223372036854775807) →
  K.call 37 [.agg [.d false (.sl 2 (sh.map eShape)), .d false (.sl 3 (gl.map eGlob))], .agg [.d false (.str nm), .d false (.int .i64 ar), .d false (.sl 3 (cd.map eInstr))]] = some (.d false (.int .i64 (checkCodeS gl.length sh ⟨nm, ar, cd⟩)), [])

def codesOut (r : Int) : Ex × S := if r = 0 then (.exit 6, ⟨[], [], 0, []⟩) else (.ret, ⟨[(2, .d false (.int .i64 r))], [], 0, []⟩)

theorem codes_loop (K : Cx) (h23 : K23 K) (t : Table) (hl : t.globals.length ≤ 2000) (hs : ShOk t.shapes) (hg : ∀ g ∈ t.globals, g.code.length ≤ 8000 ∧ (0 ≤ g.arity ∧ g.arity ≤ 24) ∧ ∀ x ∈ g.code, x.a ≤ 9223372036854775807) : ∀ (k i : Nat), i + k = t.globals.length →
    lp K 0 [1, 104, 105, 106] f13_L3 ⟨[(1, .ptr 0 0 0), (104, .d false (.sl 3 (t.globals.map eGlob))), (105, .d false (.int .i64 t.globals.length)), (106, .d false (.int .i64 i))], [(0, .mix 2 [[.d false (.sl 2 (t.shapes.map eShape)), .d false (.sl 3 (t.globals.map eGlob))]])], 1, []⟩ =
    some (codesOut (codesS t.globals.length t.shapes (t.globals.drop i))) := by
  intro k
  induction k with
  | zero =>
    intro i hi
    rw [lp_un f13_L3.eq_1, List.drop_of_length_le (by omega)]
    simp only [codesS]
    rw [show codesOut 0 = (.exit 6, ⟨[], [], 0, []⟩) from rfl]
    simp (disch := first|decide|omega|(simp only [LN];first|done|omega)) only [SV, SW, Nat.reduceBEq]
  | succ k ih =>
    intro i hi
    have hcast : ((i + 1 : Nat) : Int) = (i : Int) + 1 := by omega
    have hlt : i < t.globals.length := by omega
    rw [lp_un f13_L3.eq_1, drop_nth hlt]
    obtain ⟨g1, g2, g3⟩ := hg _ (nth_mem (l := t.globals) (i := (i : Int)) (by omega) (by omega))
    have ih := ih (i + 1) (by omega)
    rw [hcast] at ih
    simp only [codesS]
    generalize hgg : nth t.globals (i : Int) = g at g1 g2 g3
    have hc := h23 t.shapes t.globals g.name g.arity g.code hs g1 g2 g3
    rw [show (⟨g.name, g.arity, g.code⟩ : Glob) = g from rfl] at hc
    generalize checkCodeS t.globals.length t.shapes g = r at hc
    clear g1 g2 g3 hg
    by_cases g0 : r = 0
    · subst g0
      rw [if_pos rfl]
      simp (disch := first|decide|omega|(simp only [LN];first|done|omega)) only [SV, SW, Nat.reduceBEq, Nat.reduceAdd, hgg, eGlob_eq, lose, viewD, hc]
      exact ih
    · rw [if_neg g0]
      have d0 : (r != 0) = true := by simpa using g0
      have ho : codesOut r = (.ret, ⟨[(2, .d false (.int .i64 r))], [], 0, []⟩) := by unfold codesOut; rw [if_neg g0]
      clear g0
      simp (disch := first|decide|omega|(simp only [LN];first|done|omega)) only [SV, SW, Nat.reduceBEq, Nat.reduceAdd, hgg, eGlob_eq, lose, viewD, hc, d0, ho]

theorem tagged_seen : ∀ l, tagged (seenE l) = false
  | [] => rfl
  | _ :: _ => rfl
theorem mcB_seen (H nx b l) : mcB H nx b (.map (seenE l)) = some (put H b (.map []), .junk, .none, nx) := mcB_map H nx b _ (tagged_seen l)
theorem ev_check (K : Cx) (h20 : K20 K) (h21 : K21 K) (h22 : K22 K) (h23 : K23 K) (t : Table) (ht : TabOk t) :
    runFun K f13 [.agg [.d false (.sl 2 (t.shapes.map eShape)), .d false (.sl 3 (t.globals.map eGlob))]] [] = some (.d false (.int .i64 (checkS t)), [], []) := by
  have hc := h20 t ht
  unfold checkS
  cases hgr : greatS t with
  | true =>
    rw [hgr] at hc
    rw [if_pos rfl]
    simp (disch := first|decide|omega|(simp only [LN];first|done|omega)) only [SV, SW, f13, Nat.reduceAdd, Nat.reduceBEq, viewD, hc, oneOr]
  | false =>
    rw [hgr] at hc
    rw [if_neg (by simp)]
    obtain ⟨q1, q2, q3⟩ := greatS_f hgr
    have l0 := shapes_loop K h21 t q1 ht.sn t.shapes.length 0 [] (by omega)
    simp only [Int.natCast_zero, List.drop_zero, seenE_nil, List.nil_append] at l0
    cases hn1 : namesOk 8 (t.shapes.map fun s => (s.name, s.fields)) [] with
    | false =>
      rw [if_pos rfl]
      rw [hn1, shapesOut_f] at l0
      clear hgr
      simp (disch := first|decide|omega|(simp only [LN];first|done|omega)) only [SV, SW, f13, Nat.reduceAdd, Nat.reduceBEq, viewD, hc, reduceCtorEq, l0, oneOr]
    | true =>
      rw [if_neg (by simp)]
      rw [hn1, shapesOut_t] at l0
      have l1 := head_loop K t q1 (t.shapes.map (·.name)) 7 0 rfl
      simp only [Int.natCast_zero] at l1
      unfold headsOk
      cases hh : headL t.shapes 7 0 with
      | false =>
        rw [if_pos rfl]
        rw [hh, headOut_f] at l1
        unfold K22 at h22
        simp (disch := first|decide|omega|(simp only [LN];first|done|omega)) only [SV, SW, f13, Nat.reduceAdd, Nat.reduceBEq, viewD, hc, reduceCtorEq, l0, h22, V.new2, V.newR, V.shift, Nat.reduceEqDiff, l1, oneOr]
      | true =>
        rw [if_neg (by simp)]
        rw [hh, headOut_t] at l1
        unfold K22 at h22
        have l2 := globs_loop K h21 t q2 ht.gn t.globals.length 0 [] (by omega)
        simp only [Int.natCast_zero, List.drop_zero, seenE_nil] at l2
        cases hn2 : namesOk 24 (t.globals.map fun g => (g.name, g.arity)) [] with
        | false =>
          rw [if_pos rfl]
          rw [hn2, globsOut_f] at l2
          simp (disch := first|decide|omega|(simp only [LN];first|done|omega)) only [SV, SW, f13, Nat.reduceAdd, Nat.reduceBEq, viewD, hc, reduceCtorEq, l0, h22, V.new2, V.newR, V.shift, Nat.reduceEqDiff, l1, mcB_seen, lose, l2, oneOr]
        | true =>
          rw [if_neg (by simp)]
          rw [hn2, globsOut_t] at l2
          have m1 := namesOk_mem _ _ _ hn1
          have m2 := namesOk_mem _ _ _ hn2
          have l3 := codes_loop K h23 t q2 (fun s hs => (m1 (s.name, s.fields) (List.mem_map.2 ⟨s, hs, rfl⟩)).2) (fun g hg => ⟨q3 g hg, (m2 (g.name, g.arity) (List.mem_map.2 ⟨g, hg, rfl⟩)).2, ht.wd g hg⟩) t.globals.length 0 (by omega)
          simp only [Int.natCast_zero, List.drop_zero] at l3
          generalize codesS t.globals.length t.shapes t.globals = r at l3
          by_cases g0 : r = 0
          · subst g0
            rw [show codesOut 0 = (.exit 6, ⟨[], [], 0, []⟩) from rfl] at l3
            clear m1 m2 q3
            simp (disch := first|decide|omega|(simp only [LN];first|done|omega)) only [SV, SW, f13, Nat.reduceAdd, Nat.reduceBEq, viewD, hc, reduceCtorEq, l0, h22, V.new2, V.newR, V.shift, Nat.reduceEqDiff, l1, mcB_seen, lose, l2, l3, oneOr]
          · rw [show codesOut r = (.ret, ⟨[(2, .d false (.int .i64 r))], [], 0, []⟩) by unfold codesOut; rw [if_neg g0]] at l3
            clear m1 m2 q3 g0
            simp (disch := first|decide|omega|(simp only [LN];first|done|omega)) only [SV, SW, f13, Nat.reduceAdd, Nat.reduceBEq, viewD, hc, reduceCtorEq, l0, h22, V.new2, V.newR, V.shift, Nat.reduceEqDiff, l1, mcB_seen, lose, l2, l3, oneOr]

end Go.Vm
end

section
namespace Go.Vm
/- 'sloth/slothref17.Check' -/
end Go.Vm
end

section
namespace Go.Vm

theorem DpL_zero {δ : Nat → Int} (n : Nat) : DpL δ (List.replicate n 0) := by
  intro j hj
  left
  simp only [List.length_replicate] at hj
  unfold nth
  simp [List.getD_eq_getElem?_getD, List.getElem?_replicate, hj]

set_option maxHeartbeats 4000000 in
theorem turns_loop (K : Cx) (h46 : K46 K) (h48 : K48 K) (h49 : K49 K) (h50 : K50 K) (h51 : K51 K) (ways : List Bool) (hw : (ways.length : Int) ≤ 9223372036854775807) (sh : List Shape) (gl : List Glob) (nm : List UInt8) (ar : Int) (har : 0 ≤ ar ∧ ar ≤ 24) (cd : List Instr) (hpos : 0 < cd.length) (hl : cd.length ≤ 8000) (hs : ShOk sh) (ha : ∀ x ∈ cd, x.a ≤ 9223372036854775807)
    {δ : Nat → Int} (hF : Flow gl.length sh ar cd δ) (c : Bool) : ∀ (n t : Nat) (Dl : List Int), t + n = 3 → Dl.length = cd.length → DpL δ Dl →
    lp K 0 [2, 3, 9, 10, 12, 13] f10_L1 (wayEnd ways sh gl nm ar cd c Dl t) = some (.exit 0, ⟨[], [], 0, []⟩) := by
  intro n
  induction n with
  | zero =>
    intro t Dl ht hDl hok
    rw [lp_un f10_L1.eq_1]
    unfold wayEnd
    obtain rfl : t = 3 := by omega
    clear hF hs ha
    simp (disch := first|decide|omega|(simp only [LN];first|done|omega)) only [SV, SW, Nat.reduceBEq]
  | succ n ih =>
    intro t Dl ht hDl hok
    obtain ⟨Dl', q1, q2, q3⟩ := way_loop K h46 h48 h49 h50 h51 ways hw sh gl nm ar cd hl hs ha hF t (by omega) c cd.length 0 0 Dl (by omega) hpos (by omega) hDl hok
    have q4 := ih (t + 1) Dl' (by omega) q1 q2
    rw [hF.z] at q3
    rw [lp_un f10_L1.eq_1]
    have ht3 : t < 3 := by omega
    have hct : ((t + 1 : Nat) : Int) = (t : Int) + 1 := by omega
    have hc0 : ((0 : Nat) : Int) = 0 := rfl
    rw [hct] at q4
    rw [hc0] at q3
    unfold wayAt wayEnd at q3
    unfold wayEnd at q4 ⊢
    clear ih hF hs ha hok hDl q1 q2
    simp (disch := first|decide|omega|(simp only [LN];first|done|omega)) only [SV, SW, Nat.reduceBEq, reduceCtorEq, Nat.reduceEqDiff, Nat.reduceAdd, q3, q4]

def K13 (K : Cx) : Prop := ∀ t : Table, TabOk t → K.call 13 [.agg [.d false (.sl 2 (t.shapes.map eShape)), .d false (.sl 3 (t.globals.map eGlob))]] = some (.d false (.int .i64 (checkS t)), [])

theorem codesS_mem {ng : Nat} {sh : List Shape} : ∀ (l : List Glob), codesS ng sh l = 0 → ∀ g ∈ l, checkCodeS ng sh g = 0 := by
  intro l
  induction l with
  | nil => intro _ g hg; simp at hg
  | cons a l ih =>
    intro h g hg
    simp only [codesS] at h
    split at h
    · rename_i c
      rcases List.mem_cons.1 hg with rfl | hg
      · exact c
      · exact ih h g hg
    · rename_i c; exact absurd h c
theorem check_ok {t : Table} (h : checkS t = 0) : ShOk t.shapes ∧ t.globals.length ≤ 2000 ∧ ∀ g ∈ t.globals, g.code.length ≤ 8000 ∧ (0 ≤ g.arity ∧ g.arity ≤ 24) ∧ checkCodeS t.globals.length t.shapes g = 0 := by
  unfold checkS at h
  split at h
  · cases h
  · split at h
    · cases h
    · split at h
      · cases h
      · split at h
        · cases h
        · rename_i h1 h2 h3 h4
          obtain ⟨q1, q2, q3⟩ := greatS_f (by simpa using h1)
          have m1 := namesOk_mem _ _ _ (by simpa using h2)
          have m2 := namesOk_mem _ _ _ (by simpa using h4)
          exact ⟨fun s hs => (m1 (s.name, s.fields) (List.mem_map.2 ⟨s, hs, rfl⟩)).2, q2, fun g hg => ⟨q3 g hg, (m2 (g.name, g.arity) (List.mem_map.2 ⟨g, hg, rfl⟩)).2, codesS_mem _ h g hg⟩⟩

set_option maxHeartbeats 4000000 in
theorem ev_ends (K : Cx) (h11 : K.call 11 [] = some (.d false (.bool true), [])) (h13 : K13 K) (h46 : K46 K) (h48 : K48 K) (h49 : K49 K) (h50 : K50 K) (h51 : K51 K) (t : Table) (ht : TabOk t) (q : Int) (hq : -9223372036854775808 ≤ q ∧ q ≤ 9223372036854775807) (ways : List Bool) (hw : (ways.length : Int) ≤ 9223372036854775807) :
    runFun K f10 [tabA' t.shapes t.globals, .d false (.int .i64 q), .d false (.sl 1 (ways.map eBool))] [] = some (.d false (.bool true), [], []) := by
  have c13 := h13 t ht
  unfold tabA'
  by_cases hz : checkS t = 0
  · obtain ⟨hs, hgl, hg⟩ := check_ok hz
    rw [hz] at c13
    by_cases hn : t.globals.length = 0
    · have hnil : t.globals = [] := List.length_eq_zero_iff.1 hn
      rw [hnil, List.map_nil] at c13 ⊢
      clear hs hgl hg ht hz
      simp (disch := first|decide|omega|(simp only [LN];first|done|omega)) only [SV, SW, f10, Nat.reduceAdd, Nat.reduceBEq, h11, viewD, c13, oneOr]
    · have hwd := ht.wd
      have d1 : ((t.globals.length : Int) == 0) = false := beq_eq_false_iff_ne.2 (by omega)
      have d2 : ((t.globals.length : Int) = 0) = False := by simpa using fun h => by rw [h] at hn; simp at hn
      have go : ∀ m : Int, 0 ≤ m → m ≤ 9223372036854775807 → (if 0 < q then q else 0) = m →
          runFun K f10 [.agg [.d false (.sl 2 (t.shapes.map eShape)), .d false (.sl 3 (t.globals.map eGlob))], .d false (.int .i64 q), .d false (.sl 1 (ways.map eBool))] [] = some (.d false (.bool true), [], []) := by
        intro m hm0 hm1 hm
        have r0 : 0 ≤ m.tmod t.globals.length := Int.tmod_nonneg _ hm0
        have r1 : m.tmod t.globals.length < t.globals.length := Int.tmod_lt_of_pos _ (by omega)
        have hmem := nth_mem r0 r1
        obtain ⟨g1, g2, g3⟩ := hg _ hmem
        have g4 := hwd _ hmem
        have hgn := ht.gn _ hmem
        generalize hr : m.tmod (t.globals.length : Int) = r at *
        generalize hge : nth t.globals r = g at *
        obtain ⟨p1, δ, hF⟩ := flow_of hs g2 g1 g3
        have L := fun c => turns_loop K h46 h48 h49 h50 h51 ways hw t.shapes t.globals g.name g.arity g2 g.code p1 g1 hs g4 hF c 3 0 (List.replicate g.code.length 0) (by omega) (by simp) (DpL_zero _)
        have z1 : ((g.code.length : Int) == 0) = false := beq_eq_false_iff_ne.2 (by omega)
        have hc0 : ((0 : Nat) : Int) = 0 := rfl
        simp only [hc0] at L
        unfold wayEnd at L
        clear hF hs hg ht hz hwd g3 g4 hmem h13 h46 h48 h49 h50 h51
        by_cases hp : 0 < q
        · rw [if_pos hp] at hm
          subst hm
          simp (disch := first|decide|omega|(simp only [LN];first|done|omega)) only [SV, SW, f10, Nat.reduceAdd, Nat.reduceBEq, h11, viewD, c13, d1, d2, hr, hge, eGlob_eq, lose, z1, mkMks, fIntR, reduceCtorEq, Nat.reduceEqDiff, L, oneOr]
        · rw [if_neg hp] at hm
          subst hm
          simp (disch := first|decide|omega|(simp only [LN];first|done|omega)) only [SV, SW, f10, Nat.reduceAdd, Nat.reduceBEq, h11, viewD, c13, d1, d2, hr, hge, eGlob_eq, lose, z1, mkMks, fIntR, reduceCtorEq, Nat.reduceEqDiff, L, oneOr]
      by_cases hp : 0 < q
      · exact go q (by omega) (by omega) (by rw [if_pos hp])
      · exact go 0 (by omega) (by omega) (by rw [if_neg hp])
  · have d0 : (checkS t != 0) = true := by simpa using hz
    clear ht
    simp (disch := first|decide|omega|(simp only [LN];first|done|omega)) only [SV, SW, f10, Nat.reduceAdd, Nat.reduceBEq, h11, viewD, c13, d0, oneOr]
end Go.Vm
end

section
namespace Go.Vm

theorem ev_number (K : Cx) (t : Table) (g : Glob) (at_ n kind : Int) (hk : 0 ≤ kind ∧ kind ≤ 8) :
    runFun K f80 [.agg [.d false (.sl 2 (t.shapes.map eShape)), .d false (.sl 3 (t.globals.map eGlob))], .agg [.d false (.str g.name), .d false (.int .i64 g.arity), .d false (.sl 3 (g.code.map eInstr))], .d false (.int .i64 at_), .d false (.int .i64 n), .d false (.int .i64 kind)] []
    = some (.d false (.int .i64 (numberS t.globals.length t.shapes.length g.code.length at_ n kind)), [], []) := by
  have : kind = 0 ∨ kind = 1 ∨ kind = 2 ∨ kind = 3 ∨ kind = 4 ∨ kind = 5 ∨ kind = 6 ∨ kind = 7 ∨ kind = 8 := by omega
  unfold numberS
  rcases this with rfl | rfl | rfl | rfl | rfl | rfl | rfl | rfl | rfl
  · by_cases h : n = 0
    · simp (disch := first|decide|omega|(simp only [LN];first|done|omega)) only [SV, SW, f80, Int.reduceNeg, h, Nat.reduceAdd, Nat.reduceBEq, oneOr, Int.reduceEq, true_and]
    · simp (disch := first|decide|omega|(simp only [LN];first|done|omega)) only [SV, SW, f80, Int.reduceNeg, Nat.reduceAdd, Nat.reduceBEq, oneOr, Int.reduceEq, h]
  · by_cases h : 0 ≤ n
    · simp (disch := first|decide|omega|(simp only [LN];first|done|omega)) only [SV, SW, f80, Int.reduceNeg, Nat.reduceAdd, Nat.reduceBEq, oneOr, Int.reduceEq, true_and]
    · simp (disch := first|decide|omega|(simp only [LN];first|done|omega)) only [SV, SW, f80, Int.reduceNeg, Nat.reduceAdd, Nat.reduceBEq, oneOr, Int.reduceEq]
  · by_cases h : 1 ≤ n
    · simp (disch := first|decide|omega|(simp only [LN];first|done|omega)) only [SV, SW, f80, Int.reduceNeg, Nat.reduceAdd, Nat.reduceBEq, oneOr, Int.reduceEq, true_and]
    · simp (disch := first|decide|omega|(simp only [LN];first|done|omega)) only [SV, SW, f80, Int.reduceNeg, Nat.reduceAdd, Nat.reduceBEq, oneOr, Int.reduceEq]
  · by_cases h : -4611686018427387904 ≤ n
    · by_cases h2 : n ≤ 4611686018427387903
      · simp (disch := first|decide|omega|(simp only [LN];first|done|omega)) only [SV, SW, f80, Int.reduceNeg, Nat.reduceAdd, Nat.reduceBEq, oneOr, Int.reduceEq]
      · simp (disch := first|decide|omega|(simp only [LN];first|done|omega)) only [SV, SW, f80, Int.reduceNeg, Nat.reduceAdd, Nat.reduceBEq, oneOr, Int.reduceEq, and_false, true_and]
    · simp (disch := first|decide|omega|(simp only [LN];first|done|omega)) only [SV, SW, f80, Int.reduceNeg, Nat.reduceAdd, Nat.reduceBEq, oneOr, Int.reduceEq]
  · by_cases h : 0 ≤ n
    · by_cases h2 : n < t.globals.length
      · simp (disch := first|decide|omega|(simp only [LN];first|done|omega)) only [SV, SW, f80, Int.reduceNeg, Nat.reduceAdd, Nat.reduceBEq, oneOr, Int.reduceEq, true_and]
      · simp (disch := first|decide|omega|(simp only [LN];first|done|omega)) only [SV, SW, f80, Int.reduceNeg, Nat.reduceAdd, Nat.reduceBEq, oneOr, Int.reduceEq, true_and, and_false]
    · simp (disch := first|decide|omega|(simp only [LN];first|done|omega)) only [SV, SW, f80, Int.reduceNeg, Nat.reduceAdd, Nat.reduceBEq, oneOr, Int.reduceEq]
  · by_cases h : 0 ≤ n
    · by_cases h2 : n < t.shapes.length
      · simp (disch := first|decide|omega|(simp only [LN];first|done|omega)) only [SV, SW, f80, Int.reduceNeg, Nat.reduceAdd, Nat.reduceBEq, oneOr, Int.reduceEq, true_and]
      · simp (disch := first|decide|omega|(simp only [LN];first|done|omega)) only [SV, SW, f80, Int.reduceNeg, Nat.reduceAdd, Nat.reduceBEq, oneOr, Int.reduceEq, true_and, and_false]
    · simp (disch := first|decide|omega|(simp only [LN];first|done|omega)) only [SV, SW, f80, Int.reduceNeg, Nat.reduceAdd, Nat.reduceBEq, oneOr, Int.reduceEq]
  · by_cases h : 1 ≤ n
    · by_cases h2 : n ≤ 11
      · simp (disch := first|decide|omega|(simp only [LN];first|done|omega)) only [SV, SW, f80, Int.reduceNeg, Nat.reduceAdd, Nat.reduceBEq, oneOr, Int.reduceEq, true_and]
      · simp (disch := first|decide|omega|(simp only [LN];first|done|omega)) only [SV, SW, f80, Int.reduceNeg, Nat.reduceAdd, Nat.reduceBEq, oneOr, Int.reduceEq, true_and, and_false]
    · simp (disch := first|decide|omega|(simp only [LN];first|done|omega)) only [SV, SW, f80, Int.reduceNeg, Nat.reduceAdd, Nat.reduceBEq, oneOr, Int.reduceEq]
  · by_cases h : 1 ≤ n
    · by_cases h2 : n ≤ 4
      · simp (disch := first|decide|omega|(simp only [LN];first|done|omega)) only [SV, SW, f80, Int.reduceNeg, Nat.reduceAdd, Nat.reduceBEq, oneOr, Int.reduceEq, true_and]
      · simp (disch := first|decide|omega|(simp only [LN];first|done|omega)) only [SV, SW, f80, Int.reduceNeg, Nat.reduceAdd, Nat.reduceBEq, oneOr, Int.reduceEq, true_and, and_false]
    · simp (disch := first|decide|omega|(simp only [LN];first|done|omega)) only [SV, SW, f80, Int.reduceNeg, Nat.reduceAdd, Nat.reduceBEq, oneOr, Int.reduceEq]
  · by_cases h : n ≤ at_
    · simp (disch := first|decide|omega|(simp only [LN];first|done|omega)) only [SV, SW, f80, Int.reduceNeg, Nat.reduceAdd, Nat.reduceBEq, oneOr, Int.reduceEq]
    · by_cases h2 : (g.code.length : Int) ≤ n
      · simp (disch := first|decide|omega|(simp only [LN];first|done|omega)) only [SV, SW, f80, Int.reduceNeg, Nat.reduceAdd, Nat.reduceBEq, oneOr, Int.reduceEq, true_and]
      · simp (disch := first|decide|omega|(simp only [LN];first|done|omega)) only [SV, SW, f80, Int.reduceNeg, Nat.reduceAdd, Nat.reduceBEq, oneOr, Int.reduceEq]

theorem ev_reach (K : Cx) (c : Bool) (Dp : List Int) (at_ d : Int) (h : 0 ≤ at_ ∧ at_ < Dp.length) (n : Nat) (hn : n = Dp.length) :
    runFun K f82 [.bsl 0 0 n, .d false (.int .i64 at_), .d false (.int .i64 d)] [.dat c 1 (Dp.map eInt)] = some (.d false (.bool (reachB' Dp at_ d)), [.dat c 1 ((reachS Dp at_ d).map eInt)], []) := by
  subst hn
  obtain ⟨h0, h1⟩ := h
  unfold reachB' reachS
  have hs := nth_set_self Dp at_ d h0 h1
  by_cases g : nth Dp at_ = 0
  · rw [if_pos g, if_pos g]
    simp (disch := first|decide|omega|(simp only [LN];first|done|omega)) only [SV, SW, f82, Nat.reduceAdd, Nat.reduceBEq, g, eInt_eq, fIntS, lose, hs, range1, oneOr]
  · rw [if_neg g, if_neg g]
    simp (disch := first|decide|omega|(simp only [LN];first|done|omega)) only [SV, SW, f82, Nat.reduceAdd, Nat.reduceBEq, eInt_eq, range1, oneOr]

set_option maxHeartbeats 8000000 in
theorem ev_stacked (K : Cx) (t : Table) (x : Instr) (d : Int) (hd : 1 ≤ d ∧ d ≤ 8000) (ha : 0 ≤ x.a ∧ x.a ≤ 9223372036854775807 ∨ (x.op ≠ 1 ∧ x.op ≠ 4 ∧ x.op ≠ 5 ∧ x.op ≠ 7 ∧ x.op ≠ 8)) (hs : x.op = 9 ∨ x.op = 10 → 0 ≤ x.a ∧ x.a < t.shapes.length ∧ 0 ≤ (nth t.shapes x.a).fields ∧ (nth t.shapes x.a).fields ≤ 8) :
    runFun K f81 [.agg [.d false (.sl 2 (t.shapes.map eShape)), .d false (.sl 3 (t.globals.map eGlob))], .agg [.d false (.int .i64 x.op), .d false (.int .i64 x.a), .d false (.int .i64 x.b)], .d false (.int .i64 d)] []
    = some (.tup [.d false (.int .i64 (stackedS t.shapes x d).1), .d false (.bool (stackedS t.shapes x d).2)], [], []) := by
  obtain ⟨op, a, b⟩ := x
  simp only at ha hs ⊢
  obtain ⟨d1, d2⟩ := hd
  unfold stackedS
  simp only
  by_cases g1 : op = 1
  · subst g1
    have ⟨a1, a2⟩ : 0 ≤ a ∧ a ≤ 9223372036854775807 := by omega
    clear hs ha
    by_cases k : a < d
    · simp (disch := first|decide|omega|(simp only [LN];first|done|omega)) only [SV, SW, f81, Nat.reduceAdd, Nat.reduceBEq, oneOr, Int.reduceEq]
    · simp (disch := first|decide|omega|(simp only [LN];first|done|omega)) only [SV, SW, f81, Nat.reduceAdd, Nat.reduceBEq, oneOr, Int.reduceEq]
  by_cases g2 : op = 2
  · subst g2
    simp (disch := first|decide|omega|(simp only [LN];first|done|omega)) only [SV, SW, f81, Nat.reduceAdd, Nat.reduceBEq, oneOr, Int.reduceEq]
  by_cases g3 : op = 3
  · subst g3
    simp (disch := first|decide|omega|(simp only [LN];first|done|omega)) only [SV, SW, f81, Nat.reduceAdd, Nat.reduceBEq, oneOr, Int.reduceEq]
  by_cases g4 : op = 4
  · subst g4
    have ⟨a1, a2⟩ : 0 ≤ a ∧ a ≤ 9223372036854775807 := by omega
    clear hs ha
    by_cases k : a < d
    · simp (disch := first|decide|omega|(simp only [LN];first|done|omega)) only [SV, SW, f81, Nat.reduceAdd, Nat.reduceBEq, oneOr, Int.reduceEq]
    · simp (disch := first|decide|omega|(simp only [LN];first|done|omega)) only [SV, SW, f81, Nat.reduceAdd, Nat.reduceBEq, oneOr, Int.reduceEq]
  by_cases g5 : op = 5
  · subst g5
    have ⟨a1, a2⟩ : 0 ≤ a ∧ a ≤ 9223372036854775807 := by omega
    clear hs ha
    by_cases k : a < d - 1
    · simp (disch := first|decide|omega|(simp only [LN];first|done|omega)) only [SV, SW, f81, Nat.reduceAdd, Nat.reduceBEq, oneOr, Int.reduceEq]
    · simp (disch := first|decide|omega|(simp only [LN];first|done|omega)) only [SV, SW, f81, Nat.reduceAdd, Nat.reduceBEq, oneOr, Int.reduceEq]
  by_cases g6 : op = 6
  · subst g6
    by_cases k : 2 < d
    · simp (disch := first|decide|omega|(simp only [LN];first|done|omega)) only [SV, SW, f81, Nat.reduceAdd, Nat.reduceBEq, oneOr, Int.reduceEq]
    · simp (disch := first|decide|omega|(simp only [LN];first|done|omega)) only [SV, SW, f81, Nat.reduceAdd, Nat.reduceBEq, oneOr, Int.reduceEq]
  by_cases g12 : op = 12
  · subst g12
    by_cases k : 2 < d
    · simp (disch := first|decide|omega|(simp only [LN];first|done|omega)) only [SV, SW, f81, Nat.reduceAdd, Nat.reduceBEq, oneOr, Int.reduceEq]
    · simp (disch := first|decide|omega|(simp only [LN];first|done|omega)) only [SV, SW, f81, Nat.reduceAdd, Nat.reduceBEq, oneOr, Int.reduceEq]
  by_cases g7 : op = 7
  · subst g7
    have ⟨a1, a2⟩ : 0 ≤ a ∧ a ≤ 9223372036854775807 := by omega
    clear hs ha
    by_cases k : a < d
    · simp (disch := first|decide|omega|(simp only [LN];first|done|omega)) only [SV, SW, f81, Nat.reduceAdd, Nat.reduceBEq, oneOr, Int.reduceEq]
    · simp (disch := first|decide|omega|(simp only [LN];first|done|omega)) only [SV, SW, f81, Nat.reduceAdd, Nat.reduceBEq, oneOr, Int.reduceEq]
  by_cases g8 : op = 8
  · subst g8
    have ⟨a1, a2⟩ : 0 ≤ a ∧ a ≤ 9223372036854775807 := by omega
    clear hs ha
    by_cases k : 8000 < a
    · simp (disch := first|decide|omega|(simp only [LN];first|done|omega)) only [SV, SW, f81, Nat.reduceAdd, Nat.reduceBEq, oneOr, Int.reduceEq]
    · by_cases k2 : d + a ≤ 8000
      · simp (disch := first|decide|omega|(simp only [LN];first|done|omega)) only [SV, SW, f81, Nat.reduceAdd, Nat.reduceBEq, oneOr, Int.reduceEq]
      · simp (disch := first|decide|omega|(simp only [LN];first|done|omega)) only [SV, SW, f81, Nat.reduceAdd, Nat.reduceBEq, oneOr, Int.reduceEq]
  by_cases g9 : op = 9
  · subst g9
    obtain ⟨a1, a2, a3, a4⟩ := hs (.inl rfl)
    clear ha
    unfold fieldsS
    generalize hf : (nth t.shapes a).fields = fl at a3 a4
    by_cases k : fl < d
    · simp (disch := first|decide|omega|(simp only [LN];first|done|omega)) only [SV, SW, f81, Nat.reduceAdd, Nat.reduceBEq, eShape_eq, hf, oneOr, Int.reduceEq]
    · simp (disch := first|decide|omega|(simp only [LN];first|done|omega)) only [SV, SW, f81, Nat.reduceAdd, Nat.reduceBEq, eShape_eq, hf, oneOr, Int.reduceEq]
  by_cases g10 : op = 10
  · subst g10
    obtain ⟨a1, a2, a3, a4⟩ := hs (.inr rfl)
    clear ha
    unfold fieldsS
    generalize hf : (nth t.shapes a).fields = fl at a3 a4
    by_cases k : 1 < d
    · by_cases k2 : d - 1 + fl ≤ 8000
      · simp (disch := first|decide|omega|(simp only [LN];first|done|omega)) only [SV, SW, f81, Nat.reduceAdd, Nat.reduceBEq, eShape_eq, hf, oneOr, Int.reduceEq]
      · simp (disch := first|decide|omega|(simp only [LN];first|done|omega)) only [SV, SW, f81, Nat.reduceAdd, Nat.reduceBEq, eShape_eq, hf, oneOr, Int.reduceEq]
    · simp (disch := first|decide|omega|(simp only [LN];first|done|omega)) only [SV, SW, f81, Nat.reduceAdd, Nat.reduceBEq, eShape_eq, hf, oneOr, Int.reduceEq]
  by_cases g11 : op = 11
  · subst g11
    by_cases k : 1 < d
    · simp (disch := first|decide|omega|(simp only [LN];first|done|omega)) only [SV, SW, f81, Nat.reduceAdd, Nat.reduceBEq, oneOr, Int.reduceEq]
    · simp (disch := first|decide|omega|(simp only [LN];first|done|omega)) only [SV, SW, f81, Nat.reduceAdd, Nat.reduceBEq, oneOr, Int.reduceEq]
  by_cases g14 : op = 14
  · subst g14
    by_cases k : 1 < d
    · simp (disch := first|decide|omega|(simp only [LN];first|done|omega)) only [SV, SW, f81, Nat.reduceAdd, Nat.reduceBEq, oneOr, Int.reduceEq]
    · simp (disch := first|decide|omega|(simp only [LN];first|done|omega)) only [SV, SW, f81, Nat.reduceAdd, Nat.reduceBEq, oneOr, Int.reduceEq]
  by_cases g15 : op = 15
  · subst g15
    by_cases k : 1 < d
    · simp (disch := first|decide|omega|(simp only [LN];first|done|omega)) only [SV, SW, f81, Nat.reduceAdd, Nat.reduceBEq, oneOr, Int.reduceEq]
    · simp (disch := first|decide|omega|(simp only [LN];first|done|omega)) only [SV, SW, f81, Nat.reduceAdd, Nat.reduceBEq, oneOr, Int.reduceEq]
  by_cases g17 : op = 17
  · subst g17
    by_cases k : d = 1
    · simp (disch := first|decide|omega|(simp only [LN];first|done|omega)) only [SV, SW, f81, k, Nat.reduceAdd, Nat.reduceBEq, oneOr, Int.reduceEq, Int.reduceAdd, Int.reduceSub]
    · simp (disch := first|decide|omega|(simp only [LN];first|done|omega)) only [SV, SW, f81, Nat.reduceAdd, Nat.reduceBEq, oneOr, Int.reduceEq, k]
  · simp (disch := first|decide|omega|(simp only [LN];first|done|omega)) only [SV, SW, f81, Nat.reduceAdd, Nat.reduceBEq, oneOr, g1, g2, g3, g4, g5, g6, g12, g7, g8, g9, g10, g11, g14, g15, g17]

end Go.Vm
end

section
namespace Go.Vm
set_option maxHeartbeats 8000000 in
theorem ev_forms (K : Cx) (op : Int) : runFun K f79 [.d false (.int .i64 op)] [] = some (vForm (formS op) (decide (1 ≤ op ∧ op < 18)), [], []) := by
  unfold formS
  by_cases h : 1 ≤ op ∧ op < 18
  · rw [if_pos h]
    have hd : decide (1 ≤ op ∧ op < 18) = true := by simpa using h
    rw [hd]
    obtain ⟨h1, h2⟩ := h
    have : op = 1 ∨ op = 2 ∨ op = 3 ∨ op = 4 ∨ op = 5 ∨ op = 6 ∨ op = 7 ∨ op = 8 ∨ op = 9 ∨ op = 10 ∨ op = 11 ∨ op = 12 ∨ op = 13 ∨ op = 14 ∨ op = 15 ∨ op = 16 ∨ op = 17 := by omega
    simp (disch := first|decide|omega|(simp only [LN];first|done|omega)) only [SV, SW, f79, Nat.reduceAdd, Nat.reduceBEq, lose, e_aa, evAa]
    clear hd h1 h2
    rcases this with rfl | rfl | rfl | rfl | rfl | rfl | rfl | rfl | rfl | rfl | rfl | rfl | rfl | rfl | rfl | rfl | rfl
    all_goals (simp (disch := first|decide|omega|(simp only [LN];first|done|omega)) only [SV, SW, Int.reduceToNat, Nat.reduceMul, Nat.reduceSub, Nat.min_def, lose, Nat.reduceBEq, Nat.reduceAdd, oneOr]; rfl)
  · rw [if_neg h]
    have hd : decide (1 ≤ op ∧ op < 18) = false := by simpa using h
    rw [hd]
    clear hd
    by_cases h1 : op < 1
    · simp (disch := first|decide|omega|(simp only [LN];first|done|omega)) only [SV, SW, f79, Nat.reduceAdd, Nat.reduceBEq, lose, oneOr]
      rfl
    · simp (disch := first|decide|omega|(simp only [LN];first|done|omega)) only [SV, SW, f79, Nat.reduceAdd, Nat.reduceBEq, lose, oneOr]
      rfl

end Go.Vm
end

section
namespace Go.Vm
open Go.RowKit Go.Shelf Go.Proofs
theorem eInstr_inj (a b : Instr) (h : eInstr a = eInstr b) : a = b := by
  cases a; cases b
  simp only [eInstr, List.cons.injEq, D.int.injEq, true_and, and_true] at h
  simp only [Instr.mk.injEq]
  exact h
theorem eShape_inj (a b : Shape) (h : eShape a = eShape b) : a = b := by
  cases a; cases b
  simp only [eShape, List.cons.injEq, D.int.injEq, D.str.injEq, true_and, and_true] at h
  simp only [Shape.mk.injEq]
  exact h
theorem map_inj {α β : Type} {f : α → β} (hf : ∀ a b, f a = f b → a = b) : ∀ l l' : List α, l.map f = l'.map f → l = l'
  | [], [], _ => rfl
  | [], _ :: _, h => by simp at h
  | _ :: _, [], h => by simp at h
  | a :: l, b :: l', h => by
    simp only [List.map_cons, List.cons.injEq] at h
    rw [hf a b h.1, map_inj hf l l' h.2]
theorem mI (l l' : List Instr) : l.map eInstr = l'.map eInstr ↔ l = l' := ⟨map_inj eInstr_inj l l', fun h => by rw [h]⟩
theorem mS (l l' : List Shape) : l.map eShape = l'.map eShape ↔ l = l' := ⟨map_inj eShape_inj l l', fun h => by rw [h]⟩
theorem eGlob_inj (a b : Glob) (h : eGlob a = eGlob b) : a = b := by
  cases a; cases b
  simp only [eGlob, List.cons.injEq, D.int.injEq, D.str.injEq, D.sl.injEq, mI, true_and, and_true] at h
  simp only [Glob.mk.injEq]
  exact h
theorem mG (l l' : List Glob) : l.map eGlob = l'.map eGlob ↔ l = l' := ⟨map_inj eGlob_inj l l', fun h => by rw [h]⟩
theorem eInt_inj (a b : Int) (h : eInt a = eInt b) : a = b := by simpa [eInt] using h
theorem mN (l l' : List Int) : l.map eInt = l'.map eInt ↔ l = l' := ⟨map_inj eInt_inj l l', fun h => by rw [h]⟩
theorem tab_inj (t u : Table) (h : t.shapes = u.shapes ∧ t.globals = u.globals) : t = u := by
  cases t; cases u
  simp only [Table.mk.injEq]
  exact h

noncomputable def z35 : Sp where
  α := List UInt8
  f := 35
  ok := fun s => ((s.length : Int) ≤ 9223372036854775807)
  args := fun s => [.d false (.str s)]
  res := fun s => (.d false (.bool (isNameS s)), [])
  inj := by
    rintro s s' _ _ h
    simp only [List.cons.injEq, V.agg.injEq, V.d.injEq, D.sl.injEq, D.int.injEq, D.str.injEq, D.ptr.injEq, Int.natCast_inj, mI, mS, mG, mN, true_and, and_true] at h
    rw [h]
noncomputable def z36 : Sp where
  α := Unit
  f := 36
  ok := fun u => True
  args := fun u => []
  res := fun u => (.bsl 0 0 7, [.dat true 2 (givenS.map eShape)])
  inj := by
    rintro u u' _ _ h
    rfl
noncomputable def z34 : Sp where
  α := Table
  f := 34
  ok := fun t => (TabOk t)
  args := fun t => [.agg [.d false (.sl 2 (t.shapes.map eShape)), .d false (.sl 3 (t.globals.map eGlob))]]
  res := fun t => (.d false (.bool (greatS t)), [])
  inj := by
    rintro t t' _ _ h
    simp only [List.cons.injEq, V.agg.injEq, V.d.injEq, D.sl.injEq, mS, mG, true_and, and_true] at h
    rw [tab_inj _ _ h]
noncomputable def z79 : Sp where
  α := Int
  f := 79
  ok := fun op => True
  args := fun op => [.d false (.int .i64 op)]
  res := fun op => (vForm (formS op) (decide (1 ≤ op ∧ op < 18)), [])
  inj := by
    rintro op op' _ _ h
    simp only [List.cons.injEq, V.agg.injEq, V.d.injEq, D.sl.injEq, D.int.injEq, D.str.injEq, D.ptr.injEq, Int.natCast_inj, mI, mS, mG, mN, true_and, and_true] at h
    rw [h]
noncomputable def z80 : Sp where
  α := List Shape × List Glob × List UInt8 × Int × List Instr × Int × Int × Int
  f := 80
  ok := fun (sh, gl, nm, ar, cd, at_, n, kind) => (0 ≤ kind ∧ kind ≤ 8)
  args := fun (sh, gl, nm, ar, cd, at_, n, kind) => [.agg [.d false (.sl 2 (sh.map eShape)), .d false (.sl 3 (gl.map eGlob))], .agg [.d false (.str nm), .d false (.int .i64 ar), .d false (.sl 3 (cd.map eInstr))], .d false (.int .i64 at_), .d false (.int .i64 n), .d false (.int .i64 kind)]
  res := fun (sh, gl, nm, ar, cd, at_, n, kind) => (.d false (.int .i64 (numberS gl.length sh.length cd.length at_ n kind)), [])
  inj := by
    rintro ⟨sh, gl, nm, ar, cd, at_, n, kind⟩ ⟨sh', gl', nm', ar', cd', at_', n', kind'⟩ _ _ h
    simp only [List.cons.injEq, V.agg.injEq, V.d.injEq, D.sl.injEq, D.int.injEq, D.str.injEq, D.ptr.injEq, Int.natCast_inj, mI, mS, mG, mN, true_and, and_true] at h
    simp only [h]
noncomputable def z81 : Sp where
  α := List Shape × List Glob × Int × Int × Int × Int
  f := 81
  ok := fun (sh, gl, op, a, b, d) => (1 ≤ d ∧ d ≤ 8000) ∧ (0 ≤ a ∧ a ≤ 9223372036854775807 ∨ (op ≠ 1 ∧ op ≠ 4 ∧ op ≠ 5 ∧ op ≠ 7 ∧ op ≠ 8)) ∧ (op = 9 ∨ op = 10 → 0 ≤ a ∧ a < sh.length ∧ 0 ≤ (nth sh a).fields ∧ (nth sh a).fields ≤ 8)
  args := fun (sh, gl, op, a, b, d) => [.agg [.d false (.sl 2 (sh.map eShape)), .d false (.sl 3 (gl.map eGlob))], .agg [.d false (.int .i64 op), .d false (.int .i64 a), .d false (.int .i64 b)], .d false (.int .i64 d)]
  res := fun (sh, gl, op, a, b, d) => (.tup [.d false (.int .i64 (stackedS sh ⟨op, a, b⟩ d).1), .d false (.bool (stackedS sh ⟨op, a, b⟩ d).2)], [])
  inj := by
    rintro ⟨sh, gl, op, a, b, d⟩ ⟨sh', gl', op', a', b', d'⟩ _ _ h
    simp only [List.cons.injEq, V.agg.injEq, V.d.injEq, D.sl.injEq, D.int.injEq, D.str.injEq, D.ptr.injEq, Int.natCast_inj, mI, mS, mG, mN, true_and, and_true] at h
    simp only [h]
noncomputable def z37 : Sp where
  α := List Shape × List Glob × List UInt8 × Int × List Instr
  f := 37
  ok := fun (sh, gl, nm, ar, cd) => (ShOk sh) ∧ (cd.length ≤ 8000) ∧ (0 ≤ ar ∧ ar ≤ 24) ∧ (∀ x ∈ cd, x.a ≤ 9223372036854775807)
  args := fun (sh, gl, nm, ar, cd) => [.agg [.d false (.sl 2 (sh.map eShape)), .d false (.sl 3 (gl.map eGlob))], .agg [.d false (.str nm), .d false (.int .i64 ar), .d false (.sl 3 (cd.map eInstr))]]
  res := fun (sh, gl, nm, ar, cd) => (.d false (.int .i64 (checkCodeS gl.length sh ⟨nm, ar, cd⟩)), [])
  inj := by
    rintro ⟨sh, gl, nm, ar, cd⟩ ⟨sh', gl', nm', ar', cd'⟩ _ _ h
    simp only [List.cons.injEq, V.agg.injEq, V.d.injEq, D.sl.injEq, D.int.injEq, D.str.injEq, D.ptr.injEq, Int.natCast_inj, mI, mS, mG, mN, true_and, and_true] at h
    simp only [h]
noncomputable def z13 : Sp where
  α := Table
  f := 13
  ok := fun t => (TabOk t)
  args := fun t => [.agg [.d false (.sl 2 (t.shapes.map eShape)), .d false (.sl 3 (t.globals.map eGlob))]]
  res := fun t => (.d false (.int .i64 (checkS t)), [])
  inj := by
    rintro t t' _ _ h
    simp only [List.cons.injEq, V.agg.injEq, V.d.injEq, D.sl.injEq, mS, mG, true_and, and_true] at h
    rw [tab_inj _ _ h]
noncomputable def z28 : Sp where
  α := List Shape × List Glob × Int × Int × Int
  f := 28
  ok := fun (sh, gl, op, a, b) => True
  args := fun (sh, gl, op, a, b) => [.agg [.d false (.sl 2 (sh.map eShape)), .d false (.sl 3 (gl.map eGlob))], .agg [.d false (.int .i64 op), .d false (.int .i64 a), .d false (.int .i64 b)]]
  res := fun (sh, gl, op, a, b) => (.d false (.bool (numbersR gl.length sh.length ⟨op, a, b⟩)), [])
  inj := by
    rintro ⟨sh, gl, op, a, b⟩ ⟨sh', gl', op', a', b'⟩ _ _ h
    simp only [List.cons.injEq, V.agg.injEq, V.d.injEq, D.sl.injEq, D.int.injEq, D.str.injEq, D.ptr.injEq, Int.natCast_inj, mI, mS, mG, mN, true_and, and_true] at h
    simp only [h]
noncomputable def z32 : Sp where
  α := Int × Int × Int
  f := 32
  ok := fun (op, a, b) => True
  args := fun (op, a, b) => [.agg [.d false (.int .i64 op), .d false (.int .i64 a), .d false (.int .i64 b)]]
  res := fun (op, a, b) => (.d false (.int .i64 (targetR ⟨op, a, b⟩)), [])
  inj := by
    rintro ⟨op, a, b⟩ ⟨op', a', b'⟩ _ _ h
    simp only [List.cons.injEq, V.agg.injEq, V.d.injEq, D.sl.injEq, D.int.injEq, D.str.injEq, D.ptr.injEq, Int.natCast_inj, mI, mS, mG, mN, true_and, and_true] at h
    simp only [h]
noncomputable def z30 : Sp where
  α := Int × Int × Int
  f := 30
  ok := fun (op, a, b) => True
  args := fun (op, a, b) => [.agg [.d false (.int .i64 op), .d false (.int .i64 a), .d false (.int .i64 b)]]
  res := fun (op, a, b) => (.d false (.bool (endsR ⟨op, a, b⟩)), [])
  inj := by
    rintro ⟨op, a, b⟩ ⟨op', a', b'⟩ _ _ h
    simp only [List.cons.injEq, V.agg.injEq, V.d.injEq, D.sl.injEq, D.int.injEq, D.str.injEq, D.ptr.injEq, Int.natCast_inj, mI, mS, mG, mN, true_and, and_true] at h
    simp only [h]
noncomputable def z29 : Sp where
  α := List Shape × List Glob × Int × Int × Int × Int
  f := 29
  ok := fun (sh, gl, op, a, b, d) => (1 ≤ d ∧ d ≤ 8000) ∧ (op = 9 → 0 ≤ a ∧ a < sh.length)
  args := fun (sh, gl, op, a, b, d) => [.agg [.d false (.sl 2 (sh.map eShape)), .d false (.sl 3 (gl.map eGlob))], .agg [.d false (.int .i64 op), .d false (.int .i64 a), .d false (.int .i64 b)], .d false (.int .i64 d)]
  res := fun (sh, gl, op, a, b, d) => (.d false (.bool (needsR sh ⟨op, a, b⟩ d)), [])
  inj := by
    rintro ⟨sh, gl, op, a, b, d⟩ ⟨sh', gl', op', a', b', d'⟩ _ _ h
    simp only [List.cons.injEq, V.agg.injEq, V.d.injEq, D.sl.injEq, D.int.injEq, D.str.injEq, D.ptr.injEq, Int.natCast_inj, mI, mS, mG, mN, true_and, and_true] at h
    simp only [h]
noncomputable def z31 : Sp where
  α := List Shape × List Glob × Int × Int × Int × Int
  f := 31
  ok := fun (sh, gl, op, a, b, d) => (1 ≤ d ∧ d ≤ 8000) ∧ (op = 4 ∨ op = 5 ∨ op = 8 → 0 ≤ a ∧ a ≤ 9223372036854775807) ∧ (op = 9 ∨ op = 10 → 0 ≤ a ∧ a < sh.length ∧ 0 ≤ fieldsS sh a ∧ fieldsS sh a ≤ 8)
  args := fun (sh, gl, op, a, b, d) => [.agg [.d false (.sl 2 (sh.map eShape)), .d false (.sl 3 (gl.map eGlob))], .agg [.d false (.int .i64 op), .d false (.int .i64 a), .d false (.int .i64 b)], .d false (.int .i64 d)]
  res := fun (sh, gl, op, a, b, d) => (.d false (.int .i64 (behindR sh ⟨op, a, b⟩ d)), [])
  inj := by
    rintro ⟨sh, gl, op, a, b, d⟩ ⟨sh', gl', op', a', b', d'⟩ _ _ h
    simp only [List.cons.injEq, V.agg.injEq, V.d.injEq, D.sl.injEq, D.int.injEq, D.str.injEq, D.ptr.injEq, Int.natCast_inj, mI, mS, mG, mN, true_and, and_true] at h
    simp only [h]
noncomputable def z11 : Sp where
  α := Unit
  f := 11
  ok := fun _ => True
  args := fun _ => []
  res := fun _ => (.d false (.bool true), [])
  inj := by
    rintro u u' _ _ h
    rfl
noncomputable def y82 : Se where
  α := Bool × List Int × Int × Int
  f := 82
  ok := fun (_, Dp, at_, _) => 0 ≤ at_ ∧ at_ < Dp.length
  args := fun (_, Dp, at_, d) => [.bsl 0 0 Dp.length, .d false (.int .i64 at_), .d false (.int .i64 d)]
  blks := fun (c, Dp, _, _) => [.dat c 1 (Dp.map eInt)]
  res := fun (c, Dp, at_, d) => (.d false (.bool (reachB' Dp at_ d)), [.dat c 1 ((reachS Dp at_ d).map eInt)], [])
  inj := by
    rintro ⟨c, Dp, at_, d⟩ ⟨c', Dp', at_', d'⟩ _ _ h h2
    simp only [List.cons.injEq, V.bsl.injEq, V.d.injEq, D.int.injEq, true_and, and_true] at h
    simp only [List.cons.injEq, Blk.dat.injEq, mN, true_and, and_true] at h2
    simp only [h, h2]

theorem k35_of {G : Nat → Option (List D)} {L : List Sp} {E : List Se} (h : Has L z35) : K21 (cx G L E) := fun s h1 => h s h1
theorem k36_of {G : Nat → Option (List D)} {L : List Sp} {E : List Se} (h : Has L z36) : K22 (cx G L E) := h () trivial
theorem k34_of {G : Nat → Option (List D)} {L : List Sp} {E : List Se} (h : Has L z34) : K20 (cx G L E) := fun t h1 => h t h1
theorem k79_of {G : Nat → Option (List D)} {L : List Sp} {E : List Se} (h : Has L z79) : K40 (cx G L E) := fun op => h op trivial
theorem k80_of {G : Nat → Option (List D)} {L : List Sp} {E : List Se} (h : Has L z80) : K41 (cx G L E) := fun sh gl nm ar cd at_ n kind h1 => h (sh, gl, nm, ar, cd, at_, n, kind) h1
theorem k81_of {G : Nat → Option (List D)} {L : List Sp} {E : List Se} (h : Has L z81) : K42 (cx G L E) := fun sh gl op a b d h1 h2 h3 => h (sh, gl, op, a, b, d) ⟨h1, h2, h3⟩
theorem k37_of {G : Nat → Option (List D)} {L : List Sp} {E : List Se} (h : Has L z37) : K23 (cx G L E) := fun sh gl nm ar cd h1 h2 h3 h4 => h (sh, gl, nm, ar, cd) ⟨h1, h2, h3, h4⟩
theorem k13_of {G : Nat → Option (List D)} {L : List Sp} {E : List Se} (h : Has L z13) : K13 (cx G L E) := fun t h1 => h t h1
theorem k28_of {G : Nat → Option (List D)} {L : List Sp} {E : List Se} (h : Has L z28) : K46 (cx G L E) := fun sh gl ⟨op, a, b⟩ => h (sh, gl, op, a, b) trivial
theorem k32_of {G : Nat → Option (List D)} {L : List Sp} {E : List Se} (h : Has L z32) : K48 (cx G L E) := fun ⟨op, a, b⟩ => h (op, a, b) trivial
theorem k30_of {G : Nat → Option (List D)} {L : List Sp} {E : List Se} (h : Has L z30) : K51 (cx G L E) := fun ⟨op, a, b⟩ => h (op, a, b) trivial
theorem k29_of {G : Nat → Option (List D)} {L : List Sp} {E : List Se} (h : Has L z29) : K49 (cx G L E) := fun sh gl ⟨op, a, b⟩ d h1 h2 => h (sh, gl, op, a, b, d) ⟨h1, h2⟩
theorem k31_of {G : Nat → Option (List D)} {L : List Sp} {E : List Se} (h : Has L z31) : K50 (cx G L E) := fun sh gl ⟨op, a, b⟩ d h1 h2 h3 => h (sh, gl, op, a, b, d) ⟨h1, h2, h3⟩
theorem k82_of {G : Nat → Option (List D)} {L : List Sp} {E : List Se} (h : HasE E y82) : K43 (cx G L E) := fun c Dp at_ d n h1 h2 => by subst h2; exact h (c, Dp, at_, d) h1
theorem k11_of {G : Nat → Option (List D)} {L : List Sp} {E : List Se} (h : Has L z11) : (cx G L E).call 11 [] = some (.d false (.bool true), []) := h () trivial
noncomputable def ZL0 : List Sp := [z11]
noncomputable def ZE0 : List Se := [y82]
theorem zn0 : Known Tryz.prog GT ZL0 ZE0 := (Known.nil.put (s := z11) (fun _ _ => awake8)).addE mixedZ (fun ⟨c, Dp, at_, d⟩ _ => f82_ok) (fun ⟨c, Dp, at_, d⟩ h => ev_reach _ c Dp at_ d h _ rfl)
noncomputable def ZL1 : List Sp := z35 :: ZL0
theorem zn1 : Known Tryz.prog GT ZL1 ZE0 := by
  exact zn0.add mixedZ (fun s _ => f35_ok) (fun s h1 => ⟨_, ev_isName _ s h1⟩)
noncomputable def ZL2 : List Sp := z36 :: ZL1
theorem zn2 : Known Tryz.prog GT ZL2 ZE0 := by
  exact zn1.add mixedZ (fun u _ => f36_ok) (fun u _ => ⟨_, ev_given _⟩)
noncomputable def ZL3 : List Sp := z34 :: ZL2
theorem zn3 : Known Tryz.prog GT ZL3 ZE0 := by
  exact zn2.add mixedZ (fun t _ => f34_ok) (fun t h1 => ⟨_, ev_great _ t h1.gl h1.sh h1.cd⟩)
noncomputable def ZL4 : List Sp := z79 :: ZL3
theorem zn4 : Known Tryz.prog GT ZL4 ZE0 := by
  exact zn3.add mixedZ (fun op _ => f79_ok) (fun op _ => ⟨_, ev_forms _ op⟩)
noncomputable def ZL5 : List Sp := z80 :: ZL4
theorem zn5 : Known Tryz.prog GT ZL5 ZE0 := by
  exact zn4.add mixedZ (fun ⟨sh, gl, nm, ar, cd, at_, n, kind⟩ _ => f80_ok) (fun ⟨sh, gl, nm, ar, cd, at_, n, kind⟩ h1 => ⟨_, ev_number _ ⟨sh, gl⟩ ⟨nm, ar, cd⟩ at_ n kind h1⟩)
noncomputable def ZL6 : List Sp := z81 :: ZL5
theorem zn6 : Known Tryz.prog GT ZL6 ZE0 := by
  exact zn5.add mixedZ (fun ⟨sh, gl, op, a, b, d⟩ _ => f81_ok) (fun ⟨sh, gl, op, a, b, d⟩ ⟨h1, h2, h3⟩ => ⟨_, ev_stacked _ ⟨sh, gl⟩ ⟨op, a, b⟩ d h1 h2 h3⟩)
noncomputable def ZL7 : List Sp := z37 :: ZL6
theorem zn7 : Known Tryz.prog GT ZL7 ZE0 := by
  have k79 := k79_of (G := GT) (E := ZE0) (show Has ZL6 z79 by repeat (first | exact has_head _ _ | refine has_tail ?_ (by decide)))
  have k80 := k80_of (G := GT) (E := ZE0) (show Has ZL6 z80 by repeat (first | exact has_head _ _ | refine has_tail ?_ (by decide)))
  have k81 := k81_of (G := GT) (E := ZE0) (show Has ZL6 z81 by repeat (first | exact has_head _ _ | refine has_tail ?_ (by decide)))
  have k82 : K43 (cx GT ZL6 ZE0) := k82_of (hasE_head _ _)
  exact zn6.add mixedZ (fun ⟨sh, gl, nm, ar, cd⟩ _ => f37_ok) (fun ⟨sh, gl, nm, ar, cd⟩ ⟨h1, h2, h3, h4⟩ => ⟨_, ev_checkCode _ k79 k80 k81 k82 sh gl ⟨nm, ar, cd⟩ h1 h2 h3 h4⟩)
noncomputable def ZL8 : List Sp := z13 :: ZL7
theorem zn8 : Known Tryz.prog GT ZL8 ZE0 := by
  have k34 := k34_of (G := GT) (E := ZE0) (show Has ZL7 z34 by repeat (first | exact has_head _ _ | refine has_tail ?_ (by decide)))
  have k35 := k35_of (G := GT) (E := ZE0) (show Has ZL7 z35 by repeat (first | exact has_head _ _ | refine has_tail ?_ (by decide)))
  have k36 := k36_of (G := GT) (E := ZE0) (show Has ZL7 z36 by repeat (first | exact has_head _ _ | refine has_tail ?_ (by decide)))
  have k37 := k37_of (G := GT) (E := ZE0) (show Has ZL7 z37 by repeat (first | exact has_head _ _ | refine has_tail ?_ (by decide)))
  exact zn7.add mixedZ (fun t _ => f13_ok) (fun t h1 => ⟨_, ev_check _ k34 k35 k36 k37 t h1⟩)
noncomputable def ZL9 : List Sp := z28 :: ZL8
theorem zn9 : Known Tryz.prog GT ZL9 ZE0 := by
  exact zn8.add mixedZ (fun ⟨sh, gl, op, a, b⟩ _ => f28_ok) (fun ⟨sh, gl, op, a, b⟩ _ => ⟨_, ev_Numbers _ sh gl ⟨op, a, b⟩⟩)
noncomputable def ZL10 : List Sp := z32 :: ZL9
theorem zn10 : Known Tryz.prog GT ZL10 ZE0 := by
  exact zn9.add mixedZ (fun ⟨op, a, b⟩ _ => f32_ok) (fun ⟨op, a, b⟩ _ => ⟨_, ev_Target _ ⟨op, a, b⟩⟩)
noncomputable def ZL11 : List Sp := z30 :: ZL10
theorem zn11 : Known Tryz.prog GT ZL11 ZE0 := by
  exact zn10.add mixedZ (fun ⟨op, a, b⟩ _ => f30_ok) (fun ⟨op, a, b⟩ _ => ⟨_, ev_Ends _ ⟨op, a, b⟩⟩)
noncomputable def ZL12 : List Sp := z29 :: ZL11
theorem zn12 : Known Tryz.prog GT ZL12 ZE0 := by
  exact zn11.add mixedZ (fun ⟨sh, gl, op, a, b, d⟩ _ => f29_ok) (fun ⟨sh, gl, op, a, b, d⟩ ⟨h1, h2⟩ => ⟨_, ev_Needs _ sh gl ⟨op, a, b⟩ d h1 h2⟩)
noncomputable def ZL13 : List Sp := z31 :: ZL12
theorem zn13 : Known Tryz.prog GT ZL13 ZE0 := by
  exact zn12.add mixedZ (fun ⟨sh, gl, op, a, b, d⟩ _ => f31_ok) (fun ⟨sh, gl, op, a, b, d⟩ ⟨h1, h2, h3⟩ => ⟨_, ev_Behind _ sh gl ⟨op, a, b⟩ d h1 h2 h3⟩)

theorem law_ends (t : Table) (ht : TabOk t) (q : Int) (hq : -9223372036854775808 ≤ q ∧ q ≤ 9223372036854775807) (ways : List Bool) (hw : (ways.length : Int) ≤ 9223372036854775807) :
    callable Tryz.prog 10 = true ∧ PureCall Tryz.prog GT 10 [tabA' t.shapes t.globals, .d false (.int .i64 q), .d false (.sl 1 (ways.map eBool))] (.d false (.bool true)) [] := by
  have k11 := k11_of (G := GT) (E := ZE0) (show Has ZL13 z11 by repeat (first | exact has_head _ _ | refine has_tail ?_ (by decide)))
  have k13 := k13_of (G := GT) (E := ZE0) (show Has ZL13 z13 by repeat (first | exact has_head _ _ | refine has_tail ?_ (by decide)))
  have k28 := k28_of (G := GT) (E := ZE0) (show Has ZL13 z28 by repeat (first | exact has_head _ _ | refine has_tail ?_ (by decide)))
  have k32 := k32_of (G := GT) (E := ZE0) (show Has ZL13 z32 by repeat (first | exact has_head _ _ | refine has_tail ?_ (by decide)))
  have k29 := k29_of (G := GT) (E := ZE0) (show Has ZL13 z29 by repeat (first | exact has_head _ _ | refine has_tail ?_ (by decide)))
  have k31 := k31_of (G := GT) (E := ZE0) (show Has ZL13 z31 by repeat (first | exact has_head _ _ | refine has_tail ?_ (by decide)))
  have k30 := k30_of (G := GT) (E := ZE0) (show Has ZL13 z30 by repeat (first | exact has_head _ _ | refine has_tail ?_ (by decide)))
  exact pure_sound (args := [tabA' t.shapes t.globals, .d false (.int .i64 q), .d false (.sl 1 (ways.map eBool))]) mixedZ zn13.sound f10_ok (ev_ends _ k11 k13 k28 k32 k29 k31 k30 t ht q hq ways hw)
end Go.Vm
end

section
namespace Go.Vm
open Go.RowKit Go.Deep

variable {H : Type} {enc : TypeId × Value → H} {P : Program} {w : World} {spare : Nat → Bool} {held : Bool}

def laidFrom (P : Program) (T : TypeId → Bool) : Nat → List Field → Option Nat
  | off, [] => some off
  | off, f :: fs => if f.offset = off ∧ T f.type = true then laidFrom P T (off + P.cellsOf f.type) fs else none
def plainT (P : Program) : Nat → TypeId → Bool
  | 0, _ => false
  | n + 1, t => match P.underlying t with
    | some .bool | some (.int _) | some .string => true
    | some (.slice e) => decide (0 < P.cellsOf e) && plainT P n e
    | some (.struct fs) => decide (laidFrom P (plainT P n) 0 fs.toList = some (P.cellsOf t))
    | _ => false

def TypedF (P : Program) (T : TypeId → List D → Prop) : List Field → List D → Prop
  | [], ds => ds = []
  | f :: fs, ds => ∃ a b, ds = a ++ b ∧ a.length = P.cellsOf f.type ∧ T f.type a ∧ TypedF P T fs b
def Typed (P : Program) : Nat → TypeId → List D → Prop
  | 0, _, _ => False
  | n + 1, t, ds => match P.underlying t with
    | some .bool => ∃ b, ds = [.bool b]
    | some (.int k) => ∃ m, ds = [.int k m] ∧ (Lit.int k m).wf = true
    | some .string => ∃ s, ds = [.str s] ∧ s.length ≤ maxLen
    | some (.slice e) => ∃ rows : List (List D), ds = [.sl (P.cellsOf e) rows] ∧ rows.length ≤ maxLen ∧ ∀ r ∈ rows, r.length = P.cellsOf e ∧ Typed P n e r
    | some (.struct fs) => TypedF P (Typed P n) fs.toList ds
    | _ => False

def There (w : World) (b : Nat) : Prop := b < w.heap.size

def RepL (w : World) (cs : List Value) (ds : List D) : Prop := ds.length = cs.length ∧ ∀ (j : Nat) (v : Value) (d : D), cs[j]? = some v → ds[j]? = some d → RepD w (There w) v d

theorem RepL.append {a b : List Value} {x y : List D} (h1 : RepL w a x) (h2 : RepL w b y) : RepL w (a ++ b) (x ++ y) := by
  refine ⟨by simp [h1.1, h2.1], fun j v d hv hd => ?_⟩
  by_cases hj : j < a.length
  · rw [List.getElem?_append_left hj] at hv
    rw [List.getElem?_append_left (by rw [h1.1]; exact hj)] at hd
    exact h1.2 j v d hv hd
  · rw [List.getElem?_append_right (by omega)] at hv
    rw [List.getElem?_append_right (by rw [h1.1]; omega), h1.1] at hd
    exact h2.2 _ v d hv hd

theorem RepL.one {v : Value} {d : D} (h : RepD w (There w) v d) : RepL w [v] [d] := by
  refine ⟨rfl, fun j u x hu hx => ?_⟩
  cases j with
  | zero => simp at hu hx; subst hu; subst hx; exact h
  | succ j => simp at hu

theorem fields_rep (T : TypeId → Bool) (Ty : TypeId → List D → Prop) (g : TypeId → List Value → Option (DataW H × List MemPlace))
    (hT : ∀ t cs x, T t = true → g t cs = some x → cs.length = P.cellsOf t → ∃ ds, RepL w cs ds ∧ Ty t ds) (cs : List Value) :
    ∀ (fs : List Field) (off : Nat) (xs : List (DataW H × List MemPlace)), laidFrom P T off fs = some cs.length → (fs.mapM fun f => g f.type ((cs.drop f.offset).take (P.cellsOf f.type))) = some xs → ∃ ds, RepL w (cs.drop off) ds ∧ TypedF P Ty fs ds
  | [], off, xs, hl, _ => by
    simp only [laidFrom, Option.some.injEq] at hl
    refine ⟨[], ⟨by simp [hl], fun j v d _ hd => by simp at hd⟩, rfl⟩
  | f :: fs, off, xs, hl, hm => by
    simp only [laidFrom] at hl
    split at hl
    case isFalse => cases hl
    rename_i hc
    obtain ⟨ho, ht⟩ := hc
    rw [List.mapM_cons] at hm
    cases hg : g f.type ((cs.drop f.offset).take (P.cellsOf f.type)) with
    | none => rw [hg] at hm; cases hm
    | some x =>
      rw [hg] at hm
      cases hr : fs.mapM (fun f => g f.type ((cs.drop f.offset).take (P.cellsOf f.type))) with
      | none => rw [hr] at hm; cases hm
      | some ys =>
        have hle : ∀ (fs : List Field) (off m : Nat), laidFrom P T off fs = some m → off ≤ m := by
          intro fs
          induction fs with
          | nil => intro off m h; simp only [laidFrom, Option.some.injEq] at h; omega
          | cons f fs ih =>
            intro off m h
            simp only [laidFrom] at h
            split at h
            · have := ih _ _ h; omega
            · cases h
        have hb := hle _ _ _ hl
        obtain ⟨ds, h1, h2⟩ := fields_rep T Ty g hT cs fs _ ys hl hr
        have hlen : ((cs.drop off).take (P.cellsOf f.type)).length = P.cellsOf f.type := by
          rw [List.length_take, List.length_drop]; omega
        rw [ho] at hg
        obtain ⟨asx, h3, h4⟩ := hT f.type _ x ht hg hlen
        refine ⟨asx ++ ds, ?_, asx, ds, rfl, by rw [h3.1]; exact hlen, h4, h2⟩
        have := h3.append h1
        rwa [← List.drop_drop, List.take_append_drop] at this

theorem cells?_get {base n : Nat} {a : Addr} {cs : List Value} (h : w.cells? base a n = some cs) : cs.length = n ∧ ∀ (i : Nat) (v : Value), cs[i]? = some v → w.cell? (a.add i) = some v := by
  unfold World.cells? at h
  split at h
  case isFalse => cases h
  have key : ∀ (l : List Nat) (cs : List Value), (l.mapM fun i => w.cell? (a.add i)) = some cs → cs.length = l.length ∧ ∀ (i : Nat) (v : Value), cs[i]? = some v → ∃ j : Nat, l[i]? = some j ∧ w.cell? (a.add j) = some v := by
    intro l
    induction l with
    | nil => intro cs h; simp at h; subst h; exact ⟨rfl, fun i v h => by simp at h⟩
    | cons m l ih =>
      intro cs h
      rw [List.mapM_cons] at h
      cases hm : w.cell? (a.add m) with
      | none => rw [hm] at h; cases h
      | some v =>
        rw [hm] at h
        cases hr : l.mapM (fun i => w.cell? (a.add i)) with
        | none => rw [hr] at h; cases h
        | some vs =>
          rw [hr] at h
          obtain rfl : v :: vs = cs := Option.some.inj h
          obtain ⟨h1, h2⟩ := ih vs hr
          refine ⟨by simp [h1], fun i u hu => ?_⟩
          cases i with
          | zero => simp at hu; subst hu; exact ⟨m, rfl, hm⟩
          | succ i => simpa using h2 i u (by simpa using hu)
  obtain ⟨h1, h2⟩ := key _ _ h
  refine ⟨by simpa using h1, fun i v hv => ?_⟩
  obtain ⟨j, hj, hc⟩ := h2 i v hv
  have : j = i := by
    rw [List.getElem?_range] at hj
    · simpa using hj.symm
    · have := (List.getElem?_eq_some_iff.1 hv).1
      simp at h1; omega
  subst this
  exact hc

theorem exists_list {α : Type} {Q : Nat → α → Prop} : ∀ (n : Nat), (∀ i, i < n → ∃ y, Q i y) → ∃ l : List α, l.length = n ∧ ∀ (i : Nat) (y : α), l[i]? = some y → Q i y
  | 0, _ => ⟨[], rfl, fun i y h => by simp at h⟩
  | n + 1, h => by
    obtain ⟨l, h1, h2⟩ := exists_list n (fun i hi => h i (by omega))
    obtain ⟨y, hy⟩ := h n (by omega)
    refine ⟨l ++ [y], by simp [h1], fun i z hz => ?_⟩
    by_cases hi : i < l.length
    · rw [List.getElem?_append_left hi] at hz
      exact h2 i z hz
    · rw [List.getElem?_append_right (by omega)] at hz
      have : i - l.length = 0 := by
        rcases Nat.eq_zero_or_pos (i - l.length) with h | h
        · exact h
        · rw [List.getElem?_eq_none (by simp; omega)] at hz; cases hz
      rw [this] at hz
      simp at hz
      subst hz
      have : i = n := by omega
      subst this
      exact hy

theorem trod_rep : ∀ (n fuel : Nat) (t : TypeId) (cs : List Value) (x : DataW H × List MemPlace), plainT P n t = true → DataW.trod enc P w 0 spare held fuel t cs = some x → ∃ ds, RepL w cs ds ∧ Typed P n t ds
  | 0, _, _, _, _, h, _ => by simp [plainT] at h
  | _ + 1, 0, _, _, _, _, h => by simp [DataW.trod] at h
  | n + 1, fuel + 1, t, cs, x, hp, h => by
    simp only [plainT] at hp
    cases ht : P.underlying t with
    | none => simp [ht] at hp
    | some d =>
      simp only [Typed, ht] at hp ⊢
      cases d with
      | bool =>
        have : ∃ b, cs = [.bool b] := by
          unfold DataW.trod at h
          simp only [ht] at h
          split at h <;> first | (exact ⟨_, rfl⟩) | (simp_all; done) | (cases h; done)
        obtain ⟨b, rfl⟩ := this
        exact ⟨_, .one (.bool b), b, rfl⟩
      | int k =>
        have : ∃ m, cs = [.int k m] ∧ (Lit.int k m).wf = true := by
          unfold DataW.trod at h
          simp only [ht] at h
          split at h <;> first | (cases h; done) | skip
          all_goals (try (simp_all; done))
          all_goals (split at h <;> first | (cases h; done) | skip)
          all_goals (simp_all)
        obtain ⟨m, rfl, hw⟩ := this
        exact ⟨_, .one (.int k m), m, rfl, hw⟩
      | string =>
        have : ∃ b : ByteArray, cs = [.string b] ∧ b.size ≤ maxLen := by
          unfold DataW.trod at h
          simp only [ht] at h
          split at h <;> first | (cases h; done) | skip
          all_goals (try (simp_all; done))
          all_goals (split at h <;> first | (cases h; done) | skip)
          all_goals (simp_all)
        obtain ⟨b, rfl, hb⟩ := this
        exact ⟨_, .one (.str b), _, rfl, by simpa using hb⟩
      | slice e =>
        simp only [Bool.and_eq_true, decide_eq_true_eq] at hp
        rcases open_slice ht h with ⟨rfl, _⟩ | ⟨a, len, cap, m, n', Dd, Pl, rfl, _, hlc, hcm, hm, _, hel⟩
        · exact ⟨_, .one (.sl0 none 0 (P.cellsOf e) (fun _ => rfl)), [], rfl, by simp, fun r hr => by simp at hr⟩
        · have hml : len ≤ m := by rw [hm]; split <;> omega
          have rowsOf : ∀ i, i < len → ∃ ds, ∃ cs', w.cells? 0 (a.add (i * P.cellsOf e)) (P.cellsOf e) = some cs' ∧ RepL w cs' ds ∧ Typed P n e ds := by
            intro i hi
            obtain ⟨cs', h1, h2⟩ := hel i (by omega)
            obtain ⟨ds, h3, h4⟩ := trod_rep n n' e cs' _ hp.2 h2
            exact ⟨ds, cs', h1, h3, h4⟩
          obtain ⟨rows, hr1, hr2⟩ := exists_list len rowsOf
          have typed : ∀ r ∈ rows, r.length = P.cellsOf e ∧ Typed P n e r := fun r hr => by
            obtain ⟨i, hi⟩ := List.getElem?_of_mem hr
            obtain ⟨cs', h1, h3, h4⟩ := hr2 i r hi
            exact ⟨by rw [h3.1, (cells?_get h1).1], h4⟩
          refine ⟨[.sl (P.cellsOf e) rows], .one ?_, rows, rfl, by omega, typed⟩
          by_cases hz : len = 0
          · have : rows = [] := List.eq_nil_of_length_eq_zero (by omega)
            subst this
            subst hz
            exact .sl0 (some a) cap _ (fun h => by cases h)
          · have h0 : 0 < rows.length := by omega
            obtain ⟨cs0, g1, g2, _⟩ := hr2 0 rows[0] (List.getElem?_eq_getElem h0)
            obtain ⟨c1, c2⟩ := cells?_get g1
            have hv := c2 0 cs0[0] (List.getElem?_eq_getElem (by omega))
            simp only [Nat.zero_mul] at hv
            have hsp : a.spot = none := by simpa [Addr.add] using World.cell?_spot hv
            have hblk : a.block < w.heap.size := by
              unfold World.cell? at hv
              split at hv
              · rename_i hh
                have := (Array.getElem?_eq_some_iff.1 hh).1
                simpa [Addr.add] using this
              · cases hv
            obtain ⟨ab, ao, asx⟩ := a
            simp only at hsp hblk
            subst hsp
            have cellat : ∀ (i j : Nat) (r : List D) (d : D), rows[i]? = some r → r[j]? = some d → ∃ v, w.cell? ⟨ab, ao + (i * P.cellsOf e + j), none⟩ = some v ∧ RepD w (There w) v d := by
              intro i j r d hi hj
              obtain ⟨cs', h1, h3, _⟩ := hr2 i r hi
              have hjl : j < cs'.length := by rw [← h3.1]; exact (List.getElem?_eq_some_iff.1 hj).1
              refine ⟨cs'[j], ?_, h3.2 j _ d (List.getElem?_eq_getElem hjl) hj⟩
              have := (cells?_get h1).2 j _ (List.getElem?_eq_getElem hjl)
              rw [add_lit, add_lit, Nat.add_assoc] at this
              exact this
            refine .sl ab ao len cap (P.cellsOf e) rows (fun i j => (w.cell? ⟨ab, ao + (i * P.cellsOf e + j), none⟩).getD default) hr1 hlc hblk (fun r hr => (typed r hr).1) (fun i j r d hi hj => ?_) (fun i j r d hi hj => ?_)
            · obtain ⟨v, hv, _⟩ := cellat i j r d hi hj
              rw [hv]; rfl
            · obtain ⟨v, hv, hR⟩ := cellat i j r d hi hj
              rw [hv]; exact hR
      | struct fs =>
        simp only [decide_eq_true_eq] at hp
        have hs : cs.length = P.cellsOf t ∧ ∃ xs, (fs.toList.mapM fun f => DataW.trod enc P w 0 spare held fuel f.type ((cs.drop f.offset).take (P.cellsOf f.type))) = some xs := by
          unfold DataW.trod at h
          simp only [ht] at h
          split at h
          · rename_i hl
            simp only [Option.map_eq_some_iff] at h
            obtain ⟨xs, hx, _⟩ := h
            exact ⟨hl, xs, hx⟩
          · cases h
        obtain ⟨hl, xs, hx⟩ := hs
        obtain ⟨ds, h1, h2⟩ := fields_rep (plainT P n) (Typed P n) (fun t cs => DataW.trod enc P w 0 spare held fuel t cs) (fun t cs x hp h _ => trod_rep n fuel t cs x hp h) cs fs.toList 0 xs (by rw [hl]; exact hp) hx
        exact ⟨ds, by simpa using h1, h2⟩
      | _ => simp at hp

end Go.Vm
end

section
namespace Go.Vm
open Go.RowKit Go.Deep

variable {H : Type} {enc : TypeId × Value → H} {P : Program} {w : World} {spare : Nat → Bool} {held : Bool}

def argV (agg : Bool) (ds : List D) : V := if agg then .agg (ds.map (.d false)) else match ds with
  | [d] => .d false d
  | _ => .junk

theorem single {v : Value} {d : D} {base : Nat} (hag : ∀ cs, v ≠ .agg cs) (h : RepL w v.cells.toList [d]) : RepV w (There w) base (fun _ => none) v (argV false [d]) := by
  have hc : v.cells = #[v] := by
    cases v with
    | agg cs => exact absurd rfl (hag cs)
    | _ => rfl
  rw [hc] at h
  exact .d _ _ _ (h.2 0 v d rfl rfl)

theorem arg_rep {n : Nat} {t : TypeId} {v : Value} {d : DataW H} {ps : List MemPlace} {r : Reach} {b0 base : Nat} (hp : plainT P n t = true) (hv : Value.okWide P w r b0 t v) (h : DataW.Trod enc P w 0 spare held t v d ps) :
    ∃ ds, Typed P n t ds ∧ RepV w (There w) base (fun _ => none) v (argV (aggOf P t) ds) := by
  obtain ⟨fuel, h⟩ := h
  obtain ⟨ds, h1, h2⟩ := trod_rep n fuel t v.cells.toList _ hp h
  refine ⟨ds, h2, ?_⟩
  cases n with
  | zero => simp [plainT] at hp
  | succ n =>
    simp only [plainT] at hp
    cases ht : P.underlying t with
    | none => simp [ht] at hp
    | some td =>
      simp only [ht] at hp
      have ha : aggOf P t = isAggD td := by simp [aggOf, ht]
      cases td with
      | struct fs =>
        simp only [Value.okWide, ht] at hv
        obtain ⟨cs, rfl, _, _⟩ := hv
        rw [ha]
        simp only [isAggD, argV, if_true]
        have hlen : ds.length = cs.size := by simpa [Value.cells] using h1.1
        refine .agg _ _ (by simp [hlen]) (fun j u x hu hx => ?_) (fun u hu => ?_)
        · simp only [List.getElem?_map, Option.map_eq_some_iff] at hx
          obtain ⟨y, hy, rfl⟩ := hx
          exact .d _ _ _ (h1.2 j u y (by simpa [Value.cells] using hu) hy)
        · obtain ⟨j, hj⟩ := Array.getElem?_of_mem hu
          have hjl : j < ds.length := by rw [hlen]; exact (Array.getElem?_eq_some_iff.1 hj).1
          exact (h1.2 j u _ (by simpa [Value.cells] using hj) (List.getElem?_eq_getElem hjl)).oneCell
      | bool =>
        simp only [Typed, ht] at h2
        obtain ⟨b, rfl⟩ := h2
        have hag : ∀ cs, v ≠ .agg cs := by rintro cs rfl; simp [Value.okWide, ht, Cell.okWide, Cell.ok] at hv
        rw [ha]
        exact single hag h1
      | int k =>
        simp only [Typed, ht] at h2
        obtain ⟨m, rfl, _⟩ := h2
        have hag : ∀ cs, v ≠ .agg cs := by rintro cs rfl; simp [Value.okWide, ht, Cell.okWide, Cell.ok] at hv
        rw [ha]
        exact single hag h1
      | string =>
        simp only [Typed, ht] at h2
        obtain ⟨m, rfl, _⟩ := h2
        have hag : ∀ cs, v ≠ .agg cs := by rintro cs rfl; simp [Value.okWide, ht, Cell.okWide, Cell.ok] at hv
        rw [ha]
        exact single hag h1
      | slice e =>
        simp only [Typed, ht] at h2
        obtain ⟨m, rfl, _⟩ := h2
        have hag : ∀ cs, v ≠ .agg cs := by rintro cs rfl; simp [Value.okWide, ht, Cell.okWide, Cell.ok] at hv
        rw [ha]
        exact single hag h1
      | _ => simp at hp

end Go.Vm
end

section
namespace Go.Vm
open Go.Proofs
set_option maxRecDepth 100000

theorem rows_map {α : Type} {e : α → List D} {Q : α → Prop} : ∀ rows : List (List D), (∀ r ∈ rows, ∃ x, r = e x ∧ Q x) → ∃ l : List α, rows = l.map e ∧ ∀ x ∈ l, Q x
  | [], _ => ⟨[], rfl, fun x h => by simp at h⟩
  | r :: rows, h => by
    obtain ⟨x, h1, h2⟩ := h r (by simp)
    obtain ⟨l, h3, h4⟩ := rows_map rows (fun r hr => h r (List.mem_cons_of_mem _ hr))
    exact ⟨x :: l, by rw [h1, h3]; rfl, fun y hy => by
      rcases List.mem_cons.1 hy with rfl | hy
      · exact h2
      · exact h4 y hy⟩

theorem cells62 : Tryz.prog.cellsOf 62 = 2 := by kernel_rfl
theorem cells50 : Tryz.prog.cellsOf 50 = 3 := by kernel_rfl
def I64 (n : Int) : Prop := -9223372036854775808 ≤ n ∧ n ≤ 9223372036854775807
theorem i64_wf {n : Int} (h : (Lit.int .i64 n).wf = true) : I64 n := by
  simp only [Lit.wf, Bool.and_eq_true, decide_eq_true_eq] at h
  have e1 : IntKind.i64.min = -9223372036854775808 := by decide
  have e2 : IntKind.i64.max = 9223372036854775807 := by decide
  rw [e1, e2] at h
  exact h

theorem typed_int {n : Nat} {ds : List D} (h : Typed Tryz.prog (n + 1) 3 ds) : ∃ m, ds = [.int .i64 m] ∧ I64 m := by
  simp only [Typed, Tryz.underlying3] at h
  obtain ⟨m, h1, h2⟩ := h
  exact ⟨m, h1, i64_wf h2⟩

theorem cells53 : Tryz.prog.cellsOf 53 = 3 := by kernel_rfl
structure InI (x : Instr) : Prop where
  op : I64 x.op
  a : I64 x.a
  b : I64 x.b
structure InS (s : Shape) : Prop where
  name : (s.name.length : Int) ≤ 9223372036854775807
  fields : I64 s.fields
structure InG (g : Glob) : Prop where
  name : (g.name.length : Int) ≤ 9223372036854775807
  arity : I64 g.arity
  len : (g.code.length : Int) ≤ 9223372036854775807
  code : ∀ x ∈ g.code, InI x
structure InT (t : Table) : Prop where
  sl : (t.shapes.length : Int) ≤ 9223372036854775807
  gl : (t.globals.length : Int) ≤ 9223372036854775807
  shapes : ∀ s ∈ t.shapes, InS s
  globals : ∀ g ∈ t.globals, InG g

theorem InT.ok {t : Table} (h : InT t) : TabOk t :=
  ⟨h.sl, h.gl, fun g hg => (h.globals g hg).len, fun s hs => (h.shapes s hs).name, fun g hg => (h.globals g hg).name, fun g hg x hx => ((h.globals g hg).code x hx).a.2⟩

theorem len_max {α : Type} {l : List α} (h : l.length ≤ maxLen) : (l.length : Int) ≤ 9223372036854775807 := by
  have e : maxLen = 9223372036854775807 := by decide
  omega

theorem typed_str {n : Nat} {ds : List D} (h : Typed Tryz.prog (n + 1) 9 ds) : ∃ s, ds = [.str s] ∧ (s.length : Int) ≤ 9223372036854775807 := by
  simp only [Typed, Tryz.underlying9] at h
  obtain ⟨m, h1, h2⟩ := h
  exact ⟨m, h1, len_max h2⟩

theorem typed_instr {n : Nat} {ds : List D} (h : Typed Tryz.prog (n + 2) 53 ds) : ∃ x, ds = eInstr x ∧ InI x := by
  rw [Typed] at h
  simp only [Tryz.underlying53, TypedF] at h
  obtain ⟨a, r, rfl, _, h1, b, r2, rfl, _, h2, c, r3, rfl, _, h3, rfl⟩ := h
  obtain ⟨x, rfl, hx⟩ := typed_int h1
  obtain ⟨y, rfl, hy⟩ := typed_int h2
  obtain ⟨z, rfl, hz⟩ := typed_int h3
  exact ⟨⟨x, y, z⟩, rfl, ⟨hx, hy, hz⟩⟩

theorem typed_shape {n : Nat} {ds : List D} (h : Typed Tryz.prog (n + 2) 62 ds) : ∃ x, ds = eShape x ∧ InS x := by
  rw [Typed] at h
  simp only [Tryz.underlying62, TypedF] at h
  obtain ⟨a, r, rfl, _, h1, b, r2, rfl, _, h2, rfl⟩ := h
  obtain ⟨x, rfl, hx⟩ := typed_str h1
  obtain ⟨y, rfl, hy⟩ := typed_int h2
  exact ⟨⟨x, y⟩, rfl, ⟨hx, hy⟩⟩

theorem typed_code {n : Nat} {ds : List D} (h : Typed Tryz.prog (n + 3) 48 ds) : ∃ l : List Instr, ds = [.sl 3 (l.map eInstr)] ∧ (l.length : Int) ≤ 9223372036854775807 ∧ ∀ x ∈ l, InI x := by
  rw [Typed] at h
  simp only [Tryz.underlying48, cells53] at h
  obtain ⟨rows, rfl, hl, hr⟩ := h
  obtain ⟨l, rfl, h2⟩ := rows_map (e := eInstr) (Q := InI) rows (fun r h => typed_instr (hr r h).2)
  rw [List.length_map] at hl
  exact ⟨l, rfl, len_max hl, h2⟩

theorem typed_glob {n : Nat} {ds : List D} (h : Typed Tryz.prog (n + 4) 50 ds) : ∃ x, ds = eGlob x ∧ InG x := by
  rw [Typed] at h
  simp only [Tryz.underlying50, TypedF] at h
  obtain ⟨a, r, rfl, _, h1, b, r2, rfl, _, h2, c, r3, rfl, _, h3, rfl⟩ := h
  obtain ⟨x, rfl, hx⟩ := typed_str h1
  obtain ⟨y, rfl, hy⟩ := typed_int h2
  obtain ⟨z, rfl, hz, hz2⟩ := typed_code h3
  exact ⟨⟨x, y, z⟩, rfl, ⟨hx, hy, hz, hz2⟩⟩

theorem typed_table {n : Nat} {ds : List D} (h : Typed Tryz.prog (n + 6) 25 ds) : ∃ t : Table, ds = [.sl 2 (t.shapes.map eShape), .sl 3 (t.globals.map eGlob)] ∧ InT t := by
  rw [Typed] at h
  simp only [Tryz.underlying25, TypedF] at h
  obtain ⟨a, r, rfl, _, h1, b, r2, rfl, _, h2, rfl⟩ := h
  rw [Typed] at h1 h2
  simp only [Tryz.underlying22, Tryz.underlying23, cells62, cells50] at h1 h2
  obtain ⟨rows, rfl, hl, hr⟩ := h1
  obtain ⟨rows2, rfl, hl2, hr2⟩ := h2
  obtain ⟨l, rfl, h3⟩ := rows_map (e := eShape) (Q := InS) rows (fun r h => typed_shape (hr r h).2)
  obtain ⟨l2, rfl, h4⟩ := rows_map (e := eGlob) (Q := InG) rows2 (fun r h => typed_glob (hr2 r h).2)
  rw [List.length_map] at hl hl2
  exact ⟨⟨l, l2⟩, rfl, ⟨len_max hl, len_max hl2, h3, h4⟩⟩

theorem cells4 : Tryz.prog.cellsOf 4 = 1 := by kernel_rfl
theorem typed_bools {n : Nat} {ds : List D} (h : Typed Tryz.prog (n + 2) 47 ds) : ∃ l : List Bool, ds = [.sl 1 (l.map eBool)] ∧ (l.length : Int) ≤ 9223372036854775807 := by
  rw [Typed] at h
  simp only [Tryz.underlying47, cells4] at h
  obtain ⟨rows, rfl, hl, hr⟩ := h
  obtain ⟨l, rfl, _⟩ := rows_map (e := eBool) (Q := fun _ => True) rows (fun r hr' => by
    have h2 := (hr r hr').2
    simp only [Typed, Tryz.underlying4] at h2
    obtain ⟨b, hb⟩ := h2
    exact ⟨b, by first | exact hb | exact hb.1, trivial⟩)
  rw [List.length_map] at hl
  exact ⟨l, rfl, len_max hl⟩
theorem plain47 : plainT Tryz.prog 2 47 = true := by kernel_rfl
theorem plain25 : plainT Tryz.prog 6 25 = true := by kernel_rfl
theorem plain3 : plainT Tryz.prog 1 3 = true := by kernel_rfl

end Go.Vm
end

section
namespace Go.Vm
open Go.ChangeShapes Go.WideShapes Go.ChangeAt Go.RowKit Go.Proofs Go.Proofs.YtjpnaaebfdnccaaGreatDoor
set_option linter.unusedVariables false
set_option maxRecDepth 100000

theorem ownZ : ownKnob Tryz.prog.godebug = none := by kernel_rfl
theorem laidOutZ : laidOutB Tryz.prog = true := by kernel_rfl

def laidZ : List (String × DataW Unit) := [("math/bits.deBruijn32tab", Rows.laid_math_bits_deBruijn32tab), ("math/bits.deBruijn64tab", Rows.laid_math_bits_deBruijn64tab), ("internal/strconv.uint64pow10", Rows.laid_internal_strconv_uint64pow10), ("unicode/utf8.acceptRanges", Rows.laid_unicode_utf8_acceptRanges), ("strconv.ErrRange", Rows.laid_strconv_ErrRange), ("strconv.ErrSyntax", Rows.laid_strconv_ErrSyntax), ("unicode/utf8.first", Rows.laid_unicode_utf8_first)]
def Reads (P : Program) (w : World) (n : String) (d : DataW Unit) : Prop :=
  ∃ g t cs fuel p, P.globalNamed n = some g ∧ (P.globals[g]?).map (·.type) = some t ∧ w.var? P n = some cs ∧ DataW.trod (fun _ => ()) P w 0 (fun _ => true) false fuel t cs.toList = some (d, p)
theorem reads_of {P : Program} {w : World} : ∀ {l : List (String × DataW Unit)} {ps : List MemPlace}, DataW.LaidVars P w l ps → ∀ n d, (n, d) ∈ l → Reads P w n d
  | [], _, _, _, _, hm => by cases hm
  | (n', d') :: r, ps, h, n, d, hm => by
    obtain ⟨g, t, cs, fuel, p, q, h1, h2, h3, h4, h5, _⟩ := h
    rcases List.mem_cons.1 hm with e | e
    · cases e
      exact ⟨g, t, cs, fuel, p, h1, h2, h3, h4⟩
    · exact reads_of h5 n d e
theorem tab_of_reads {P : Program} {W : World} {name : String} {k : IntKind} {zs : List Int} {g : Nat} {t e : TypeId} {n : Nat}
    (hg : P.globalNamed name = some g) (hty : (P.globals[g]?).map (·.type) = some t) (ht : P.underlying t = some (.array n e)) (he : P.underlying e = some (.int k)) (hce : P.cellsOf e = 1) (hct : P.cellsOf t = n)
    (h : Reads P W name (Lib.tabData k zs)) : Lib.TabIs P W name k zs := by
  obtain ⟨g', t', cs, fuel, p, hg', ht', hvar, hd⟩ := h
  obtain rfl := Option.some.inj (hg.symm.trans hg')
  obtain rfl := Option.some.inj (hty.symm.trans ht')
  unfold Lib.TabIs
  rw [hvar, ← Lib.cells_of_tab ht he hce hct hd]

theorem gP10T : (Tryz.prog.globals[0]?).map (·.type) = some 167 := by kernel_rfl
theorem p10Data : (Rows.laid_internal_strconv_uint64pow10 : DataW Unit) = Lib.tabData .u64 Lib.pow10Tab := by kernel_rfl

theorem glob_of_tab {W : World} {name : String} {k : IntKind} {zs : List Int} {g : Nat} (h : Lib.TabIs Tryz.prog W name k zs) (hg : Tryz.prog.globalNamed name = some g) :
    RepD W (There W) (.pointer (some ⟨g, 0, none⟩)) (.ptr (zs.map fun z => .int k z)) ∧ ∃ cs t fz, W.heap[g]? = some (.cells cs t fz) ∧ cs.size = (zs.map fun z => D.int k z).length := by
  have hb : ∃ cs t fz, W.heap[g]? = some (.cells cs t fz) ∧ cs.size = (zs.map fun z => D.int k z).length := by
    unfold Lib.TabIs World.var? at h
    rw [hg] at h
    replace h : (match W.heap[g]? with | some (.cells cs _ _) => some cs | _ => none) = some (zs.map fun z => Value.int k z).toArray := h
    split at h
    · rename_i cs t fz hh
      obtain rfl := Option.some.inj h
      exact ⟨_, t, fz, hh, by simp⟩
    · cases h
  refine ⟨?_, hb⟩
  obtain ⟨cs, t, fz, hh, hsz⟩ := hb
  refine .ptr g 0 _ (fun j => .int k (zs.getD j 0)) ?_ (fun j d hd => ?_) (fun j d hd => ?_)
  · show g < W.heap.size
    rcases Nat.lt_or_ge g W.heap.size with h' | h'
    · exact h'
    · simp [Array.getElem?_eq_none h'] at hh
  · have hj : j < zs.length := by
      rcases Nat.lt_or_ge j zs.length with h' | h'
      · exact h'
      · rw [List.getElem?_eq_none (by simpa using h')] at hd; cases hd
    rw [Nat.zero_add]
    exact h.cell hg j hj
  · rw [List.getElem?_map, Option.map_eq_some_iff] at hd
    obtain ⟨z, hz, rfl⟩ := hd
    have : zs.getD j 0 = z := by rw [List.getD_eq_getElem?_getD, hz]; rfl
    rw [this]
    exact .int k z

theorem glob_of_laidZ {W : World} (h : laidMetH Tryz.prog laidZ W) : GlobRel W (There W) GT := by
  have h' : laidMet Tryz.prog laidZ W := h
  obtain ⟨ps, hv, _⟩ : laidMet Tryz.prog laidZ W := h'
  have h0 := reads_of hv "internal/strconv.uint64pow10" Rows.laid_internal_strconv_uint64pow10 (by simp [laidZ])
  rw [p10Data] at h0
  have t0 := tab_of_reads gP10 gP10T Tryz.underlying167 Tryz.underlying105 (by kernel_rfl) (by kernel_rfl) h0
  intro g cells hg
  match g, hg with
  | 0, hg =>
    obtain rfl := Option.some.inj hg
    rw [if_neg (show ¬ isHandle (Lib.pow10Tab.map fun z => D.int .u64 z) = true from fun e => Bool.noConfusion (show false = true from e))]
    exact glob_of_tab t0 gP10
  | n + 1, hg => cases hg

def flatN : Nat → DataW Unit → List Value
  | _, .lit (.int k n) => [.int k n]
  | n + 1, .agg ps => ps.flatMap (flatN n)
  | _, _ => []
def lay (g : Nat) (d : DataW Unit) (h : Array Obj) : Array Obj := h.modify g fun
  | .cells _ t frozen => .cells (flatN 3 d).toArray t frozen
  | o => o
def setErr (g n : Nat) (h : Array Obj) : Array Obj := h.modify g fun
  | .cells _ t frozen => .cells #[.iface 193 (.pointer (some ⟨n, 0, none⟩))] t frozen
  | o => o
def pushE (h : Array Obj) : Array Obj := ((setErr 5 h.size (setErr 4 (h.size + 1) h)).push (.cells #[.string ⟨#[118, 97, 108, 117, 101, 32, 111, 117, 116, 32, 111, 102, 32, 114, 97, 110, 103, 101]⟩] 195 (0, 0))).push (.cells #[.string ⟨#[105, 110, 118, 97, 108, 105, 100, 32, 115, 121, 110, 116, 97, 120]⟩] 195 (0, 0))
noncomputable def laidWorldZ (os : Os) : World :=
  { World.holding Tryz.prog os ⟨#[], #[], []⟩ with heap := pushE (lay 7 Rows.laid_math_bits_deBruijn64tab (lay 6 Rows.laid_math_bits_deBruijn32tab (lay 3 Rows.laid_unicode_utf8_acceptRanges (lay 2 Rows.laid_unicode_utf8_first (lay 0 Rows.laid_internal_strconv_uint64pow10 (World.holding Tryz.prog os ⟨#[], #[], []⟩).heap))))) }
theorem laid_metZ (os : Os) (args : Array Value) : laidMetH Tryz.prog laidZ ((laidWorldZ os).forCall (fun _ _ => 0) ⟨#[], args, []⟩).memory :=
  laidMetH_of_parts (show laidMet Tryz.prog laidZ _ from (LaidIn.of_run (List.range 20) 8 (by kernel_rfl) (by kernel_rfl) (by kernel_rfl) (by kernel_rfl)).met) (by kernel_rfl)
end Go.Vm
end

section
namespace Go.Proofs.YtjpnaaebfdnccaaGreatDoor.codeEnds
open Go.ChangeShapes Go.WideShapes Go.ChangeAt Go.RowKit Go.Vm Go.ChangeMaps
set_option linter.unusedVariables false

theorem post_below {H : Type} {enc : TypeId × Value → H} {P : Program} {f : Func} {s : ChangeSpec} {apart fresh handsOn again : Bool} {W W' : World} {args : Array Value} {v : Value} {ds gs : List (DataW H)} {before : List MemPlace}
    (hW : DataW.Whole enc P f.params.toList s.vars apart W args.toList ds gs before) (hb : Below W.heap.size W W')
    (hres : ∀ (b : Nat) (sp : Nat → Bool) (hd : Bool), DataW.TrodAll enc P W' b sp hd f.resultTypes.toList (v.resultList f.resultTypes.size) (s.fn H (ds ++ gs)).results [])
    (hargs : ∀ sp : Nat → Bool, (∀ p ∈ before, sp p.block = true) → DataW.TrodAll enc P W' 0 sp true f.params.toList args.toList (s.fn H (ds ++ gs)).args before)
    (hvars : ∀ sp : Nat → Bool, DataW.TrodVars enc P W' sp s.vars (s.fn H (ds ++ gs)).vars [])
    (hok : ∀ (j : Nat) (t : TypeId) (r : Value), f.resultTypes[j]? = some t → (v.resultList f.resultTypes.size)[j]? = some r → Value.okWide P W' .any 0 t r) :
    s.post enc P f apart fresh handsOn again W args v W' := by
  have hlt := hW.lt
  have hsp : ∀ p ∈ before, (fun b => decide (b < W.heap.size)) p.block = true := fun p hp => decide_eq_true (hlt p hp)
  have all := trodAll_append (hargs (fun _ => true) (fun _ _ => rfl)) (hres 0 (fun _ => true) true)
  rw [List.nil_append] at all
  obtain ⟨_, _, _, _, _, hz, hn⟩ := id hW
  refine ⟨ds, gs, before, [], before, [], hW, hres _ _ _, hargs _ hsp, hvars _, hb.frame _, fun _ => ⟨hok, _, _, before, ⟨before, [], all, hvars _, by simp, fun b off hp => ?_, hn⟩, fun p hp _ => hp⟩⟩
  rw [hb.frozen (hlt _ hp)]
  exact hz b off hp

set_option maxRecDepth 100000 in
theorem contract (H : Type) (enc : TypeId × Value → H) (W : World) (base : Nat) (args : Array Value) (ds gs : List (DataW H)) (before : List MemPlace)
    (hval : ∀ (j : Nat) t v, Tryz.f10.params[j]? = some t → args[j]? = some v → Value.okWide Tryz.prog W .any base t v)
    (hW : DataW.Whole enc Tryz.prog Tryz.f10.params.toList Rows.codeEndsSpec.vars false W args.toList ds gs before) (hL : laidMetH Tryz.prog laidZ W) :
    Calls Tryz.prog 10 args W fun e W' => ∃ v, e = .returned v ∧ Rows.codeEndsSpec.post enc Tryz.prog Tryz.f10 false true false false W args v W' := by
  have hW' := hW
  obtain ⟨p, q, hA0, hV, rfl, hfz, hnd⟩ := hW
  have hA : DataW.TrodAll enc Tryz.prog W 0 (fun _ => true) true Tryz.f10.params.toList args.toList ds p := hA0
  rw [Tryz.params10] at hA hval
  obtain ⟨v0, vs0, d0, ds0, p0, q0, hargs, rfl, rfl, h0, r0⟩ := trodAll_cons hA
  obtain ⟨v1, vs1, d1, ds1, p1, q1, rfl, rfl, rfl, h1, r1⟩ := trodAll_cons r0
  obtain ⟨v2, vs2, d2, ds2, p2, q2, rfl, rfl, rfl, h2, r2⟩ := trodAll_cons r1
  obtain ⟨rfl, rfl, rfl⟩ := trodAll_nil r2
  obtain rfl : args = #[v0, v1, v2] := by cases args; simp_all
  obtain ⟨rfl, rfl⟩ := trodVars_none hV
  clear hA0
  simp only [List.append_nil] at hW'
  obtain ⟨e0, ht0, hr0⟩ := arg_rep plain25 (hval 0 25 v0 rfl rfl) h0 (base := W.heap.size)
  obtain ⟨e1, ht1, hr1⟩ := arg_rep plain3 (hval 1 3 v1 rfl rfl) h1 (base := W.heap.size)
  obtain ⟨e2, ht2, hr2⟩ := arg_rep plain47 (hval 2 47 v2 rfl rfl) h2 (base := W.heap.size)
  obtain ⟨t, rfl, hin⟩ := typed_table (n := 0) ht0
  obtain ⟨k, rfl, hk⟩ := typed_int (n := 0) ht1
  obtain ⟨l, rfl, hl⟩ := typed_bools (n := 0) ht2
  have hcall := (law_ends t hin.ok k hk l hl).2 W (There W) #[v0, v1, v2] (fun b h => h) (glob_of_laidZ hL) ⟨rfl, fun j v x hv hx => by
    match j, hv, hx with
    | 0, hv, hx => simp at hv hx; subst hv; subst hx; exact hr0
    | 1, hv, hx => simp at hv hx; subst hv; subst hx; exact hr1
    | 2, hv, hx => simp at hv hx; subst hv; subst hx; exact hr2
    | j + 3, hv, hx => simp at hv⟩
  refine hcall.mono fun e W' ⟨v, F', σ', he, hb, _, hR, _⟩ => ?_
  have hv := hR.bool_inv
  subst hv
  subst he
  have hlt : ∀ x ∈ p0 ++ (p1 ++ p2), x.block < W.heap.size := fun x hx => by simpa using hW'.lt x (by simpa using hx)
  refine ⟨_, rfl, post_below hW' hb (fun _ _ _ => (trodAll_cons_mk (shut_bool Tryz.underlying4 _) trodAll_mk0))
    (fun sp hsp => ?_) (fun _ => rfl) (ok_one (by kernel_rfl) rfl (okWide_bool_mk Tryz.underlying4 _))⟩
  have k0 := WideElems.Trod_stays laidOutZ (by kernel_rfl) (of_decide_eq_true (by kernel_rfl)) h0 (fun x hx => hb.same (hlt x (by simp [hx]))) (fun x hx => hsp x (by simp [hx]))
  have k1 := WideElems.Trod_stays laidOutZ (by kernel_rfl) (of_decide_eq_true (by kernel_rfl)) h1 (fun x hx => hb.same (hlt x (by simp [hx]))) (fun x hx => hsp x (by simp [hx]))
  have k2 := WideElems.Trod_stays laidOutZ (by kernel_rfl) (of_decide_eq_true (by kernel_rfl)) h2 (fun x hx => hb.same (hlt x (by simp [hx]))) (fun x hx => hsp x (by simp [hx]))
  exact trodAll_cons_mk k0 (trodAll_cons_mk k1 (trodAll_mk1 k2))

def wargs : Array Value := #[.agg #[.slice none 0 0, .slice none 0 0], .int .i64 0, .slice none 0 0]
theorem reads (os : Os) {H : Type} (enc : TypeId × Value → H) : ∃ places, DataW.whole enc Tryz.prog ((laidWorldZ os).forCall (fun _ _ => 0) ⟨#[], wargs, []⟩).memory Tryz.f10.params.toList Rows.codeEndsSpec.vars false wargs.toList 8 = some ([.agg [.nil, .nil], .lit (.int .i64 0), .nil], [], places) :=
  ⟨[], by kernel_rfl⟩

set_option maxRecDepth 100000 in
theorem liftedUpto (os : Os) (started : os.Started) (H : Type) (enc : TypeId × Value → H) (F : Stop.Interp) :
    ReturnsInHanded {} Tryz.checked os 10 .any ((Rows.OpenSpec.upto Rows.codeEndsSpec).preRow enc Tryz.prog Tryz.f10 Rows.codeEndsUptoRow.domain false Rows.codeEndsUptoRow.laid) (((Rows.OpenSpec.upto Rows.codeEndsSpec).at F).post enc Tryz.prog Tryz.f10 false true false false) := by
  obtain ⟨places, hx⟩ := reads os enc
  refine returnsInHanded_of_row (C := Tryz.checked) (s := Rows.OpenSpec.upto Rows.codeEndsSpec) ownZ started (by kernel_rfl) Tryz.func10
    (witness_row_at (enc := enc) (C := Tryz.checked) false (laidWorldZ os) wargs rfl (by kernel_rfl) (by kernel_rfl) (by kernel_rfl)
      (OpenSpec.preRow_of_cond 8 hx (by kernel_rfl) (fun k hk => by cases hk; kernel_rfl) (by kernel_rfl) (laid_metZ os wargs))) ?_
  intro W base args ds gs before hval hW _ hcond _ hL _ _
  exact contract H enc W base args ds gs before hval hW hL

theorem saidUpto : Rows.CodeEndsUptoSaid :=
  OpenClaim.holds_of_cond 10 Tryz.f10 rfl rfl rfl rfl rfl rfl rfl ⟨rfl, rfl, rfl, rfl, rfl⟩ rfl rfl rfl rfl rfl (by kernel_rfl) Tryz.func10 (by kernel_rfl)
    (of_decide_eq_true (by kernel_rfl)) (by unfold Func.isWrapper; first | (rw [if_pos (by decide +kernel)]; kernel_rfl) | (rw [if_neg (by decide +kernel)]; exact ⟨rfl, rfl⟩))
    (fun os started H enc _ F => by rw [OpenClaim.pre_eq_preRow]; exact liftedUpto os started H enc F)

theorem plain (f : FuncId) (fn : Func) (hf : Tryz.pinned.checked.prog.funcNamed "sloth/slothlaw17.CodeEnds" = some f) (hfn : Tryz.pinned.checked.prog.funcs[f]? = some fn) :
    true = Tryz.pinned.checked.prog.looks [] ∧ ∀ (j : Nat) t, fn.params[j]? = some t → Tryz.pinned.checked.prog.wantsStandIn t = false := by
  obtain rfl : f = 10 := Option.some.inj ((show Tryz.prog.funcNamed "sloth/slothlaw17.CodeEnds" = some 10 by kernel_rfl).symm.trans hf) |>.symm
  obtain rfl : fn = Tryz.f10 := (Option.some.inj (Tryz.func10.symm.trans hfn)).symm
  refine ⟨by kernel_rfl, fun j t ht => ?_⟩
  rw [Tryz.params10] at ht
  have h25 : Tryz.prog.wantsStandIn 25 = false := by kernel_rfl
  have h3 : Tryz.prog.wantsStandIn 3 = false := by kernel_rfl
  have h47 : Tryz.prog.wantsStandIn 47 = false := by kernel_rfl
  match j, ht with
  | 0, ht => simp at ht; subst ht; exact h25
  | 1, ht => simp at ht; subst ht; exact h3
  | 2, ht => simp at ht; subst ht; exact h47
  | j + 3, ht => simp at ht

theorem cardUpto : Rows.CodeEndsUptoCardSaid :=
  Claim7.holds_tied_plain_at .later [] _ _ _ _ saidUpto (fun _ h => by cases h) (by kernel_rfl) (fun _ h => by cases h) codeEndsUpto_row_tie rfl ⟨rfl, rfl⟩ (by kernel_rfl) rfl plain (by kernel_rfl)
#print axioms cardUpto
end Go.Proofs.YtjpnaaebfdnccaaGreatDoor.codeEnds
end
