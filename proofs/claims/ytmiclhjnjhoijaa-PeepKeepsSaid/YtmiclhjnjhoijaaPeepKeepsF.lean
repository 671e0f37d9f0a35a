/-
  The row of PeepKeeps. Conditions: none.
-/
import Derived.Test.YtmiclhjnjhoijaaPeepKeepsE
import Derived.ProofKit
import Derived.OpenShut
set_option linter.unusedVariables false
set_option linter.unusedSimpArgs false

section
namespace Go.Vm
/- 'sloth/slothlaw19.PeepKeeps' -/
def f4_L0 : C :=
 (.seq
  (.seq
   (.reg [⟨[], [(77, (.bin .lss (.sl 11) (.len false (.ld 1 false (.fa 0 (.sl 1))))))], [], none, [1, 4, 11], 5, [], [], []⟩])
   (.cond (.sl 77)
    .skip
    (.seq
     (.tidy 0 [1, 4])
     (.exit 0))))
  (.seq
   (.block 1
    (.seq
     (.reg [⟨[], [(90, (.eqs true true [2, 0] (.ld 2 true (.ia 2 (.ld 1 false (.fa 0 (.sl 4))) (.sl 11))) (.ld 2 true (.ia 2 (.ld 1 false (.fa 0 (.sl 1))) (.sl 11)))))], [], none, [1, 4, 11], 11, [[], [0], [], [2, 0, 1], [1, 0, 2, 3], [], [5], [], [7, 5, 6], [6, 5, 7, 8], [8, 7, 5, 6, 9, 3, 2, 0, 1, 4]], [], []⟩])
     (.cond (.sl 90)
      (.seq
       (.reg [⟨[], [(2, (.bool false))], [], none, [], 1, [], [], []⟩])
       (.seq
        (.tidy 0 [2])
        .ret))
      .skip)))
   (.reg [⟨[], [(11, (.bin .add (.sl 11) (.int .i64 1)))], [], none, [1, 4], 3, [], [], []⟩])))
def f4_L1 : C :=
 (.seq
  (.seq
   (.reg [⟨[], [(95, (.bin .lss (.sl 12) (.len false (.ld 1 false (.fa 1 (.sl 1))))))], [], none, [1, 4, 12], 5, [], [], []⟩])
   (.cond (.sl 95)
    .skip
    (.seq
     (.tidy 0 [])
     (.exit 2))))
  (.seq
   (.block 3
    (.seq
     (.reg [⟨[(13, .box (.agg (.cons (.str []) (.cons (.int .i64 0) (.cons (.nilsl 3) .nil)))))], [], [], some (none, .store 3 (.sl 13) (.ld 3 true (.ia 3 (.ld 1 false (.fa 1 (.sl 1))) (.sl 12)))), [1, 4, 12, 13], 7, [], [], []⟩])
     (.seq
      (.reg [⟨[(14, .box (.agg (.cons (.str []) (.cons (.int .i64 0) (.cons (.nilsl 3) .nil)))))], [], [], some (none, .store 3 (.sl 14) (.ld 3 true (.ia 3 (.ld 1 false (.fa 1 (.sl 4))) (.sl 12)))), [1, 4, 12, 13, 14], 7, [], [], []⟩])
      (.seq
       (.reg [⟨[], [(128, (.or (.or (.bin .neq (.ld 1 false (.fa 0 (.sl 13))) (.ld 1 false (.fa 0 (.sl 14)))) (.bin .neq (.ld 1 false (.fa 1 (.sl 13))) (.ld 1 false (.fa 1 (.sl 14))))) (.bin .gtr (.len false (.ld 1 false (.fa 2 (.sl 14)))) (.len false (.ld 1 false (.fa 2 (.sl 13)))))))], [], none, [1, 4, 12], 21, [], [], []⟩])
       (.cond (.sl 128)
        (.seq
         (.reg [⟨[], [(2, (.bool false))], [], none, [], 1, [], [], []⟩])
         (.seq
          (.tidy 0 [2])
          .ret))
        .skip)))))
   (.reg [⟨[], [(12, (.bin .add (.sl 12) (.int .i64 1)))], [], none, [1, 4], 3, [], [], []⟩])))
def f4 : Fun := ⟨
 (.seq
  (.reg [⟨[(1, .box (.sl 0))], [], [(.bool false)], none, [1], 2, [], [], []⟩])
  (.seq
   (.reg [⟨[], [(3, (.call 6 .nil))], [], none, [1], 2, [], [], []⟩])
   (.seq
    (.reg [⟨[(4, .box (.agg (.cons (.nilsl 2) (.cons (.nilsl 3) .nil))))], [(20, (.ext 1 (.call 9 (.cons (.ld 2 true (.sl 1)) .nil))))], [], some (none, .store 2 (.sl 4) (.ext 0 (.call 9 (.cons (.ld 2 true (.sl 1)) .nil)))), [1, 3, 4], 7, [], [], []⟩, ⟨[], [(5, (.sl 20))], [], none, [1, 3, 4], 1, [], [], []⟩])
    (.seq
     (.seq
      (.reg [⟨[], [(26, (.or (.un .not (.sl 3)) (.bin .neq (.sl 5) (.int .i64 0))))], [], none, [1, 3, 4, 5], 6, [], [], []⟩])
      (.cond (.sl 26)
       (.seq
        (.reg [⟨[], [(6, (.call 12 (.cons (.ld 2 true (.sl 1)) .nil)))], [], none, [3, 5], 3, [], [], []⟩])
        (.seq
         (.reg [⟨[], [(2, (.and (.sl 3) (.bin .eql (.sl 5) (.sl 6))))], [], none, [], 7, [], [], []⟩])
         (.seq
          (.tidy 0 [2])
          .ret)))
       .skip))
     (.seq
      (.reg [⟨[], [(7, (.call 12 (.cons (.ld 2 true (.sl 4)) .nil)))], [], none, [1, 4], 3, [], [], []⟩])
      (.seq
       (.reg [⟨[(8, .box (.agg (.cons (.nilsl 2) (.cons (.nilsl 3) .nil))))], [(41, (.ext 1 (.call 9 (.cons (.ld 2 true (.sl 4)) .nil))))], [], some (none, .store 2 (.sl 8) (.ext 0 (.call 9 (.cons (.ld 2 true (.sl 4)) .nil)))), [1, 4, 7, 8], 7, [], [], []⟩, ⟨[], [(9, (.sl 41))], [], none, [1, 4, 7, 8], 1, [], [], []⟩])
       (.seq
        (.reg [⟨[], [(10, (.call 10 (.cons (.ld 2 true (.sl 4)) (.cons (.ld 2 true (.sl 8)) .nil))))], [], none, [1, 4, 7, 9], 4, [], [], []⟩])
        (.seq
         (.seq
          (.reg [⟨[], [(72, (.or (.or (.or (.or (.bin .neq (.sl 7) (.int .i64 0)) (.bin .neq (.sl 9) (.int .i64 0))) (.un .not (.sl 10))) (.bin .neq (.len false (.ld 1 false (.fa 1 (.sl 4)))) (.len false (.ld 1 false (.fa 1 (.sl 1)))))) (.bin .neq (.len false (.ld 1 false (.fa 0 (.sl 4)))) (.len false (.ld 1 false (.fa 0 (.sl 1)))))))], [], none, [1, 4], 28, [], [], []⟩])
          (.cond (.sl 72)
           (.seq
            (.reg [⟨[], [(2, (.bool false))], [], none, [], 1, [], [], []⟩])
            (.seq
             (.tidy 0 [2])
             .ret))
           .skip))
         (.seq
          (.seq
           (.reg [⟨[], [(11, (.int .i64 0))], [], none, [1, 4], 1, [], [], []⟩])
           (.block 0
            (.seq (.tidy 0 [1, 4, 11]) (.loop (.seq (.tidy 0 [1, 4, 11]) f4_L0)))))
          (.seq
           (.seq
            (.reg [⟨[], [(12, (.int .i64 0))], [], none, [1, 4], 1, [], [], []⟩])
            (.block 2
             (.seq (.tidy 0 [1, 4, 12]) (.loop (.seq (.tidy 0 [1, 4, 12]) f4_L1)))))
           (.seq
            (.reg [⟨[], [(2, (.bool true))], [], none, [], 1, [], [], []⟩])
            (.seq
             (.tidy 0 [2])
             .ret)))))))))))),
 [(.sl 2)], false⟩
theorem f4_ok : funOk Go.Proofs.Try.prog 4 0 1 f4 = true := by kernel_rfl


def K12' (K : Cx) : Prop := ∀ t : Table, TabOk t → K.call 12 [tabV false false t] = some (.d false (.int .i64 (checkS t)), [])

theorem keeps_shapes (K : Cx) (t : Table) (X : V) (hX : X = .fs true 3 [] ∨ ∃ R : List Glob, X = .d true (.sl 3 (R.map eGlob))) (hl : t.shapes.length ≤ 2000) : ∀ (k i : Nat), i + k = t.shapes.length →
    lp K 0 [1, 4, 11] f4_L0 ⟨[(1, .ptr 0 0 0), (4, .ptr 1 0 0), (11, .d false (.int .i64 i))], [(0, .mix 2 [[.d false (.sl 2 (t.shapes.map eShape)), .d false (.sl 3 (t.globals.map eGlob))]]), (1, .mix 2 [[.d true (.sl 2 (t.shapes.map eShape)), X]])], 2, []⟩ =
    some (.exit 0, ⟨[(1, .ptr 0 0 0), (4, .ptr 1 0 0)], [(0, .mix 2 [[.d false (.sl 2 (t.shapes.map eShape)), .d false (.sl 3 (t.globals.map eGlob))]]), (1, .mix 2 [[.d true (.sl 2 (t.shapes.map eShape)), X]])], 2, []⟩) := by
  intro k
  induction k with
  | zero =>
    intro i hi
    rw [lp_un f4_L0.eq_1]
    rcases hX with rfl | ⟨R, rfl⟩
    · simp (disch := first | decide | omega | (simp only [LN]; omega) | (simp only [LN]; done) | fail) only [SV, Nat.reduceBEq, beq_self_eq_true, evFa, Nat.add_zero, List.getElem?_cons_zero, evLen, evBin, intBin, decide_false, if_true, V.refs, Bool.or_self, reduceCtorEq, or_self, not_false_eq_true, and_self, decide_true, Bool.and_self, Bool.or_false, Bool.or_true, cond_false, cond_true, Nat.zero_add, Nat.reduceAdd]
    · simp (disch := first | decide | omega | (simp only [LN]; omega) | (simp only [LN]; done) | fail) only [SV, Nat.reduceBEq, beq_self_eq_true, evFa, Nat.add_zero, List.getElem?_cons_zero, evLen, evBin, intBin, decide_false, if_true, V.refs, Bool.or_self, reduceCtorEq, or_self, not_false_eq_true, and_self, decide_true, Bool.and_self, Bool.or_false, Bool.or_true, cond_false, cond_true, Nat.zero_add, Nat.reduceAdd]
  | succ k ih =>
    intro i hi
    have hcast : ((i + 1 : Nat) : Int) = (i : Int) + 1 := by omega
    have ih := ih (i + 1) (by omega)
    rw [hcast] at ih
    rw [lp_un f4_L0.eq_1]
    rcases hX with rfl | ⟨R, rfl⟩
    · simp (disch := first | decide | omega | (simp only [LN]; omega) | (simp only [LN]; done) | fail) only [SV, Nat.reduceBEq, beq_self_eq_true, evFa, Nat.add_zero, List.getElem?_cons_zero, evLen, evBin, intBin, decide_true, if_true, eShape_eq, D.flat, Nat.zero_add, Nat.reduceAdd, Nat.le_refl, evEqs, cellsEq, cellEq, Bool.and_self, Bool.not_true, V.refs, Bool.or_self, reduceCtorEq, or_self, not_false_eq_true, and_self, Bool.or_false, Bool.or_true, cond_false, cond_true]
      exact ih
    · simp (disch := first | decide | omega | (simp only [LN]; omega) | (simp only [LN]; done) | fail) only [SV, Nat.reduceBEq, beq_self_eq_true, evFa, Nat.add_zero, List.getElem?_cons_zero, evLen, evBin, intBin, decide_true, if_true, eShape_eq, D.flat, Nat.zero_add, Nat.reduceAdd, Nat.le_refl, evEqs, cellsEq, cellEq, Bool.and_self, Bool.not_true, V.refs, Bool.or_self, reduceCtorEq, or_self, not_false_eq_true, and_self, Bool.or_false, Bool.or_true, cond_false, cond_true]
      exact ih

theorem keeps_globals (K : Cx) (t : Table) (R : List Glob) (hR : R.length = t.globals.length) (hk : ∀ i : Nat, i < t.globals.length → (nth R i).name = (nth t.globals i).name ∧ (nth R i).arity = (nth t.globals i).arity ∧ (nth R i).code.length ≤ (nth t.globals i).code.length) (hl : t.globals.length ≤ 2000) : ∀ (k i : Nat), i + k = t.globals.length →
    lp K 0 [1, 4, 12] f4_L1 ⟨[(1, .ptr 0 0 0), (4, .ptr 1 0 0), (12, .d false (.int .i64 i))], [(0, .mix 2 [[.d false (.sl 2 (t.shapes.map eShape)), .d false (.sl 3 (t.globals.map eGlob))]]), (1, .mix 2 [[.d true (.sl 2 (t.shapes.map eShape)), .d true (.sl 3 (R.map eGlob))]])], 2, []⟩ =
    some (.exit 2, ⟨[], [], 0, []⟩) := by
  intro k
  induction k with
  | zero =>
    intro i hi
    rw [lp_un f4_L1.eq_1]
    simp (disch := first | decide | omega | (simp only [LN]; omega) | (simp only [LN]; done) | fail) only [SV, Nat.reduceBEq, beq_self_eq_true, evFa, Nat.zero_add, List.getElem?_cons_zero, evLen, evBin, intBin, decide_false, if_true, decide_true, Bool.and_self]
  | succ k ih =>
    intro i hi
    have hcast : ((i + 1 : Nat) : Int) = (i : Int) + 1 := by omega
    obtain ⟨h1, h2, h3⟩ := hk i (by omega)
    have ih := ih (i + 1) (by omega)
    rw [hcast] at ih
    rw [lp_un f4_L1.eq_1]
    generalize hg : nth t.globals (i : Int) = g at h1 h2 h3
    generalize hh : nth R (i : Int) = r at h1 h2 h3
    have e3 : decide ((g.code.length : Int) < (r.code.length : Int)) = false := decide_eq_false (by omega)
    clear hk
    simp (disch := first | decide | omega | (simp only [LN]; omega) | (simp only [LN]; done) | fail) only [SV, Nat.reduceBEq, beq_self_eq_true, evFa, Nat.zero_add, List.getElem?_cons_zero, evLen, evBin, intBin, decide_true, if_true, V.laid, V.cells, Nat.reduceAdd, hg, eGlob_eq, D.flat, Bool.false_eq_true, if_false, Nat.le_refl, Bool.and_self, lose, hh, h1, h2, Nat.add_zero, strBin, Bool.not_true, bne_self_eq_false, Bool.or_self, decide_false, V.refs, reduceCtorEq, or_self, not_false_eq_true, and_self, Bool.or_false, Bool.or_true, cond_false, cond_true]
    exact ih

theorem keeps_A (K : Cx) (h6 : K6 K) (h9 : K9 K) (h12 : K12' K) (t : Table) (ht : TabOk t) (hz : checkS t ≠ 0) :
    runFun K f4 [tabV false false t] [] = some (.d false (.bool true), [], []) := by
  have c0 := h9 t ht
  have c1 := h12 t ht
  unfold K6 at h6
  unfold peepV at c0
  rw [if_neg hz] at c0
  have d0 : (checkS t != 0) = true := by simpa using hz
  have hgl := ht.gl
  clear hz ht
  unfold tabV at c0 c1 ⊢
  simp (disch := first | decide | omega | (simp only [LN]; omega) | (simp only [LN]; done) | fail) only [SV, f4, Nat.zero_add, beq_self_eq_true, V.laid, V.cells, Nat.reduceAdd, if_true, Nat.reduceBEq, Bool.and_self, Bool.not_true, Bool.and_false, Bool.false_and, h6, V.new, V.new1, D.flat, Bool.or_true, Bool.false_eq_true, if_false, List.getElem?_cons_zero, Nat.le_refl, V.own, V.own1, Bool.or_self, Bool.and_true, V.flatV, V.flat1, Bool.not_false, view, viewD, c0, evExt, List.getElem?_cons_succ, lose, evUn, evBin, intBin, d0, c1, V.refs, decide_true, oneOr, finV, finA, finC]

theorem sameS_self (t : Table) : sameS t t = true := by simp [sameS]

theorem keeps_B (K : Cx) (hloc : ∀ f, K.loc f = true) (h6 : K6 K) (h9 : K9 K) (h10 : K10 K) (h12 : K12' K) (t : Table) (ht : TabOk t) (hz : checkS t = 0) :
    runFun K f4 [tabV false false t] [] = some (.d false (.bool true), [], []) := by
  have c0 := h9 t ht
  have hf := (fine_iff t).1 hz
  have hu := fine_done hf
  have ou := ok_done hf ht
  have hgr := greatS_f hf.great
  have c1 := h9 _ ou
  have c2 := h10 _ (doneT t) ou
  have c3 := h12 _ ou
  rw [(fine_iff _).2 hu] at c3
  rw [sameS_self] at c2
  unfold K6 at h6
  unfold peepV at c0 c1
  rw [if_pos hz] at c0
  rw [if_pos ((fine_iff _).2 hu), done_done hf] at c1
  have hk : ∀ i : Nat, i < t.globals.length → (nth (t.globals.map (doneG betterS)) i).name = (nth t.globals i).name ∧ (nth (t.globals.map (doneG betterS)) i).arity = (nth t.globals i).arity ∧ (nth (t.globals.map (doneG betterS)) i).code.length ≤ (nth t.globals i).code.length := by
    intro i hi
    rw [nth_map _ _ _ hi]
    exact ⟨rfl, rfl, (fine_ok hf (nth_mem (by omega) (by omega))).2.1⟩
  have hgl := hgr.2.1
  have hsl := hgr.1
  unfold tabV at c0 c1 c2 c3 ⊢
  simp only [doneT] at c1 c2 c3
  have hlen : (t.globals.map (doneG betterS)).length = t.globals.length := by simp
  have hn : t.globals = [] ∨ t.globals.map (doneG betterS) ≠ [] := by
    by_cases h : t.globals = []
    · exact .inl h
    · right; simpa using h
  generalize t.globals.map (doneG betterS) = R at c0 c1 c2 c3 hk hlen hn
  clear hf hu ou hgr hz ht
  rcases hn with h | h
  · have hR : R = [] := List.eq_nil_of_length_eq_zero (by rw [hlen, h]; rfl)
    subst hR
    have lG := keeps_globals K t [] hlen hk hgl t.globals.length 0 (by omega)
    have eo : outGl [] = .fs true 3 [] := rfl
    rw [eo] at c0 c1
    have h0 : t.globals.length = 0 := by rw [h]; rfl
    have lS := keeps_shapes K t (.fs true 3 []) (.inl rfl) hsl t.shapes.length 0 (by omega)
    simp only [Int.natCast_zero] at lS lG
    simp only [List.map_nil] at c2 c3 c1
    clear h hk lG
    simp (disch := first | decide | omega | (simp only [LN]; omega) | (simp only [LN]; done) | fail) only [SV, f4, Nat.zero_add, beq_self_eq_true, V.laid, V.cells, Nat.reduceAdd, if_true, Nat.reduceBEq, Bool.and_self, Bool.not_true, Bool.and_false, hloc, Bool.and_true, h6, V.new, V.new1, D.flat, Bool.or_true, Bool.false_eq_true, if_false, List.getElem?_cons_zero, Nat.le_refl, V.own, V.own1, Bool.or_self, V.flatV, V.flat1, Bool.not_false, view, viewD, c0, Bool.or_false, evExt, List.getElem?_cons_succ, lose, evUn, evBin, intBin, bne_self_eq_false, c3, V.renew, V.renew1, c1, c2, evFa, evLen, h0, Nat.add_zero, V.refs, reduceCtorEq, or_self, not_false_eq_true, and_self, decide_true, cond_false, cond_true]
    rw [lS]
    simp (disch := first | decide | omega | (simp only [LN]; omega) | (simp only [LN]; done) | fail) only [SV, if_true, beq_self_eq_true, Nat.reduceBEq, V.refs, Bool.or_self, reduceCtorEq, or_self, not_false_eq_true, and_self, decide_true, Bool.and_self, Bool.or_false, Bool.or_true, cond_false, cond_true, Nat.zero_add, Nat.reduceAdd]
    rw [lp_un f4_L1.eq_1]
    simp (disch := first | decide | omega | (simp only [LN]; omega) | (simp only [LN]; done) | fail) only [SV, Nat.reduceBEq, beq_self_eq_true, evFa, Nat.zero_add, List.getElem?_cons_zero, evLen, h0, evBin, intBin, decide_false, if_true, decide_true, Bool.and_self, V.refs, oneOr, Bool.false_eq_true, if_false, finV, finA, finC]
  · have eo : outGl R = .d true (.sl 3 (R.map eGlob)) := by unfold outGl; rw [if_neg h]
    rw [eo] at c0 c1
    have lG := keeps_globals K t R hlen hk hgl t.globals.length 0 (by omega)
    have lS := keeps_shapes K t _ (.inr ⟨R, rfl⟩) hsl t.shapes.length 0 (by omega)
    simp only [Int.natCast_zero] at lS lG
    clear h hk
    simp (disch := first | decide | omega | (simp only [LN]; omega) | (simp only [LN]; done) | fail) only [SV, f4, Nat.zero_add, beq_self_eq_true, V.laid, V.cells, Nat.reduceAdd, if_true, Nat.reduceBEq, Bool.and_self, Bool.not_true, Bool.and_false, hloc, Bool.and_true, h6, V.new, V.new1, D.flat, Bool.or_true, Bool.false_eq_true, if_false, List.getElem?_cons_zero, Nat.le_refl, V.own, V.own1, Bool.or_self, V.flatV, V.flat1, Bool.not_false, view, viewD, c0, Bool.or_false, evExt, List.getElem?_cons_succ, lose, evUn, evBin, intBin, bne_self_eq_false, c3, V.renew, V.renew1, c1, c2, evFa, evLen, hlen, Nat.add_zero, V.refs, reduceCtorEq, or_self, not_false_eq_true, and_self, decide_true, cond_false, cond_true]
    rw [lS]
    simp (disch := first | decide | omega | (simp only [LN]; omega) | (simp only [LN]; done) | fail) only [SV, if_true, beq_self_eq_true, Nat.reduceBEq, V.refs, Bool.or_self, reduceCtorEq, or_self, not_false_eq_true, and_self, decide_true, Bool.and_self, Bool.or_false, Bool.or_true, cond_false, cond_true, Nat.zero_add, Nat.reduceAdd]
    rw [lG]
    simp (disch := first | decide | omega | (simp only [LN]; omega) | (simp only [LN]; done) | fail) only [SV, if_true, beq_self_eq_true, V.refs, decide_true, Bool.and_self, oneOr, Bool.false_eq_true, if_false, finV, finA, finC]

theorem ev_keeps (K : Cx) (hloc : ∀ f, K.loc f = true) (h6 : K6 K) (h9 : K9 K) (h10 : K10 K) (h12 : K12' K) (t : Table) (ht : TabOk t) :
    runFun K f4 [tabV false false t] [] = some (.d false (.bool true), [], []) := by
  by_cases hz : checkS t = 0
  · exact keeps_B K hloc h6 h9 h10 h12 t ht hz
  · exact keeps_A K h6 h9 h12 t ht hz

end Go.Vm
end

section
namespace Go.Vm

theorem law_keeps (t : Table) (ht : TabOk t) : PureCall Go.Proofs.Try.prog (fun _ => none) 4 [tabV false false t] (.d false (.bool true)) [] := by
  have k6 := k6_of (E := E0) (show Has L24 s6 by repeat (first | exact has_head _ _ | refine has_tail ?_ (by decide)))
  have k9 := k9_of (E := E0) (show Has L24 s9 by repeat (first | exact has_head _ _ | refine has_tail ?_ (by decide)))
  have k10 := k10_of (E := E0) (show Has L24 s10 by repeat (first | exact has_head _ _ | refine has_tail ?_ (by decide)))
  have k12 := k12_of (E := E0) (show Has L24 s12 by repeat (first | exact has_head _ _ | refine has_tail ?_ (by decide)))
  exact (pure_sound (args := [tabV false false t]) mixed kn24.sound f4_ok (ev_keeps _ (fun _ => rfl) k6 k9 k10 k12 t ht)).2

end Go.Vm
end

section
namespace Go.Proofs.Ytmiclhjnjhoijaa.peepKeeps
open Go.ChangeShapes Go.WideShapes Go.ChangeAt Go.RowKit Go.Vm
set_option linter.unusedVariables false

theorem own : ownKnob Try.prog.godebug = none := by kernel_rfl
theorem laidOut : laidOutB Try.prog = true := by kernel_rfl

theorem post_below {H : Type} {enc : TypeId × Value → H} {P : Program} {f : Func} {s : ChangeSpec} {apart fresh handsOn again : Bool} {W W' : World} {args : Array Value} {v : Value} {ds gs : List (DataW H)} {before : List MemPlace}
    (hW : DataW.Whole enc P f.params.toList s.vars apart W args.toList ds gs before) (hb : Below W.heap.size W W')
    (hres : ∀ (b : Nat) (sp : Nat → Bool) (hd : Bool), DataW.TrodAll enc P W' b sp hd f.resultTypes.toList (v.resultList f.resultTypes.size) (s.fn H (ds ++ gs)).results [])
    (hargs : ∀ sp : Nat → Bool, (∀ p ∈ before, sp p.block = true) → DataW.TrodAll enc P W' 0 sp true f.params.toList args.toList (s.fn H (ds ++ gs)).args before)
    (hvars : ∀ sp : Nat → Bool, DataW.TrodVars enc P W' sp s.vars (s.fn H (ds ++ gs)).vars [])
    (hok : ∀ (j : Nat) (t : TypeId) (r : Value), f.resultTypes[j]? = some t → (v.resultList f.resultTypes.size)[j]? = some r → Value.okWide P W' .any 0 t r) :
    s.post enc P f apart fresh handsOn again W args v W' := by
  have hlt := hW.lt
  have hsp : ∀ p ∈ before, (fun b => decide (b < W.heap.size)) p.block = true := fun p hp => decide_eq_true (hlt p hp)
  have all := trodAll_append (hargs (fun _ => true) (fun _ _ => rfl)) (hres 0 (fun _ => true) true)
  rw [List.nil_append] at all
  obtain ⟨_, _, _, _, _, hz, hn⟩ := id hW
  refine ⟨ds, gs, before, [], before, [], hW, hres _ _ _, hargs _ hsp, hvars _, hb.frame _, fun _ => ⟨hok, _, _, before, ⟨before, [], all, hvars _, by simp, fun b off hp => ?_, hn⟩, fun p hp _ => hp⟩⟩
  rw [hb.frozen (hlt _ hp)]
  exact hz b off hp

set_option maxRecDepth 100000 in
theorem lifted (os : Os) (started : os.Started) (H : Type) (enc : TypeId × Value → H) :
    ReturnsInHanded {} Try.checked os 4 .any (Rows.peepKeepsSpec.pre6 enc Try.prog Try.f4 Rows.peepKeepsRow.domain false) (Rows.peepKeepsSpec.post enc Try.prog Try.f4 false true false false) := by
  refine returnsInHanded_of_change (C := Try.checked) own started (by kernel_rfl) Try.func4
    (ChangeSpec.witness6 (enc := enc) (C := Try.checked) false ⟨#[], #[.agg #[.slice none 0 0, .slice none 0 0]], []⟩ 8 (by kernel_rfl) (by kernel_rfl) (by kernel_rfl) (by kernel_rfl)) ?_
  intro W base args ds gs before hval0 hW hcnd _
  have hval : ∀ (j : Nat) t v, Try.f4.params[j]? = some t → args[j]? = some v → Value.okWide Try.prog W .any base t v := hval0
  have hW' := hW
  obtain ⟨p, q, hA0, hV, rfl, hfz, hnd⟩ := hW
  have hA : DataW.TrodAll enc Try.prog W 0 (fun _ => true) true Try.f4.params.toList args.toList ds p := hA0
  rw [Try.params4] at hA hval
  obtain ⟨v0, d0, rfl, rfl, h0⟩ := trodAll_one hA
  obtain ⟨rfl, rfl⟩ := trodVars_none hV
  clear hA0 hval0
  simp only [List.append_nil] at hW'
  obtain ⟨ds0, ht0, hr0⟩ := arg_rep plain25 (hval 0 25 v0 rfl rfl) h0 (base := W.heap.size)
  obtain ⟨t, rfl, hin⟩ := typed_table (n := 0) ht0
  have hcall := law_keeps t hin.ok W (There W) #[v0] (fun b h => h) (fun g cells h => by cases h) ⟨rfl, fun j v x hv hx => by
    match j, hv, hx with
    | 0, hv, hx =>
      simp at hv hx
      subst hv; subst hx
      exact hr0⟩
  refine hcall.mono fun e W' ⟨v, F', σ', he, hb, _, hR, _⟩ => ?_
  have hv := hR.bool_inv
  subst hv
  subst he
  have hlt : ∀ x ∈ p, x.block < W.heap.size := fun x hx => by simpa using hW'.lt x hx
  exact ⟨_, rfl, post_below hW' hb (fun _ _ _ => (trodAll_cons_mk (shut_bool Try.underlying4 _) trodAll_mk0))
    (fun sp hsp => trodAll_mk1 (WideElems.Trod_stays laidOut (by kernel_rfl) (of_decide_eq_true (by kernel_rfl)) h0 (fun x hx => hb.same (hlt x (by simp [hx]))) (fun x hx => hsp x (by simp [hx]))))
    (fun _ => rfl) (ok_one (by kernel_rfl) rfl (okWide_bool_mk Try.underlying4 _))⟩

theorem over : Rows.peepKeepsRow.holds Try.pinned (OpenSpec.ofChange Rows.peepKeepsSpec) :=
  OpenClaim.holds_of_wide 4 Try.f4 rfl rfl rfl rfl rfl rfl rfl ⟨rfl, rfl, rfl, rfl, rfl⟩ rfl rfl rfl rfl rfl (by kernel_rfl) Try.func4 (by kernel_rfl)
    (of_decide_eq_true (by kernel_rfl)) (by unfold Func.isWrapper; first | (rw [if_pos (by decide +kernel)]; kernel_rfl) | (rw [if_neg (by decide +kernel)]; exact ⟨rfl, rfl⟩))
    (fun os started H enc _ => lifted os started H enc)

theorem proved : Rows.PeepKeepsSaid :=
  over
#print axioms proved
end Go.Proofs.Ytmiclhjnjhoijaa.peepKeeps
end
