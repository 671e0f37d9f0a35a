/-
  Parts of the proof: peep.both. Functions of package code: what they come to. code.forms. code.checkCode. code.checkCode: the depths; the whole. code.number, reach, stacked, forms. What is known of functions, put together of what each one answers. What is known of the functions of Peep, put together. A table that is handed in, as a list of shapes and of globals. What a code needs to be let pass, said of the places that are reached. Codes that Check lets pass are those whose places are all reached, with depths that fit. The rules keep depths; what better makes of a code is let pass. The table that Peep makes is let pass, and stays. Conditions: none.
-/
import Derived.Test.YtmiclhjnjhoijaaPeepKeepsD
import Derived.Test.YtmiclhjnjhoijaaChecked
import Derived.Test.YtmiclhjnjhoijaaRows
set_option linter.unusedVariables false
set_option linter.unusedSimpArgs false

section
namespace Go.Vm
/- 'sloth/peep.both' -/
def f37 : Fun := ⟨
 (.seq
  (.reg [⟨[], [], [(.bool false), (.nilsl 3)], none, [0, 1], 2, [], [], []⟩])
  (.seq
   (.reg [⟨[(6, .box (.agg (.cons (.int .i64 0) (.cons (.int .i64 0) (.cons (.int .i64 0) .nil))))), (7, .box (.agg (.cons (.int .i64 0) (.cons (.int .i64 0) (.cons (.int .i64 0) .nil)))))], [(16, (.ld 3 true (.ia 3 (.sl 0) (.bin .add (.sl 1) (.int .i64 1)))))], [], some (none, .store 3 (.sl 6) (.ld 3 true (.ia 3 (.sl 0) (.sl 1)))), [0, 1, 6, 7], 12, [[], [], [1, 0], [0, 1, 2], [], [], [5], [5, 6, 4], [4, 6, 5, 7], [], [], [10, 2, 1, 0, 3, 9], [9, 3, 0, 1, 2, 11, 7, 5, 6, 4, 8, 10]], [], [(.sl 0), (.sl 1), (.ia 3 (.sl 0) (.sl 1)), (.ld 3 true (.ia 3 (.sl 0) (.sl 1))), (.bin .add (.sl 1) (.int .i64 1)), (.ia 3 (.sl 0) (.bin .add (.sl 1) (.int .i64 1))), (.ld 3 true (.ia 3 (.sl 0) (.bin .add (.sl 1) (.int .i64 1))))]⟩, ⟨[], [], [], some (none, .store 3 (.sl 7) (.sl 16)), [0, 1, 6, 7], 1, [], [], []⟩])
   (.seq
    (.block 0
     (.seq
      (.reg [⟨[], [(17, (.and (.bin .eql (.ld 1 false (.fa 0 (.sl 6))) (.ld 1 false (.fa 0 (.sl 7)))) (.or (.bin .eql (.ld 1 false (.fa 0 (.sl 6))) (.int .i64 4)) (.bin .eql (.ld 1 false (.fa 0 (.sl 6))) (.int .i64 5)))))], [], none, [0, 1, 6, 7], 16, [], [], []⟩])
      (.cond (.sl 17)
       (.seq
        (.reg [⟨[], [(4, (.ext 0 (.call 57 (.cons (.sl 0) (.cons (.sl 1) (.cons (.ld 1 false (.fa 0 (.sl 6))) (.cons (.bin .add (.ld 1 false (.fa 1 (.sl 6))) (.ld 1 false (.fa 1 (.sl 7)))) .nil))))))), (5, (.ext 1 (.call 57 (.cons (.sl 0) (.cons (.sl 1) (.cons (.ld 1 false (.fa 0 (.sl 6))) (.cons (.bin .add (.ld 1 false (.fa 1 (.sl 6))) (.ld 1 false (.fa 1 (.sl 7)))) .nil)))))))], [], none, [], 14, [], [], []⟩])
        (.seq
         (.tidy 0 [4, 5])
         .ret))
       (.seq
        (.reg [⟨[], [(45, (.and (.and (.bin .eql (.ld 1 false (.fa 0 (.sl 6))) (.int .i64 5)) (.bin .eql (.ld 1 false (.fa 0 (.sl 7))) (.int .i64 4))) (.bin .gtr (.ld 1 false (.fa 1 (.sl 7))) (.int .i64 0))))], [], none, [0, 1, 6, 7], 14, [], [], []⟩])
        (.cond (.sl 45)
         (.seq
          (.reg [⟨[], [(4, (.ext 0 (.call 57 (.cons (.sl 0) (.cons (.sl 1) (.cons (.int .i64 4) (.cons (.bin .add (.ld 1 false (.fa 1 (.sl 6))) (.ld 1 false (.fa 1 (.sl 7)))) .nil))))))), (5, (.ext 1 (.call 57 (.cons (.sl 0) (.cons (.sl 1) (.cons (.int .i64 4) (.cons (.bin .add (.ld 1 false (.fa 1 (.sl 6))) (.ld 1 false (.fa 1 (.sl 7)))) .nil)))))))], [], none, [], 12, [], [], []⟩])
          (.seq
           (.tidy 0 [4, 5])
           .ret))
         (.seq
          (.reg [⟨[], [(69, (.and (.and (.or (.bin .eql (.ld 1 false (.fa 0 (.sl 6))) (.int .i64 1)) (.bin .eql (.ld 1 false (.fa 0 (.sl 6))) (.int .i64 2))) (.bin .eql (.ld 1 false (.fa 0 (.sl 7))) (.int .i64 4))) (.bin .gtr (.ld 1 false (.fa 1 (.sl 7))) (.int .i64 0))))], [], none, [0, 1, 6, 7], 19, [], [], []⟩])
          (.cond (.sl 69)
           (.seq
            (.reg [⟨[], [(4, (.ext 0 (.call 57 (.cons (.sl 0) (.cons (.sl 1) (.cons (.int .i64 4) (.cons (.bin .sub (.ld 1 false (.fa 1 (.sl 7))) (.int .i64 1)) .nil))))))), (5, (.ext 1 (.call 57 (.cons (.sl 0) (.cons (.sl 1) (.cons (.int .i64 4) (.cons (.bin .sub (.ld 1 false (.fa 1 (.sl 7))) (.int .i64 1)) .nil)))))))], [], none, [], 10, [], [], []⟩])
            (.seq
             (.tidy 0 [4, 5])
             .ret))
           (.seq
            (.reg [⟨[], [(96, (.and (.and (.and (.bin .eql (.ld 1 false (.fa 0 (.sl 6))) (.int .i64 1)) (.bin .eql (.ld 1 false (.fa 1 (.sl 6))) (.int .i64 0))) (.bin .eql (.ld 1 false (.fa 0 (.sl 7))) (.int .i64 5))) (.bin .eql (.ld 1 false (.fa 1 (.sl 7))) (.int .i64 1))))], [], none, [0, 1, 6, 7], 19, [], [], []⟩])
            (.cond (.sl 96)
             (.seq
              (.reg [⟨[], [(4, (.call 35 (.cons (.sl 0) (.cons (.sl 1) (.cons (.int .i64 2) (.cons (.nilsl 3) .nil)))))), (5, (.bool true))], [], none, [], 5, [], [], []⟩])
              (.seq
               (.tidy 0 [4, 5])
               .ret))
             (.seq
              (.reg [⟨[], [(118, (.and (.bin .eql (.ld 1 false (.fa 0 (.sl 7))) (.int .i64 11)) (.or (.or (.or (.bin .eql (.ld 1 false (.fa 0 (.sl 6))) (.int .i64 11)) (.bin .eql (.ld 1 false (.fa 0 (.sl 6))) (.int .i64 3))) (.bin .eql (.ld 1 false (.fa 0 (.sl 6))) (.int .i64 9))) (.bin .eql (.ld 1 false (.fa 0 (.sl 6))) (.int .i64 12)))))], [], none, [0, 1, 6, 7], 24, [], [], []⟩])
              (.cond (.sl 118)
               (.seq
                (.reg [⟨[(145, .lits 3 (.cons (.ld 3 true (.sl 6)) .nil))], [(142, (.sl 0)), (143, (.sl 1))], [], none, [145], 4, [], [], []⟩, ⟨[], [(4, (.call 35 (.cons (.sl 142) (.cons (.sl 143) (.cons (.int .i64 2) (.cons (.sl 145) .nil)))))), (5, (.bool true))], [], none, [], 3, [], [], []⟩])
                (.seq
                 (.tidy 0 [4, 5])
                 .ret))
               (.seq
                (.seq
                 (.reg [⟨[], [(147, (.and (.bin .eql (.ld 1 false (.fa 0 (.sl 6))) (.int .i64 3)) (.bin .eql (.ld 1 false (.fa 0 (.sl 7))) (.int .i64 15))))], [], none, [0, 1, 6, 7], 9, [], [], []⟩])
                 (.cond (.sl 147)
                  .skip
                  (.reg [⟨[], [(147, (.and (.bin .eql (.ld 1 false (.fa 0 (.sl 6))) (.int .i64 9)) (.bin .eql (.ld 1 false (.fa 0 (.sl 7))) (.int .i64 14))))], [], none, [0, 1, 6, 7], 9, [], [], []⟩])))
                (.cond (.sl 147)
                 (.seq
                  (.seq
                   (.reg [⟨[], [(168, (.bin .eql (.ld 1 false (.fa 1 (.sl 6))) (.ld 1 false (.fa 1 (.sl 7)))))], [], none, [0, 1, 6, 7], 5, [], [], []⟩])
                   (.cond (.sl 168)
                    (.seq
                     (.reg [⟨[(172, .lits 3 (.cons (.ld 3 true (.sl 6)) .nil))], [(169, (.sl 0)), (170, (.sl 1))], [], none, [172], 4, [], [], []⟩, ⟨[], [(4, (.call 35 (.cons (.sl 169) (.cons (.sl 170) (.cons (.int .i64 2) (.cons (.sl 172) .nil)))))), (5, (.bool true))], [], none, [], 3, [], [], []⟩])
                     (.seq
                      (.tidy 0 [4, 5])
                      .ret))
                    .skip))
                  (.seq
                   (.reg [⟨[(180, .lits 3 (.cons (.ld 3 true (.sl 6)) (.cons (.set 1 1 (.ld 1 false (.fa 2 (.sl 7))) (.set 0 1 (.int .i64 13) (.agg (.cons (.int .i64 0) (.cons (.int .i64 0) (.cons (.int .i64 0) .nil)))))) .nil)))], [(174, (.sl 0)), (175, (.sl 1))], [], none, [180], 7, [], [], []⟩, ⟨[], [(4, (.call 35 (.cons (.sl 174) (.cons (.sl 175) (.cons (.int .i64 2) (.cons (.sl 180) .nil)))))), (5, (.bool true))], [], none, [], 3, [], [], []⟩])
                   (.seq
                    (.tidy 0 [4, 5])
                    .ret)))
                 .skip)))))))))))))
    (.seq
     (.reg [⟨[], [(4, (.nilsl 3)), (5, (.bool false))], [], none, [], 2, [], [], []⟩])
     (.seq
      (.tidy 0 [4, 5])
      .ret))))),
 [(.sl 4), (.sl 5)], false⟩
theorem f37_ok : funOk Go.Proofs.Try.prog 37 0 2 f37 = true := by kernel_rfl


def K57 (K : Cx) : Prop := ∀ (l : List Instr) (p op a : Int), 0 ≤ p ∧ p + 2 ≤ l.length → Fit l → (op ≠ 13 ∧ op ≠ 14 ∧ op ≠ 15) →
  K.call 57 [.d false (.sl 3 (l.map eInstr)), .d false (.int .i64 p), .d false (.int .i64 op), .d false (.int .i64 a)] = some (.tup [.d true (.sl 3 ((putS l p 2 [⟨op, a, 0⟩]).map eInstr)), .d false (.bool true)], [])

def g37 : Seg := ⟨[(6, .box (.agg (.cons (.int .i64 0) (.cons (.int .i64 0) (.cons (.int .i64 0) .nil))))), (7, .box (.agg (.cons (.int .i64 0) (.cons (.int .i64 0) (.cons (.int .i64 0) .nil)))))], [(16, (.ld 3 true (.ia 3 (.sl 0) (.bin .add (.sl 1) (.int .i64 1)))))], [], some (none, .store 3 (.sl 6) (.ld 3 true (.ia 3 (.sl 0) (.sl 1)))), [0, 1, 6, 7], 12, [[], [], [1, 0], [0, 1, 2], [], [], [5], [5, 6, 4], [4, 6, 5, 7], [], [], [10, 2, 1, 0, 3, 9], [9, 3, 0, 1, 2, 11, 7, 5, 6, 4, 8, 10]], [], [(.sl 0), (.sl 1), (.ia 3 (.sl 0) (.sl 1)), (.ld 3 true (.ia 3 (.sl 0) (.sl 1))), (.bin .add (.sl 1) (.int .i64 1)), (.ia 3 (.sl 0) (.bin .add (.sl 1) (.int .i64 1))), (.ld 3 true (.ia 3 (.sl 0) (.bin .add (.sl 1) (.int .i64 1))))]⟩

theorem both_late (K : Cx) (l : List Instr) (p : Nat) (hp : p + 1 < l.length) (hl : l.length ≤ 100000) : lateOk K ⟨[(0, .d false (.sl 3 (l.map eInstr))), (1, .d false (.int .i64 p))], [], 0, []⟩ g37 := by
  intro e he s1 news hm
  simp only [g37] at he hm
  have hm2 : some (s1, news) = some ((⟨[(0, .d false (.sl 3 (l.map eInstr))), (1, .d false (.int .i64 p)), (6, .ptr 0 0 0), (7, .ptr 1 0 0)], [], 2, []⟩ : S), [.mix 3 [[.int .i64 0, .int .i64 0, .int .i64 0]], .mix 3 [[.int .i64 0, .int .i64 0, .int .i64 0]]]) := by
    rw [← hm]
    simp (disch := first | decide | omega | (simp only [LN]; omega) | (simp only [LN]; done) | fail) only [SV, V.laid, V.cells, Nat.zero_add, Nat.reduceAdd, if_true, Nat.reduceBEq]
  simp only [Option.some.injEq, Prod.mk.injEq] at hm2
  obtain ⟨rfl, rfl⟩ := hm2
  simp only [List.mem_cons, List.not_mem_nil, or_false] at he
  have hcl : clean ⟨[(0, .d false (.sl 3 (l.map eInstr))), (1, .d false (.int .i64 p)), (6, .ptr 0 0 0), (7, .ptr 1 0 0)], [], 2, []⟩ = ⟨[(0, .d false (.sl 3 (l.map eInstr))), (1, .d false (.int .i64 p)), (6, .junk), (7, .junk)], [], 2, []⟩ := rfl
  rw [hcl]
  rcases he with rfl | rfl | rfl | rfl | rfl | rfl | rfl
  · exact ⟨V.d false (.sl 3 (l.map eInstr)), by simp (disch := first | decide | omega | (simp only [LN]; omega) | (simp only [LN]; done) | fail) only [SV, beq_self_eq_true], by simp (disch := first | decide | omega | (simp only [LN]; omega) | (simp only [LN]; done) | fail) only [SV, beq_self_eq_true], rfl⟩
  · exact ⟨V.d false (.int .i64 p), by simp (disch := first | decide | omega | (simp only [LN]; omega) | (simp only [LN]; done) | fail) only [SV, Nat.reduceBEq, beq_self_eq_true], by simp (disch := first | decide | omega | (simp only [LN]; omega) | (simp only [LN]; done) | fail) only [SV, Nat.reduceBEq, beq_self_eq_true], rfl⟩
  · exact ⟨V.d false (.ptr (eInstr (nth l p))), by simp (disch := first | decide | omega | (simp only [LN]; omega) | (simp only [LN]; done) | fail) only [SV, beq_self_eq_true, Nat.reduceBEq, eInstr_eq], by simp (disch := first | decide | omega | (simp only [LN]; omega) | (simp only [LN]; done) | fail) only [SV, beq_self_eq_true, Nat.reduceBEq, eInstr_eq], rfl⟩
  · exact ⟨V.agg [.d false (.int .i64 (nth l p).op), .d false (.int .i64 (nth l p).a), .d false (.int .i64 (nth l p).b)], by simp (disch := first | decide | omega | (simp only [LN]; omega) | (simp only [LN]; done) | fail) only [SV, beq_self_eq_true, Nat.reduceBEq, eInstr_eq, D.flat, if_true, Nat.zero_add, Nat.reduceAdd, Nat.le_refl], by simp (disch := first | decide | omega | (simp only [LN]; omega) | (simp only [LN]; done) | fail) only [SV, beq_self_eq_true, Nat.reduceBEq, eInstr_eq, D.flat, if_true, Nat.zero_add, Nat.reduceAdd, Nat.le_refl], rfl⟩
  · exact ⟨V.d false (.int .i64 (p + 1)), by simp (disch := first | decide | omega | (simp only [LN]; omega) | (simp only [LN]; done) | fail) only [SV, Nat.reduceBEq, beq_self_eq_true, evBin, intBin, if_true], by simp (disch := first | decide | omega | (simp only [LN]; omega) | (simp only [LN]; done) | fail) only [SV, Nat.reduceBEq, beq_self_eq_true, evBin, intBin, if_true], rfl⟩
  · exact ⟨V.d false (.ptr (eInstr (nth l (p + 1)))), by simp (disch := first | decide | omega | (simp only [LN]; omega) | (simp only [LN]; done) | fail) only [SV, beq_self_eq_true, Nat.reduceBEq, evBin, intBin, if_true, eInstr_eq], by simp (disch := first | decide | omega | (simp only [LN]; omega) | (simp only [LN]; done) | fail) only [SV, beq_self_eq_true, Nat.reduceBEq, evBin, intBin, if_true, eInstr_eq], rfl⟩
  · exact ⟨V.agg [.d false (.int .i64 (nth l (p + 1)).op), .d false (.int .i64 (nth l (p + 1)).a), .d false (.int .i64 (nth l (p + 1)).b)], by simp (disch := first | decide | omega | (simp only [LN]; omega) | (simp only [LN]; done) | fail) only [SV, beq_self_eq_true, Nat.reduceBEq, evBin, intBin, if_true, eInstr_eq, D.flat, Nat.zero_add, Nat.reduceAdd, Nat.le_refl], by simp (disch := first | decide | omega | (simp only [LN]; omega) | (simp only [LN]; done) | fail) only [SV, beq_self_eq_true, Nat.reduceBEq, evBin, intBin, if_true, eInstr_eq, D.flat, Nat.zero_add, Nat.reduceAdd, Nat.le_refl], rfl⟩

theorem both_seg (K : Cx) (l : List Instr) (p : Nat) (hp : p + 1 < l.length) (hl : l.length ≤ 100000) : evSeg K ⟨[(0, .d false (.sl 3 (l.map eInstr))), (1, .d false (.int .i64 p))], [], 0, []⟩ g37 =
    some ⟨[(16, .agg [.d false (.int .i64 (nth l (p + 1)).op), .d false (.int .i64 (nth l (p + 1)).a), .d false (.int .i64 (nth l (p + 1)).b)]), (0, .d false (.sl 3 (l.map eInstr))), (1, .d false (.int .i64 p)), (6, .ptr 0 0 0), (7, .ptr 1 0 0)],
      [(1, .mix 3 [[.int .i64 0, .int .i64 0, .int .i64 0]]), (0, .mix 3 [[.d false (.int .i64 (nth l p).op), .d false (.int .i64 (nth l p).a), .d false (.int .i64 (nth l p).b)]])], 2, []⟩ := by
  have h := both_late K l p hp hl
  unfold g37 at h ⊢
  rw [evSeg_late h]
  simp (disch := first | decide | omega | (simp only [LN]; omega) | (simp only [LN]; done) | fail) only [SV, V.laid, V.cells, Nat.zero_add, Nat.reduceAdd, if_true, Nat.reduceBEq, beq_self_eq_true, evBin, intBin, eInstr_eq, D.flat, Nat.le_refl, Bool.and_self, lose]

theorem ev_both (K : Cx) (h35 : K35 K) (h57 : K57 K) (l : List Instr) (p : Nat) (hl : Fit l) (hp : p + 1 < l.length) :
   runFun K f37 [.d false (.sl 3 (l.map eInstr)), .d false (.int .i64 p)] [] = some (ansS (bothS l p), [], []) := by
  have hlen := hl.len
  have hs := both_seg K l p hp hl.len
  unfold g37 at hs
  have hx0 := hl.tame (nth l p) (nth_mem (by omega) (by omega))
  have hy0 := hl.tame (nth l ((p : Int) + 1)) (nth_mem (by omega) (by omega))
  have h1 := fun more hm => h35 l more p 2 ⟨by omega, by omega, by omega⟩ (by omega) hl.len hm
  have h7 := fun op a => h57 l p op a ⟨by omega, by omega⟩ hl
  generalize hx : nth l (p : Int) = x at hs hx0
  generalize hy : nth l ((p : Int) + 1) = y at hs hy0
  have c0 := h1 [] (by simp) (by simp; omega) hl.tame (by simp)
  have cx := h1 [x] (by simp) (by simp; omega) hl.tame (by intro z hz; simp at hz; subst hz; exact hx0)
  have cj := fun (hb : 0 ≤ y.b ∧ y.b ≤ 1152921504606846976) => h1 [x, ⟨13, y.b, 0⟩] (by simp) (by simp; omega) hl.tame (by
    intro z hz
    simp at hz
    rcases hz with rfl | rfl
    · exact hx0
    · exact ⟨fun _ => hb, fun h => by simp at h⟩)
  simp only [List.map_cons, List.map_nil, eInstr_eq] at c0 cx cj
  have hyb := hy0.2
  clear h35 h57 h1 hx0 hy0 hl
  by_cases x4 : x.op = 4
  · by_cases y4 : y.op = 4
    · have c7 := h7 4 (IntKind.i64.wrap (x.a + y.a)) (by omega)
      have hB : bothS l p = some (putS l p 2 [⟨4, IntKind.i64.wrap (x.a + y.a), 0⟩]) := by simp [bothS, hx, hy, x4, y4]
      rw [hB]
      clear hyb cj hB 
      simp (disch := first | decide | omega | (simp only [LN]; omega) | (simp only [LN]; done) | fail) only [SV, f37, Nat.zero_add, Nat.reduceAdd, Bool.and_self, beq_self_eq_true, Nat.reduceBEq, hs, y4, x4, V.laid, V.cells, Nat.le_refl, if_true, lose, evFa, Nat.add_zero, List.getElem?_cons_zero, evBin, intBin, Bool.or_false, V.own, V.own1, Bool.or_self, V.new, V.new1, D.flat, Bool.or_true, Bool.and_true, V.flatV, V.flat1, Bool.not_false, Bool.false_and, view, viewD, c7, Bool.not_true, Bool.false_eq_true, if_false, evExt, List.getElem?_cons_succ, V.refs, decide_true, oneOr, finV, finA, finC, ansS_s]
    · have e : (4 == y.op) = false := by simpa using fun h => y4 h.symm
      have e' : ¬ 4 = y.op := fun h => y4 h.symm
      have hB : bothS l p = none := by simp [bothS, hx, hy, x4, e']
      rw [hB]
      clear hyb cj hB y4 e'
      simp (disch := first | decide | omega | (simp only [LN]; omega) | (simp only [LN]; done) | fail) only [SV, f37, Nat.zero_add, Nat.reduceAdd, Bool.and_self, beq_self_eq_true, Nat.reduceBEq, hs, x4, V.laid, V.cells, Nat.le_refl, if_true, lose, evFa, Nat.add_zero, List.getElem?_cons_zero, evBin, intBin, e, Bool.or_false, Bool.and_true, Bool.false_and, Bool.or_self, Bool.and_false, V.refs, decide_true, oneOr, Bool.false_eq_true, if_false, finV, finA, finC, ansS_n]
  by_cases x5 : x.op = 5
  · clear x4
    by_cases y5 : y.op = 5
    · have c7 := h7 5 (IntKind.i64.wrap (x.a + y.a)) (by omega)
      have hB : bothS l p = some (putS l p 2 [⟨5, IntKind.i64.wrap (x.a + y.a), 0⟩]) := by simp [bothS, hx, hy, x5, y5]
      rw [hB]
      clear hyb cj hB 
      simp (disch := first | decide | omega | (simp only [LN]; omega) | (simp only [LN]; done) | fail) only [SV, f37, Nat.zero_add, Nat.reduceAdd, Bool.and_self, beq_self_eq_true, Nat.reduceBEq, hs, y5, x5, V.laid, V.cells, Nat.le_refl, if_true, lose, evFa, Nat.add_zero, List.getElem?_cons_zero, evBin, intBin, Bool.or_true, V.own, V.own1, Bool.or_self, V.new, V.new1, D.flat, Bool.and_true, V.flatV, V.flat1, Bool.not_false, Bool.false_and, view, viewD, c7, Bool.or_false, Bool.not_true, Bool.false_eq_true, if_false, evExt, List.getElem?_cons_succ, V.refs, decide_true, oneOr, finV, finA, finC, ansS_s]
    have e : (5 == y.op) = false := by simpa using fun h => y5 h.symm
    have e' : ¬ 5 = y.op := fun h => y5 h.symm
    by_cases y4 : y.op = 4
    · by_cases ya : 0 < y.a
      · have c7 := h7 4 (IntKind.i64.wrap (x.a + y.a)) (by omega)
        have hB : bothS l p = some (putS l p 2 [⟨4, IntKind.i64.wrap (x.a + y.a), 0⟩]) := by simp [bothS, hx, hy, x5, y4, ya]
        rw [hB]
        clear hyb cj hB y5 e e'
        simp (disch := first | decide | omega | (simp only [LN]; omega) | (simp only [LN]; done) | fail) only [SV, f37, Nat.zero_add, Nat.reduceAdd, Bool.and_self, beq_self_eq_true, Nat.reduceBEq, hs, y4, x5, V.laid, V.cells, Nat.le_refl, if_true, lose, evFa, Nat.add_zero, List.getElem?_cons_zero, evBin, intBin, Bool.or_true, Bool.and_true, decide_true, V.own, V.own1, Bool.or_self, V.new, V.new1, D.flat, V.flatV, V.flat1, Bool.not_false, Bool.false_and, view, viewD, c7, Bool.or_false, Bool.not_true, Bool.false_eq_true, if_false, evExt, List.getElem?_cons_succ, V.refs, oneOr, finV, finA, finC, ansS_s]
      · have hB : bothS l p = none := by simp [bothS, hx, hy, x5, y4, ya]
        rw [hB]
        clear hyb cj hB y5 e e'
        simp (disch := first | decide | omega | (simp only [LN]; omega) | (simp only [LN]; done) | fail) only [SV, f37, Nat.zero_add, Nat.reduceAdd, Bool.and_self, beq_self_eq_true, Nat.reduceBEq, hs, y4, x5, V.laid, V.cells, Nat.le_refl, if_true, lose, evFa, Nat.add_zero, List.getElem?_cons_zero, evBin, intBin, Bool.or_true, Bool.and_true, decide_false, Bool.and_false, Bool.or_self, Bool.false_and, V.refs, decide_true, oneOr, Bool.false_eq_true, if_false, finV, finA, finC, ansS_n]
    have e4 : (y.op == 4) = false := by simpa using y4
    have hB : bothS l p = none := by simp [bothS, hx, hy, x5, e', y4]
    rw [hB]
    clear hyb cj hB y4 y5 e'
    simp (disch := first | decide | omega | (simp only [LN]; omega) | (simp only [LN]; done) | fail) only [SV, f37, Nat.zero_add, Nat.reduceAdd, Bool.and_self, beq_self_eq_true, Nat.reduceBEq, hs, x5, V.laid, V.cells, Nat.le_refl, if_true, lose, evFa, Nat.add_zero, List.getElem?_cons_zero, evBin, intBin, e, Bool.or_true, Bool.and_true, e4, Bool.and_false, Bool.false_and, Bool.or_self, V.refs, decide_true, oneOr, Bool.false_eq_true, if_false, finV, finA, finC, ansS_n]
  by_cases x1 : x.op = 1
  · clear x4 x5
    by_cases y4 : y.op = 4
    · by_cases ya : 0 < y.a
      · have c7 := h7 4 (IntKind.i64.wrap (y.a - 1)) (by omega)
        have hB : bothS l p = some (putS l p 2 [⟨4, IntKind.i64.wrap (y.a - 1), 0⟩]) := by simp [bothS, hx, hy, x1, y4, ya]
        rw [hB]
        clear hyb cj hB 
        simp (disch := first | decide | omega | (simp only [LN]; omega) | (simp only [LN]; done) | fail) only [SV, f37, Nat.zero_add, Nat.reduceAdd, Bool.and_self, beq_self_eq_true, Nat.reduceBEq, hs, y4, x1, V.laid, V.cells, Nat.le_refl, if_true, lose, evFa, Nat.add_zero, List.getElem?_cons_zero, evBin, intBin, Bool.or_self, Bool.and_true, decide_true, Bool.or_false, V.own, V.own1, V.new, V.new1, D.flat, Bool.or_true, V.flatV, V.flat1, Bool.not_false, Bool.false_and, view, viewD, c7, Bool.not_true, Bool.false_eq_true, if_false, evExt, List.getElem?_cons_succ, V.refs, oneOr, finV, finA, finC, ansS_s]
      · have hB : bothS l p = none := by simp [bothS, hx, hy, x1, y4, ya]
        rw [hB]
        clear hyb cj hB 
        simp (disch := first | decide | omega | (simp only [LN]; omega) | (simp only [LN]; done) | fail) only [SV, f37, Nat.zero_add, Nat.reduceAdd, Bool.and_self, beq_self_eq_true, Nat.reduceBEq, hs, y4, x1, V.laid, V.cells, Nat.le_refl, if_true, lose, evFa, Nat.add_zero, List.getElem?_cons_zero, evBin, intBin, Bool.or_self, Bool.and_true, decide_false, Bool.or_false, Bool.and_false, Bool.true_and, V.refs, decide_true, oneOr, Bool.false_eq_true, if_false, finV, finA, finC, ansS_n]
    have e4 : (y.op == 4) = false := by simpa using y4
    by_cases xa : x.a = 0
    · by_cases y5 : y.op = 5
      · by_cases ya : y.a = 1
        · have hB : bothS l p = some (putS l p 2 []) := by simp [bothS, hx, hy, x1, y5, xa, ya]
          rw [hB]
          clear hyb cj hB y4 e4
          simp (disch := first | decide | omega | (simp only [LN]; omega) | (simp only [LN]; done) | fail) only [SV, f37, Nat.zero_add, Nat.reduceAdd, Bool.and_self, beq_self_eq_true, Nat.reduceBEq, hs, y5, ya, x1, xa, V.laid, V.cells, Nat.le_refl, if_true, lose, evFa, Nat.add_zero, List.getElem?_cons_zero, evBin, intBin, Bool.or_self, decide_true, Bool.and_true, Bool.or_false, Bool.and_false, V.own, V.own1, V.new, V.new1, D.flat, Bool.or_true, V.flatV, V.flat1, Bool.not_false, Bool.false_and, view, viewD, c0, Bool.not_true, Bool.false_eq_true, if_false, V.refs, oneOr, finV, finA, finC, ansS_s]
        · have ea : (y.a == 1) = false := by simpa using ya
          have hB : bothS l p = none := by simp [bothS, hx, hy, x1, y5, ya]
          rw [hB]
          clear hyb cj hB y4 e4 ya
          simp (disch := first | decide | omega | (simp only [LN]; omega) | (simp only [LN]; done) | fail) only [SV, f37, Nat.zero_add, Nat.reduceAdd, Bool.and_self, beq_self_eq_true, Nat.reduceBEq, hs, y5, x1, xa, V.laid, V.cells, Nat.le_refl, if_true, lose, evFa, Nat.add_zero, List.getElem?_cons_zero, evBin, intBin, Bool.or_self, Bool.false_and, Bool.or_false, Bool.and_false, ea, V.refs, decide_true, oneOr, Bool.false_eq_true, if_false, finV, finA, finC, ansS_n]
      · have e5 : (y.op == 5) = false := by simpa using y5
        have hB : bothS l p = none := by simp [bothS, hx, hy, x1, y4, y5]
        rw [hB]
        clear hyb cj hB y4 y5
        simp (disch := first | decide | omega | (simp only [LN]; omega) | (simp only [LN]; done) | fail) only [SV, f37, Nat.zero_add, Nat.reduceAdd, Bool.and_self, beq_self_eq_true, Nat.reduceBEq, hs, x1, xa, V.laid, V.cells, Nat.le_refl, if_true, lose, evFa, Nat.add_zero, List.getElem?_cons_zero, evBin, intBin, Bool.or_self, Bool.and_false, e4, Bool.false_and, Bool.or_false, e5, V.refs, decide_true, oneOr, Bool.false_eq_true, if_false, finV, finA, finC, ansS_n]
    · have ea : (x.a == 0) = false := by simpa using xa
      have hB : bothS l p = none := by simp [bothS, hx, hy, x1, y4, xa]
      rw [hB]
      clear hyb cj hB y4 xa
      simp (disch := first | decide | omega | (simp only [LN]; omega) | (simp only [LN]; done) | fail) only [SV, f37, Nat.zero_add, Nat.reduceAdd, Bool.and_self, beq_self_eq_true, Nat.reduceBEq, hs, x1, V.laid, V.cells, Nat.le_refl, if_true, lose, evFa, Nat.add_zero, List.getElem?_cons_zero, evBin, intBin, Bool.or_self, Bool.and_false, e4, Bool.false_and, Bool.or_false, ea, V.refs, decide_true, oneOr, Bool.false_eq_true, if_false, finV, finA, finC, ansS_n]
  by_cases x2 : x.op = 2
  · clear x4 x5 x1
    by_cases y4 : y.op = 4
    · by_cases ya : 0 < y.a
      · have c7 := h7 4 (IntKind.i64.wrap (y.a - 1)) (by omega)
        have hB : bothS l p = some (putS l p 2 [⟨4, IntKind.i64.wrap (y.a - 1), 0⟩]) := by simp [bothS, hx, hy, x2, y4, ya]
        rw [hB]
        clear hyb cj hB 
        simp (disch := first | decide | omega | (simp only [LN]; omega) | (simp only [LN]; done) | fail) only [SV, f37, Nat.zero_add, Nat.reduceAdd, Bool.and_self, beq_self_eq_true, Nat.reduceBEq, hs, y4, x2, V.laid, V.cells, Nat.le_refl, if_true, lose, evFa, Nat.add_zero, List.getElem?_cons_zero, evBin, intBin, Bool.or_self, Bool.and_true, decide_true, Bool.or_true, V.own, V.own1, V.new, V.new1, D.flat, V.flatV, V.flat1, Bool.not_false, Bool.false_and, view, viewD, c7, Bool.or_false, Bool.not_true, Bool.false_eq_true, if_false, evExt, List.getElem?_cons_succ, V.refs, oneOr, finV, finA, finC, ansS_s]
      · have hB : bothS l p = none := by simp [bothS, hx, hy, x2, y4, ya]
        rw [hB]
        clear hyb cj hB 
        simp (disch := first | decide | omega | (simp only [LN]; omega) | (simp only [LN]; done) | fail) only [SV, f37, Nat.zero_add, Nat.reduceAdd, Bool.and_self, beq_self_eq_true, Nat.reduceBEq, hs, y4, x2, V.laid, V.cells, Nat.le_refl, if_true, lose, evFa, Nat.add_zero, List.getElem?_cons_zero, evBin, intBin, Bool.or_self, Bool.and_true, decide_false, Bool.or_true, Bool.and_false, Bool.false_and, V.refs, decide_true, oneOr, Bool.false_eq_true, if_false, finV, finA, finC, ansS_n]
    have e4 : (y.op == 4) = false := by simpa using y4
    have hB : bothS l p = none := by simp [bothS, hx, hy, x2, y4]
    rw [hB]
    clear hyb cj hB y4
    simp (disch := first | decide | omega | (simp only [LN]; omega) | (simp only [LN]; done) | fail) only [SV, f37, Nat.zero_add, Nat.reduceAdd, Bool.and_self, beq_self_eq_true, Nat.reduceBEq, hs, x2, V.laid, V.cells, Nat.le_refl, if_true, lose, evFa, Nat.add_zero, List.getElem?_cons_zero, evBin, intBin, Bool.or_self, Bool.and_false, e4, Bool.false_and, Bool.or_true, V.refs, decide_true, oneOr, Bool.false_eq_true, if_false, finV, finA, finC, ansS_n]
  by_cases x3 : x.op = 3
  · clear x4 x5 x1 x2
    by_cases y11 : y.op = 11
    · have hB : bothS l p = some (putS l p 2 [x]) := by simp [bothS, hx, hy, x3, y11]
      rw [hB]
      rw [x3] at cx
      clear hyb cj hB 
      simp (disch := first | decide | omega | (simp only [LN]; omega) | (simp only [LN]; done) | fail) only [SV, f37, Nat.zero_add, Nat.reduceAdd, Bool.and_self, beq_self_eq_true, Nat.reduceBEq, hs, y11, x3, V.laid, V.cells, Nat.le_refl, if_true, lose, evFa, Nat.add_zero, List.getElem?_cons_zero, evBin, intBin, Bool.or_self, Bool.false_and, Bool.or_true, Bool.or_false, V.cell, decide_true, asD, V.new1, D.flat, V.own, V.own1, V.new, Bool.and_true, Bool.and_false, V.flatV, V.flat1, Bool.not_false, view, viewD, cx, Bool.not_true, Bool.false_eq_true, if_false, V.refs, oneOr, finV, finA, finC, ansS_s]
    have e11 : (y.op == 11) = false := by simpa using y11
    by_cases y15 : y.op = 15
    · have cj := cj (hyb (by omega))
      by_cases ya : x.a = y.a
      · have hB : bothS l p = some (putS l p 2 [x]) := by simp [bothS, hx, hy, x3, y15, ya]
        rw [hB]
        rw [x3, ya] at cx
        clear hyb cj hB y11 e11
        simp (disch := first | decide | omega | (simp only [LN]; omega) | (simp only [LN]; done) | fail) only [SV, f37, Nat.zero_add, Nat.reduceAdd, Bool.and_self, beq_self_eq_true, Nat.reduceBEq, hs, y15, x3, ya, V.laid, V.cells, Nat.le_refl, if_true, lose, evFa, Nat.add_zero, List.getElem?_cons_zero, evBin, intBin, Bool.or_self, Bool.false_and, Bool.or_true, Bool.or_false, Bool.and_true, V.cell, decide_true, asD, V.new1, D.flat, V.own, V.own1, V.new, Bool.and_false, V.flatV, V.flat1, Bool.not_false, view, viewD, cx, Bool.not_true, Bool.false_eq_true, if_false, V.refs, oneOr, finV, finA, finC, ansS_s]
      · have ea : (x.a == y.a) = false := by simpa using ya
        have hB : bothS l p = some (putS l p 2 [x, ⟨13, y.b, 0⟩]) := by simp [bothS, hx, hy, x3, y15, ya]
        rw [hB]
        rw [x3] at cj
        clear hyb hB y11 e11 ya
        simp (disch := first | decide | omega | (simp only [LN]; omega) | (simp only [LN]; done) | fail) only [SV, f37, Nat.zero_add, Nat.reduceAdd, Bool.and_self, beq_self_eq_true, Nat.reduceBEq, hs, y15, x3, V.laid, V.cells, Nat.le_refl, if_true, lose, evFa, Nat.add_zero, List.getElem?_cons_zero, evBin, intBin, Bool.or_self, Bool.false_and, Bool.or_true, Bool.or_false, Bool.and_true, ea, evSet, V.cell, decide_true, asD, V.new1, D.flat, V.own, V.own1, V.new, Bool.and_false, V.flatV, V.flat1, Bool.not_false, view, viewD, cj, Bool.not_true, Bool.false_eq_true, if_false, V.refs, oneOr, finV, finA, finC, ansS_s]
    have e15 : (y.op == 15) = false := by simpa using y15
    have hB : bothS l p = none := by simp [bothS, hx, hy, x3, y11, y15]
    rw [hB]
    clear hyb cj hB y11 y15
    simp (disch := first | decide | omega | (simp only [LN]; omega) | (simp only [LN]; done) | fail) only [SV, f37, Nat.zero_add, Nat.reduceAdd, Bool.and_self, beq_self_eq_true, Nat.reduceBEq, hs, x3, V.laid, V.cells, Nat.le_refl, if_true, lose, evFa, Nat.add_zero, List.getElem?_cons_zero, evBin, intBin, Bool.or_self, Bool.and_false, Bool.false_and, e11, Bool.or_true, Bool.or_false, Bool.and_true, e15, V.refs, decide_true, oneOr, Bool.false_eq_true, if_false, finV, finA, finC, ansS_n]
  by_cases x9 : x.op = 9
  · clear x4 x5 x1 x2 x3
    by_cases y11 : y.op = 11
    · have hB : bothS l p = some (putS l p 2 [x]) := by simp [bothS, hx, hy, x9, y11]
      rw [hB]
      rw [x9] at cx
      clear hyb cj hB 
      simp (disch := first | decide | omega | (simp only [LN]; omega) | (simp only [LN]; done) | fail) only [SV, f37, Nat.zero_add, Nat.reduceAdd, Bool.and_self, beq_self_eq_true, Nat.reduceBEq, hs, y11, x9, V.laid, V.cells, Nat.le_refl, if_true, lose, evFa, Nat.add_zero, List.getElem?_cons_zero, evBin, intBin, Bool.or_self, Bool.false_and, Bool.or_true, Bool.or_false, V.cell, decide_true, asD, V.new1, D.flat, V.own, V.own1, V.new, Bool.and_true, Bool.and_false, V.flatV, V.flat1, Bool.not_false, view, viewD, cx, Bool.not_true, Bool.false_eq_true, if_false, V.refs, oneOr, finV, finA, finC, ansS_s]
    have e11 : (y.op == 11) = false := by simpa using y11
    by_cases y14 : y.op = 14
    · have cj := cj (hyb (by omega))
      by_cases ya : x.a = y.a
      · have hB : bothS l p = some (putS l p 2 [x]) := by simp [bothS, hx, hy, x9, y14, ya]
        rw [hB]
        rw [x9, ya] at cx
        clear hyb cj hB y11 e11
        simp (disch := first | decide | omega | (simp only [LN]; omega) | (simp only [LN]; done) | fail) only [SV, f37, Nat.zero_add, Nat.reduceAdd, Bool.and_self, beq_self_eq_true, Nat.reduceBEq, hs, y14, x9, ya, V.laid, V.cells, Nat.le_refl, if_true, lose, evFa, Nat.add_zero, List.getElem?_cons_zero, evBin, intBin, Bool.or_self, Bool.false_and, Bool.or_true, Bool.or_false, Bool.and_true, V.cell, decide_true, asD, V.new1, D.flat, V.own, V.own1, V.new, Bool.and_false, V.flatV, V.flat1, Bool.not_false, view, viewD, cx, Bool.not_true, Bool.false_eq_true, if_false, V.refs, oneOr, finV, finA, finC, ansS_s]
      · have ea : (x.a == y.a) = false := by simpa using ya
        have hB : bothS l p = some (putS l p 2 [x, ⟨13, y.b, 0⟩]) := by simp [bothS, hx, hy, x9, y14, ya]
        rw [hB]
        rw [x9] at cj
        clear hyb hB y11 e11 ya
        simp (disch := first | decide | omega | (simp only [LN]; omega) | (simp only [LN]; done) | fail) only [SV, f37, Nat.zero_add, Nat.reduceAdd, Bool.and_self, beq_self_eq_true, Nat.reduceBEq, hs, y14, x9, V.laid, V.cells, Nat.le_refl, if_true, lose, evFa, Nat.add_zero, List.getElem?_cons_zero, evBin, intBin, Bool.or_self, Bool.false_and, Bool.or_true, Bool.or_false, Bool.and_true, ea, evSet, V.cell, decide_true, asD, V.new1, D.flat, V.own, V.own1, V.new, Bool.and_false, V.flatV, V.flat1, Bool.not_false, view, viewD, cj, Bool.not_true, Bool.false_eq_true, if_false, V.refs, oneOr, finV, finA, finC, ansS_s]
    have e14 : (y.op == 14) = false := by simpa using y14
    have hB : bothS l p = none := by simp [bothS, hx, hy, x9, y11, y14]
    rw [hB]
    clear hyb cj hB y11 y14
    simp (disch := first | decide | omega | (simp only [LN]; omega) | (simp only [LN]; done) | fail) only [SV, f37, Nat.zero_add, Nat.reduceAdd, Bool.and_self, beq_self_eq_true, Nat.reduceBEq, hs, x9, V.laid, V.cells, Nat.le_refl, if_true, lose, evFa, Nat.add_zero, List.getElem?_cons_zero, evBin, intBin, Bool.or_self, Bool.and_false, Bool.false_and, e11, Bool.or_true, Bool.or_false, Bool.and_true, e14, V.refs, decide_true, oneOr, Bool.false_eq_true, if_false, finV, finA, finC, ansS_n]
  by_cases x11 : x.op = 11
  · clear x4 x5 x1 x2 x3 x9
    by_cases y11 : y.op = 11
    · have hB : bothS l p = some (putS l p 2 [x]) := by simp [bothS, hx, hy, x11, y11]
      rw [hB]
      rw [x11] at cx
      clear hyb cj hB 
      simp (disch := first | decide | omega | (simp only [LN]; omega) | (simp only [LN]; done) | fail) only [SV, f37, Nat.zero_add, Nat.reduceAdd, Bool.and_self, beq_self_eq_true, Nat.reduceBEq, hs, y11, x11, V.laid, V.cells, Nat.le_refl, if_true, lose, evFa, Nat.add_zero, List.getElem?_cons_zero, evBin, intBin, Bool.or_self, Bool.and_false, Bool.false_and, Bool.or_false, V.cell, decide_true, asD, V.new1, D.flat, Bool.or_true, V.own, V.own1, V.new, Bool.and_true, V.flatV, V.flat1, Bool.not_false, view, viewD, cx, Bool.not_true, Bool.false_eq_true, if_false, V.refs, oneOr, finV, finA, finC, ansS_s]
    have e11 : (y.op == 11) = false := by simpa using y11
    have hB : bothS l p = none := by simp [bothS, hx, hy, x11, y11]
    rw [hB]
    clear hyb cj hB y11
    simp (disch := first | decide | omega | (simp only [LN]; omega) | (simp only [LN]; done) | fail) only [SV, f37, Nat.zero_add, Nat.reduceAdd, Bool.and_self, beq_self_eq_true, Nat.reduceBEq, hs, x11, V.laid, V.cells, Nat.le_refl, if_true, lose, evFa, Nat.add_zero, List.getElem?_cons_zero, evBin, intBin, Bool.or_self, Bool.and_false, Bool.false_and, e11, Bool.or_false, Bool.and_true, V.refs, decide_true, oneOr, Bool.false_eq_true, if_false, finV, finA, finC, ansS_n]
  by_cases x12 : x.op = 12
  · clear x4 x5 x1 x2 x3 x9 x11
    by_cases y11 : y.op = 11
    · have hB : bothS l p = some (putS l p 2 [x]) := by simp [bothS, hx, hy, x12, y11]
      rw [hB]
      rw [x12] at cx
      clear hyb cj hB 
      simp (disch := first | decide | omega | (simp only [LN]; omega) | (simp only [LN]; done) | fail) only [SV, f37, Nat.zero_add, Nat.reduceAdd, Bool.and_self, beq_self_eq_true, Nat.reduceBEq, hs, y11, x12, V.laid, V.cells, Nat.le_refl, if_true, lose, evFa, Nat.add_zero, List.getElem?_cons_zero, evBin, intBin, Bool.or_self, Bool.false_and, Bool.or_true, V.cell, decide_true, asD, V.new1, D.flat, V.own, V.own1, Bool.or_false, V.new, Bool.and_true, Bool.and_false, V.flatV, V.flat1, Bool.not_false, view, viewD, cx, Bool.not_true, Bool.false_eq_true, if_false, V.refs, oneOr, finV, finA, finC, ansS_s]
    have e11 : (y.op == 11) = false := by simpa using y11
    have hB : bothS l p = none := by simp [bothS, hx, hy, x12, y11]
    rw [hB]
    clear hyb cj hB y11
    simp (disch := first | decide | omega | (simp only [LN]; omega) | (simp only [LN]; done) | fail) only [SV, f37, Nat.zero_add, Nat.reduceAdd, Bool.and_self, beq_self_eq_true, Nat.reduceBEq, hs, x12, V.laid, V.cells, Nat.le_refl, if_true, lose, evFa, Nat.add_zero, List.getElem?_cons_zero, evBin, intBin, Bool.or_self, Bool.and_false, Bool.false_and, e11, Bool.or_true, Bool.and_true, V.refs, decide_true, oneOr, Bool.false_eq_true, if_false, finV, finA, finC, ansS_n]
  have b4 : (x.op == 4) = false := by simpa using x4
  have b5 : (x.op == 5) = false := by simpa using x5
  have b1 : (x.op == 1) = false := by simpa using x1
  have b2 : (x.op == 2) = false := by simpa using x2
  have b3 : (x.op == 3) = false := by simpa using x3
  have b9 : (x.op == 9) = false := by simpa using x9
  have b11 : (x.op == 11) = false := by simpa using x11
  have b12 : (x.op == 12) = false := by simpa using x12
  have hB : bothS l p = none := by simp [bothS, hx, hy, x4, x5, x1, x2, x3, x9, x11, x12]
  rw [hB]
  clear hyb cj hB x4 x5 x1 x2 x3 x9 x11 x12
  simp (disch := first | decide | omega | (simp only [LN]; omega) | (simp only [LN]; done) | fail) only [SV, f37, Nat.zero_add, Nat.reduceAdd, Bool.and_self, beq_self_eq_true, Nat.reduceBEq, hs, V.laid, V.cells, Nat.le_refl, if_true, lose, evFa, Nat.add_zero, List.getElem?_cons_zero, evBin, intBin, b4, b5, Bool.or_self, Bool.and_false, Bool.false_and, b1, b2, b11, b3, b9, b12, V.refs, decide_true, oneOr, Bool.false_eq_true, if_false, finV, finA, finC, ansS_n]

end Go.Vm
end

section
namespace Go.Vm
/- 'sloth/code.great' -/
def f20_L0 : C :=
 (.seq
  (.reg [⟨[], [(10, (.bin .lss (.sl 9) (.sl 8)))], [], none, [1, 3, 7, 8, 9], 1, [], [], []⟩])
  (.seq
   (.cond (.sl 10)
    .skip
    (.seq
     (.tidy 0 [1, 3])
     (.exit 0)))
   (.seq
    (.block 1
     (.seq
      (.reg [⟨[(5, .box (.agg (.cons (.str []) (.cons (.int .i64 0) (.cons (.nilsl 3) .nil)))))], [], [], some (none, .store 3 (.sl 5) (.ld 3 true (.ia 3 (.sl 7) (.sl 9)))), [1, 3, 5, 7, 8, 9], 4, [], [], []⟩])
      (.seq
       (.reg [⟨[], [(3, (.bin .add (.sl 3) (.len false (.ld 1 false (.fa 2 (.sl 5))))))], [], none, [1, 5, 7, 8, 9], 6, [], [], []⟩])
       (.seq
        (.reg [⟨[], [(21, (.bin .gtr (.len false (.ld 1 false (.fa 2 (.sl 5)))) (.int .i64 8000)))], [], none, [1, 3, 7, 8, 9], 4, [], [], []⟩])
        (.cond (.sl 21)
         (.seq
          (.reg [⟨[], [(2, (.bool true))], [], none, [], 1, [], [], []⟩])
          (.seq
           (.tidy 0 [2])
           .ret))
         .skip)))))
    (.reg [⟨[], [(9, (.bin .add (.sl 9) (.int .i64 1)))], [], none, [1, 3, 7, 8], 2, [], [], []⟩]))))
def f20 : Fun := ⟨
 (.seq
  (.reg [⟨[(1, .box (.sl 0))], [], [(.bool false)], none, [1], 2, [], [], []⟩])
  (.seq
   (.reg [⟨[], [(3, (.int .i64 0))], [], none, [1], 1, [], [], []⟩])
   (.seq
    (.seq
     (.reg [⟨[], [(7, (.ld 1 false (.fa 1 (.sl 1)))), (8, (.len false (.ld 1 false (.fa 1 (.sl 1))))), (9, (.int .i64 0))], [], none, [1, 3], 4, [], [], []⟩])
     (.block 0
      (.seq (.tidy 0 [1, 3, 7, 8, 9]) (.loop (.seq (.tidy 0 [1, 3, 7, 8, 9]) f20_L0)))))
    (.seq
     (.reg [⟨[], [(2, (.or (.or (.bin .gtr (.len false (.ld 1 false (.fa 0 (.sl 1)))) (.int .i64 2000)) (.bin .gtr (.len false (.ld 1 false (.fa 1 (.sl 1)))) (.int .i64 2000))) (.bin .gtr (.sl 3) (.int .i64 200000))))], [], none, [], 15, [], [], []⟩])
     (.seq
      (.tidy 0 [2])
      .ret))))),
 [(.sl 2)], false⟩
theorem f20_ok : funOk Go.Proofs.Try.prog 20 0 1 f20 = true := by kernel_rfl

/- 'sloth/code.isName' -/
def f21_L0 : C :=
 (.seq
  (.reg [⟨[], [(7, (.bin .lss (.sl 6) (.sl 5)))], [], none, [0, 5, 6], 1, [], [], []⟩])
  (.seq
   (.cond (.sl 7)
    .skip
    (.seq
     (.tidy 0 [0])
     (.exit 0)))
   (.seq
    (.block 1
     (.seq
      (.reg [⟨[], [(3, (.sl 6))], [], none, [0, 5, 6], 2, [], [], []⟩])
      (.seq
       (.reg [⟨[], [(18, (.or (.bin .lss (.ix (.sl 0) (.sl 3)) (.int .u8 32)) (.bin .gtr (.ix (.sl 0) (.sl 3)) (.int .u8 126))))], [], none, [0, 5, 6], 10, [], [], []⟩])
       (.cond (.sl 18)
        (.seq
         (.reg [⟨[], [(2, (.bool false))], [], none, [], 1, [], [], []⟩])
         (.seq
          (.tidy 0 [2])
          .ret))
        .skip))))
    (.reg [⟨[], [(6, (.bin .add (.sl 6) (.int .i64 1)))], [], none, [0, 5], 2, [], [], []⟩]))))
def f21 : Fun := ⟨
 (.seq
  (.reg [⟨[], [], [(.bool false)], none, [0], 1, [], [], []⟩])
  (.seq
   (.seq
    (.reg [⟨[], [(5, (.len true (.sl 0))), (6, (.int .i64 0))], [], none, [0], 3, [], [], []⟩])
    (.block 0
     (.seq (.tidy 0 [0, 5, 6]) (.loop (.seq (.tidy 0 [0, 5, 6]) f21_L0)))))
   (.seq
    (.reg [⟨[], [(2, (.and (.bin .geq (.len true (.sl 0)) (.int .i64 1)) (.bin .leq (.len true (.sl 0)) (.int .i64 4096))))], [], none, [], 9, [], [], []⟩])
    (.seq
     (.tidy 0 [2])
     .ret)))),
 [(.sl 2)], false⟩
theorem f21_ok : funOk Go.Proofs.Try.prog 21 0 1 f21 = true := by kernel_rfl

/- 'sloth/code.given' -/
def f22 : Fun := ⟨
 (.seq
  (.reg [⟨[], [], [(.nilsl 2)], none, [], 1, [], [], []⟩])
  (.seq
   (.reg [⟨[(8, .lits 2 (.cons (.set 0 1 (.str [70, 97, 108, 115, 101]) (.agg (.cons (.str []) (.cons (.int .i64 0) .nil)))) (.cons (.set 0 1 (.str [84, 114, 117, 101]) (.agg (.cons (.str []) (.cons (.int .i64 0) .nil)))) (.cons (.set 0 1 (.str [85, 110, 105, 116]) (.agg (.cons (.str []) (.cons (.int .i64 0) .nil)))) (.cons (.set 0 1 (.str [78, 105, 108]) (.agg (.cons (.str []) (.cons (.int .i64 0) .nil)))) (.cons (.set 1 1 (.int .i64 2) (.set 0 1 (.str [67, 111, 110, 115]) (.agg (.cons (.str []) (.cons (.int .i64 0) .nil))))) (.cons (.set 1 1 (.int .i64 2) (.set 0 1 (.str [80, 97, 105, 114]) (.agg (.cons (.str []) (.cons (.int .i64 0) .nil))))) (.cons (.set 1 1 (.int .i64 3) (.set 0 1 (.str [84, 114, 105, 112, 108, 101]) (.agg (.cons (.str []) (.cons (.int .i64 0) .nil))))) .nil))))))))], [(0, (.sl 8))], [], none, [], 9, [], [], []⟩])
   (.seq
    (.tidy 0 [0])
    .ret))),
 [(.sl 0)], true⟩
theorem f22_ok : funOk Go.Proofs.Try.prog 22 0 0 f22 = true := by kernel_rfl


theorem isName_loop (K : Cx) (s : List UInt8) (hs : (s.length : Int) ≤ 9223372036854775807) : ∀ (k i : Nat), i + k = s.length →
    lp K 0 [0, 5, 6] f21_L0 ⟨[(0, .d false (.str s)), (5, .d false (.int .i64 s.length)), (6, .d false (.int .i64 i))], [], 0, []⟩ =
    some (if (s.drop i).all goodB then (.exit 0, ⟨[(0, .d false (.str s))], [], 0, []⟩) else (.ret, ⟨[(2, .d false (.bool false))], [], 0, []⟩)) := by
  intro k
  induction k with
  | zero =>
    intro i hi
    rw [lp_un f21_L0.eq_1, List.drop_of_length_le (by omega)]
    simp (disch := first | decide | omega | (simp only [LN]; omega) | (simp only [LN]; done) | fail) only [SV, Nat.reduceBEq, beq_self_eq_true, evBin, intBin, decide_false, if_true, V.refs, decide_true, Bool.and_self]
  | succ k ih =>
    intro i hi
    have ih := ih (i + 1) (by omega)
    have hcast : ((i + 1 : Nat) : Int) = (i : Int) + 1 := by omega
    rw [hcast] at ih
    rw [lp_un f21_L0.eq_1, drop_nth (by omega : i < s.length), List.all_cons]
    generalize hb : nth s (i : Int) = b
    have h0 : 0 ≤ (b.toNat : Int) := by omega
    by_cases g1 : (b.toNat : Int) < 32
    · have : goodB b = false := by simp [goodB]; omega
      rw [this]
      simp (disch := first | decide | omega | (simp only [LN]; omega) | (simp only [LN]; done) | fail) only [SV, Nat.reduceBEq, beq_self_eq_true, evBin, intBin, decide_true, if_true, hb, decide_false, Bool.or_false, V.refs, Bool.and_self, Bool.false_and, Bool.false_eq_true, if_false]
    · by_cases g2 : 126 < (b.toNat : Int)
      · have : goodB b = false := by simp [goodB]; omega
        rw [this]
        simp (disch := first | decide | omega | (simp only [LN]; omega) | (simp only [LN]; done) | fail) only [SV, Nat.reduceBEq, beq_self_eq_true, evBin, intBin, decide_true, if_true, hb, decide_false, Bool.or_true, V.refs, Bool.and_self, Bool.false_and, Bool.false_eq_true, if_false]
      · have : goodB b = true := by simp [goodB]; omega
        rw [this]
        simp (disch := first | decide | omega | (simp only [LN]; omega) | (simp only [LN]; done) | fail) only [SV, Nat.reduceBEq, beq_self_eq_true, evBin, intBin, decide_true, if_true, hb, decide_false, Bool.or_self, V.refs, Bool.and_self, Bool.true_and]
        exact ih

theorem ev_isName (K : Cx) (s : List UInt8) (hs : (s.length : Int) ≤ 9223372036854775807) : runFun K f21 [.d false (.str s)] [] = some (.d false (.bool (isNameS s)), [], []) := by
  have hlp := isName_loop K s hs s.length 0 (by omega)
  simp only [Int.natCast_zero, List.drop_zero] at hlp
  unfold isNameS
  by_cases h : s.all goodB = true
  · rw [if_pos h] at hlp
    rw [h]
    simp (disch := first | decide | omega | (simp only [LN]; omega) | (simp only [LN]; done) | fail) only [SV, f21, Nat.zero_add, Bool.and_self, beq_self_eq_true, evLen, Nat.reduceBEq, V.refs, decide_true, if_true, hlp, evBin, intBin, oneOr, Bool.false_eq_true, if_false, finV, finA, finC, Bool.true_and]
  · rw [if_neg h] at hlp
    rw [Bool.not_eq_true] at h
    rw [h]
    simp (disch := first | decide | omega | (simp only [LN]; omega) | (simp only [LN]; done) | fail) only [SV, f21, Nat.zero_add, Bool.and_self, beq_self_eq_true, evLen, Nat.reduceBEq, V.refs, decide_true, if_true, hlp, oneOr, Bool.false_eq_true, if_false, finV, finA, finC, Bool.false_and]

theorem ev_given (K : Cx) : runFun K f22 [] [] = some (.bsl 0 0 7, [.dat true 2 (givenS.map eShape)], []) := by
  simp (disch := first | decide | omega | (simp only [LN]; omega) | (simp only [LN]; done) | fail) only [SV, f22, Bool.and_self, evSet, V.laid, V.cell, V.cells, Nat.zero_add, beq_self_eq_true, Nat.reduceAdd, decide_true, if_true, Nat.le_refl, asD, V.new1, D.flat, Bool.or_true, V.refs, not_false_eq_true, and_self, Bool.or_false, cond_true, oneOr, finV, finA, finC, hNew, V.forget, V.drop1, beq_iff_eq, V.ref0, Bool.not_true, Bool.false_eq_true, if_false, V.newR, viewD, givenS, eShape_eq]

theorem wrap_of {x y : Int} (h : x % 18446744073709551616 = y % 18446744073709551616) : IntKind.i64.wrap x = IntKind.i64.wrap y := by
  unfold IntKind.wrap
  have e1 : (2 : Int) ^ IntKind.i64.bits = 18446744073709551616 := by decide
  simp only [e1, h]
theorem wrap_mod (x : Int) : IntKind.i64.wrap x % 18446744073709551616 = x % 18446744073709551616 := by
  unfold IntKind.wrap
  have e1 : (2 : Int) ^ IntKind.i64.bits = 18446744073709551616 := by decide
  simp only [e1]
  split <;> omega
theorem wrap_add (n c : Int) : IntKind.i64.wrap (IntKind.i64.wrap n + c) = IntKind.i64.wrap (n + c) := by
  refine wrap_of ?_
  rw [Int.add_emod, wrap_mod, ← Int.add_emod]

theorem great_loop (K : Cx) (t : Table) (hl : (t.globals.length : Int) ≤ 9223372036854775807) (hb : ∀ g ∈ t.globals, (g.code.length : Int) ≤ 9223372036854775807) : ∀ (k i : Nat) (n v : Int), i + k = t.globals.length → v = IntKind.i64.wrap n →
    lp K 0 [1, 3, 7, 8, 9] f20_L0 ⟨[(1, .ptr 0 0 0), (3, .d false (.int .i64 v)), (7, .d false (.sl 3 (t.globals.map eGlob))), (8, .d false (.int .i64 t.globals.length)), (9, .d false (.int .i64 i))], [(0, .mix 2 [[.d false (.sl 2 (t.shapes.map eShape)), .d false (.sl 3 (t.globals.map eGlob))]])], 1, []⟩ =
    some (match greatL (t.globals.drop i) n with
     | none => (.ret, ⟨[(2, .d false (.bool true))], [], 0, []⟩)
     | some m => (.exit 0, ⟨[(1, .ptr 0 0 0), (3, .d false (.int .i64 (IntKind.i64.wrap m)))], [(0, .mix 2 [[.d false (.sl 2 (t.shapes.map eShape)), .d false (.sl 3 (t.globals.map eGlob))]])], 1, []⟩)) := by
  intro k
  induction k with
  | zero =>
    intro i n v hi hv
    rw [lp_un f20_L0.eq_1, List.drop_of_length_le (by omega)]
    simp (disch := first | decide | omega | (simp only [LN]; omega) | (simp only [LN]; done) | fail) only [SV, hv, Nat.reduceBEq, beq_self_eq_true, evBin, intBin, decide_false, if_true, V.refs, not_false_eq_true, and_self, decide_true, Bool.and_self, Bool.or_false, cond_true, Nat.zero_add, greatL]
  | succ k ih =>
    intro i n v hi hv
    have hlt : i < t.globals.length := by omega
    have hcast : ((i + 1 : Nat) : Int) = (i : Int) + 1 := by omega
    rw [lp_un f20_L0.eq_1, drop_nth hlt, greatL]
    have hbg := hb _ (nth_mem (l := t.globals) (i := (i : Int)) (by omega) (by omega))
    by_cases g1 : 8000 < ((nth t.globals i).code.length : Int)
    · rw [if_pos g1]
      clear hv
      simp (disch := first | decide | omega | (simp only [LN]; omega) | (simp only [LN]; done) | fail) only [SV, Nat.reduceBEq, beq_self_eq_true, evBin, intBin, decide_true, if_true, V.laid, V.cells, Nat.zero_add, Nat.reduceAdd, eGlob_eq, D.flat, Bool.false_eq_true, if_false, Nat.le_refl, Bool.and_self, lose, evFa, List.getElem?_cons_zero, evLen, V.refs]
    · rw [if_neg g1]
      have ih := ih (i + 1) (n + (nth t.globals i).code.length) (IntKind.i64.wrap (v + (nth t.globals i).code.length)) (by omega) (by rw [hv, wrap_add])
      rw [hcast] at ih
      clear hv
      simp (disch := first | decide | omega | (simp only [LN]; omega) | (simp only [LN]; done) | fail) only [SV, Nat.reduceBEq, beq_self_eq_true, evBin, intBin, decide_true, if_true, V.laid, V.cells, Nat.zero_add, Nat.reduceAdd, eGlob_eq, D.flat, Bool.false_eq_true, if_false, Nat.le_refl, Bool.and_self, lose, evFa, List.getElem?_cons_zero, evLen, decide_false, V.refs, not_false_eq_true, and_self, Bool.or_false, cond_true]
      exact ih

theorem ev_great (K : Cx) (t : Table) (hl : (t.globals.length : Int) ≤ 9223372036854775807) (hs : (t.shapes.length : Int) ≤ 9223372036854775807) (hb : ∀ g ∈ t.globals, (g.code.length : Int) ≤ 9223372036854775807) :
    runFun K f20 [.agg [.d false (.sl 2 (t.shapes.map eShape)), .d false (.sl 3 (t.globals.map eGlob))]] [] = some (.d false (.bool (greatS t)), [], []) := by
  have hlp := great_loop K t hl hb t.globals.length 0 0 0 (by omega) (by decide)
  simp only [Int.natCast_zero, List.drop_zero] at hlp
  unfold greatS
  cases h : greatL t.globals 0 with
  | none =>
    rw [h] at hlp
    simp only at hlp
    simp (disch := first | decide | omega | (simp only [LN]; omega) | (simp only [LN]; done) | fail) only [SV, f20, Nat.zero_add, beq_self_eq_true, V.laid, V.cells, Nat.reduceAdd, if_true, Nat.reduceBEq, Bool.and_self, evFa, List.getElem?_cons_zero, evLen, V.refs, not_false_eq_true, and_self, decide_true, Bool.or_false, cond_true, hlp, oneOr, Bool.false_eq_true, if_false, finV, finA, finC]
  | some n =>
    have hle := greatL_le _ _ _ h
    rw [h] at hlp
    simp only at hlp
    simp only
    by_cases hg : 2000 < (t.globals.length : Int)
    · clear hle
      simp (disch := first | decide | omega | (simp only [LN]; omega) | (simp only [LN]; done) | fail) only [SV, f20, Nat.zero_add, beq_self_eq_true, V.laid, V.cells, Nat.reduceAdd, if_true, Nat.reduceBEq, Bool.and_self, evFa, List.getElem?_cons_zero, evLen, V.refs, not_false_eq_true, and_self, decide_true, Bool.or_false, cond_true, hlp, Nat.add_zero, evBin, intBin, Bool.or_true, Bool.true_or, oneOr, Bool.false_eq_true, if_false, finV, finA, finC]
    · rw [wrap64 (by omega) (by omega)] at hlp
      clear hg
      simp (disch := first | decide | omega | (simp only [LN]; omega) | (simp only [LN]; done) | fail) only [SV, f20, Nat.zero_add, beq_self_eq_true, V.laid, V.cells, Nat.reduceAdd, if_true, Nat.reduceBEq, Bool.and_self, evFa, List.getElem?_cons_zero, evLen, V.refs, not_false_eq_true, and_self, decide_true, Bool.or_false, cond_true, hlp, Nat.add_zero, evBin, intBin, oneOr, Bool.false_eq_true, if_false, finV, finA, finC]

end Go.Vm
end

section
namespace Go.Vm
/- 'sloth/code.forms' -/
def f40 : Fun := ⟨
 (.seq
  (.reg [⟨[(2, .box (.agg (.cons (.str []) (.cons (.int .i64 0) (.cons (.int .i64 0) .nil)))))], [], [(.bool false)], none, [0, 2], 2, [], [], []⟩])
  (.seq
   (.reg [⟨[(4, .box (.agg (.cons (.str []) (.cons (.int .i64 0) (.cons (.int .i64 0) (.cons (.str []) (.cons (.int .i64 0) (.cons (.int .i64 0) (.cons (.str []) (.cons (.int .i64 0) (.cons (.int .i64 0) (.cons (.str []) (.cons (.int .i64 0) (.cons (.int .i64 0) (.cons (.str []) (.cons (.int .i64 0) (.cons (.int .i64 0) (.cons (.str []) (.cons (.int .i64 0) (.cons (.int .i64 0) (.cons (.str []) (.cons (.int .i64 0) (.cons (.int .i64 0) (.cons (.str []) (.cons (.int .i64 0) (.cons (.int .i64 0) (.cons (.str []) (.cons (.int .i64 0) (.cons (.int .i64 0) (.cons (.str []) (.cons (.int .i64 0) (.cons (.int .i64 0) (.cons (.str []) (.cons (.int .i64 0) (.cons (.int .i64 0) (.cons (.str []) (.cons (.int .i64 0) (.cons (.int .i64 0) (.cons (.str []) (.cons (.int .i64 0) (.cons (.int .i64 0) (.cons (.str []) (.cons (.int .i64 0) (.cons (.int .i64 0) (.cons (.str []) (.cons (.int .i64 0) (.cons (.int .i64 0) (.cons (.str []) (.cons (.int .i64 0) (.cons (.int .i64 0) (.cons (.str []) (.cons (.int .i64 0) (.cons (.int .i64 0) (.cons (.str []) (.cons (.int .i64 0) (.cons (.int .i64 0) .nil))))))))))))))))))))))))))))))))))))))))))))))))))))))))], [], [], some (none, .store 54 (.sl 4) (.set 51 3 (.set 2 1 (.int .i64 0) (.set 1 1 (.int .i64 0) (.set 0 1 (.str [117, 110, 119, 105, 110, 100]) (.agg (.cons (.str []) (.cons (.int .i64 0) (.cons (.int .i64 0) .nil))))))) (.set 48 3 (.set 2 1 (.int .i64 0) (.set 1 1 (.int .i64 7) (.set 0 1 (.str [102, 97, 105, 108]) (.agg (.cons (.str []) (.cons (.int .i64 0) (.cons (.int .i64 0) .nil))))))) (.set 45 3 (.set 2 1 (.int .i64 8) (.set 1 1 (.int .i64 3) (.set 0 1 (.str [116, 101, 115, 116, 105, 110, 116]) (.agg (.cons (.str []) (.cons (.int .i64 0) (.cons (.int .i64 0) .nil))))))) (.set 42 3 (.set 2 1 (.int .i64 8) (.set 1 1 (.int .i64 5) (.set 0 1 (.str [116, 101, 115, 116, 99, 111, 110]) (.agg (.cons (.str []) (.cons (.int .i64 0) (.cons (.int .i64 0) .nil))))))) (.set 39 3 (.set 2 1 (.int .i64 0) (.set 1 1 (.int .i64 8) (.set 0 1 (.str [106, 117, 109, 112]) (.agg (.cons (.str []) (.cons (.int .i64 0) (.cons (.int .i64 0) .nil))))))) (.set 36 3 (.set 2 1 (.int .i64 0) (.set 1 1 (.int .i64 6) (.set 0 1 (.str [97, 114, 105, 116, 104]) (.agg (.cons (.str []) (.cons (.int .i64 0) (.cons (.int .i64 0) .nil))))))) (.set 33 3 (.set 2 1 (.int .i64 0) (.set 1 1 (.int .i64 0) (.set 0 1 (.str [101, 118, 97, 108]) (.agg (.cons (.str []) (.cons (.int .i64 0) (.cons (.int .i64 0) .nil))))))) (.set 30 3 (.set 2 1 (.int .i64 0) (.set 1 1 (.int .i64 5) (.set 0 1 (.str [115, 112, 108, 105, 116]) (.agg (.cons (.str []) (.cons (.int .i64 0) (.cons (.int .i64 0) .nil))))))) (.set 27 3 (.set 2 1 (.int .i64 0) (.set 1 1 (.int .i64 5) (.set 0 1 (.str [112, 97, 99, 107]) (.agg (.cons (.str []) (.cons (.int .i64 0) (.cons (.int .i64 0) .nil))))))) (.set 24 3 (.set 2 1 (.int .i64 0) (.set 1 1 (.int .i64 1) (.set 0 1 (.str [97, 108, 108, 111, 99]) (.agg (.cons (.str []) (.cons (.int .i64 0) (.cons (.int .i64 0) .nil))))))) (.set 21 3 (.set 2 1 (.int .i64 0) (.set 1 1 (.int .i64 2) (.set 0 1 (.str [117, 112, 100, 97, 116, 101]) (.agg (.cons (.str []) (.cons (.int .i64 0) (.cons (.int .i64 0) .nil))))))) (.set 18 3 (.set 2 1 (.int .i64 0) (.set 1 1 (.int .i64 0) (.set 0 1 (.str [97, 112, 112, 108, 121]) (.agg (.cons (.str []) (.cons (.int .i64 0) (.cons (.int .i64 0) .nil))))))) (.set 15 3 (.set 2 1 (.int .i64 0) (.set 1 1 (.int .i64 1) (.set 0 1 (.str [115, 108, 105, 100, 101]) (.agg (.cons (.str []) (.cons (.int .i64 0) (.cons (.int .i64 0) .nil))))))) (.set 12 3 (.set 2 1 (.int .i64 0) (.set 1 1 (.int .i64 1) (.set 0 1 (.str [112, 111, 112]) (.agg (.cons (.str []) (.cons (.int .i64 0) (.cons (.int .i64 0) .nil))))))) (.set 9 3 (.set 2 1 (.int .i64 0) (.set 1 1 (.int .i64 3) (.set 0 1 (.str [105, 110, 116]) (.agg (.cons (.str []) (.cons (.int .i64 0) (.cons (.int .i64 0) .nil))))))) (.set 6 3 (.set 2 1 (.int .i64 0) (.set 1 1 (.int .i64 4) (.set 0 1 (.str [103, 108, 111, 98]) (.agg (.cons (.str []) (.cons (.int .i64 0) (.cons (.int .i64 0) .nil))))))) (.set 3 3 (.set 2 1 (.int .i64 0) (.set 1 1 (.int .i64 1) (.set 0 1 (.str [112, 117, 115, 104]) (.agg (.cons (.str []) (.cons (.int .i64 0) (.cons (.int .i64 0) .nil))))))) (.set 0 3 (.agg (.cons (.str []) (.cons (.int .i64 0) (.cons (.int .i64 0) .nil)))) (.agg (.cons (.str []) (.cons (.int .i64 0) (.cons (.int .i64 0) (.cons (.str []) (.cons (.int .i64 0) (.cons (.int .i64 0) (.cons (.str []) (.cons (.int .i64 0) (.cons (.int .i64 0) (.cons (.str []) (.cons (.int .i64 0) (.cons (.int .i64 0) (.cons (.str []) (.cons (.int .i64 0) (.cons (.int .i64 0) (.cons (.str []) (.cons (.int .i64 0) (.cons (.int .i64 0) (.cons (.str []) (.cons (.int .i64 0) (.cons (.int .i64 0) (.cons (.str []) (.cons (.int .i64 0) (.cons (.int .i64 0) (.cons (.str []) (.cons (.int .i64 0) (.cons (.int .i64 0) (.cons (.str []) (.cons (.int .i64 0) (.cons (.int .i64 0) (.cons (.str []) (.cons (.int .i64 0) (.cons (.int .i64 0) (.cons (.str []) (.cons (.int .i64 0) (.cons (.int .i64 0) (.cons (.str []) (.cons (.int .i64 0) (.cons (.int .i64 0) (.cons (.str []) (.cons (.int .i64 0) (.cons (.int .i64 0) (.cons (.str []) (.cons (.int .i64 0) (.cons (.int .i64 0) (.cons (.str []) (.cons (.int .i64 0) (.cons (.int .i64 0) (.cons (.str []) (.cons (.int .i64 0) (.cons (.int .i64 0) (.cons (.str []) (.cons (.int .i64 0) (.cons (.int .i64 0) .nil)))))))))))))))))))))))))))))))))))))))))))))))))))))))))))))))))))))))))), [0, 2, 4], 21, [], [], []⟩])
   (.seq
    (.seq
     (.reg [⟨[], [(29, (.or (.bin .lss (.sl 0) (.int .i64 1)) (.bin .geq (.sl 0) (.int .i64 18))))], [], none, [0, 2, 4], 6, [], [], []⟩])
     (.cond (.sl 29)
      (.seq
       (.reg [⟨[], [], [], some (none, .store 3 (.sl 2) (.agg (.cons (.str []) (.cons (.int .i64 0) (.cons (.int .i64 0) .nil))))), [2], 2, [], [], []⟩, ⟨[], [(3, (.bool false))], [], none, [2], 1, [], [], []⟩])
       (.seq
        (.tidy 0 [2, 3])
        .ret))
      .skip))
    (.seq
     (.reg [⟨[], [], [], some (none, .store 3 (.sl 2) (.ld 3 true (.aa 18 3 (.sl 4) (.sl 0)))), [2], 4, [], [], []⟩, ⟨[], [(3, (.bool true))], [], none, [2], 1, [], [], []⟩])
     (.seq
      (.tidy 0 [2, 3])
      .ret))))),
 [(.ld 3 true (.sl 2)), (.sl 3)], false⟩
theorem f40_ok : funOk Go.Proofs.Try.prog 40 0 1 f40 = true := by kernel_rfl

set_option maxHeartbeats 8000000 in
theorem ev_forms (K : Cx) (op : Int) : runFun K f40 [.d false (.int .i64 op)] [] = some (vForm (formS op) (decide (1 ≤ op ∧ op < 18)), [], []) := by
  unfold formS
  by_cases h : 1 ≤ op ∧ op < 18
  · rw [if_pos h]
    have hd : decide (1 ≤ op ∧ op < 18) = true := by simpa using h
    rw [hd]
    obtain ⟨h1, h2⟩ := h
    have : op = 1 ∨ op = 2 ∨ op = 3 ∨ op = 4 ∨ op = 5 ∨ op = 6 ∨ op = 7 ∨ op = 8 ∨ op = 9 ∨ op = 10 ∨ op = 11 ∨ op = 12 ∨ op = 13 ∨ op = 14 ∨ op = 15 ∨ op = 16 ∨ op = 17 := by omega
    simp (disch := first | decide | omega | (simp only [LN]; omega) | (simp only [LN]; done) | fail) only [SV, f40, Nat.zero_add, V.laid, V.cells, Nat.reduceAdd, if_true, Nat.reduceBEq, Bool.and_self, beq_self_eq_true, evSet, V.cell, decide_true, Nat.le_refl, lose, evBin, intBin, decide_false, Bool.or_self, e_aa, evAa, and_self, List.getElem?_cons_zero, Bool.true_and, beq_iff_eq]
    clear hd h1 h2
    rcases this with rfl | rfl | rfl | rfl | rfl | rfl | rfl | rfl | rfl | rfl | rfl | rfl | rfl | rfl | rfl | rfl | rfl
    all_goals (simp (disch := first | decide | omega | (simp only [LN]; omega) | (simp only [LN]; done) | fail) only [SV, Int.reduceToNat, Nat.reduceMul, Nat.reduceSub, Nat.min_def, if_true, lose, beq_self_eq_true, Nat.reduceBEq, V.refs, not_false_eq_true, and_self, decide_true, Bool.and_self, Bool.or_false, cond_true, Nat.zero_add, List.getElem?_cons_zero, Nat.reduceAdd, Nat.le_refl, oneOr, Bool.false_eq_true, if_false, finV, finA, finC, Prod.mk.injEq, and_true]; rfl)
  · rw [if_neg h]
    have hd : decide (1 ≤ op ∧ op < 18) = false := by simpa using h
    rw [hd]
    clear hd
    by_cases h1 : op < 1
    · simp (disch := first | decide | omega | (simp only [LN]; omega) | (simp only [LN]; done) | fail) only [SV, f40, Nat.zero_add, V.laid, V.cells, Nat.reduceAdd, if_true, Nat.reduceBEq, Bool.and_self, beq_self_eq_true, evSet, V.cell, decide_true, Nat.le_refl, lose, evBin, intBin, decide_false, Bool.or_false, V.refs, not_false_eq_true, and_self, cond_true, List.getElem?_cons_zero, oneOr, Bool.false_eq_true, if_false, finV, finA, finC, Prod.mk.injEq, and_true]
      rfl
    · simp (disch := first | decide | omega | (simp only [LN]; omega) | (simp only [LN]; done) | fail) only [SV, f40, Nat.zero_add, V.laid, V.cells, Nat.reduceAdd, if_true, Nat.reduceBEq, Bool.and_self, beq_self_eq_true, evSet, V.cell, decide_true, Nat.le_refl, lose, evBin, intBin, decide_false, Bool.or_true, V.refs, not_false_eq_true, and_self, Bool.or_false, cond_true, List.getElem?_cons_zero, oneOr, Bool.false_eq_true, if_false, finV, finA, finC, Prod.mk.injEq, and_true]
      rfl

end Go.Vm
end

section
namespace Go.Vm
/- 'sloth/code.checkCode' -/
def f23_L0 : C :=
 (.seq
  (.reg [⟨[], [(23, (.bin .lss (.sl 22) (.sl 21)))], [], none, [2, 3, 20, 21, 22], 1, [], [], []⟩])
  (.seq
   (.cond (.sl 23)
    .skip
    (.seq
     (.tidy 0 [2, 3])
     (.exit 0)))
   (.seq
    (.block 1
     (.seq
      (.reg [⟨[(6, .box (.agg (.cons (.int .i64 0) (.cons (.int .i64 0) (.cons (.int .i64 0) .nil)))))], [(5, (.sl 22))], [], some (none, .store 3 (.sl 6) (.ld 3 true (.ia 3 (.sl 20) (.sl 22)))), [2, 3, 6, 20, 21, 22], 6, [], [], []⟩])
      (.seq
       (.reg [⟨[(7, .box (.agg (.cons (.str []) (.cons (.int .i64 0) (.cons (.int .i64 0) .nil)))))], [(32, (.ext 1 (.call 40 (.cons (.ld 1 false (.fa 0 (.sl 6))) .nil))))], [], some (none, .store 3 (.sl 7) (.ext 0 (.call 40 (.cons (.ld 1 false (.fa 0 (.sl 6))) .nil)))), [2, 3, 5, 6, 7, 20, 21, 22], 8, [], [], []⟩, ⟨[], [(8, (.sl 32))], [], none, [2, 3, 5, 6, 7, 20, 21, 22], 1, [], [], []⟩])
       (.seq
        (.seq
         (.reg [⟨[], [(34, (.un .not (.sl 8)))], [], none, [2, 3, 5, 6, 7, 20, 21, 22], 2, [], [], []⟩])
         (.cond (.sl 34)
          (.seq
           (.reg [⟨[], [(4, (.int .i64 172))], [], none, [], 1, [], [], []⟩])
           (.seq
            (.tidy 0 [4])
            .ret))
          .skip))
        (.seq
         (.reg [⟨[], [(9, (.call 41 (.cons (.ld 2 true (.sl 2)) (.cons (.ld 3 true (.sl 3)) (.cons (.sl 5) (.cons (.ld 1 false (.fa 1 (.sl 6))) (.cons (.ld 1 false (.fa 1 (.sl 7))) .nil))))))), (10, (.call 41 (.cons (.ld 2 true (.sl 2)) (.cons (.ld 3 true (.sl 3)) (.cons (.sl 5) (.cons (.ld 1 false (.fa 2 (.sl 6))) (.cons (.ld 1 false (.fa 2 (.sl 7))) .nil)))))))], [], none, [2, 3, 20, 21, 22], 18, [[], [], [], [], [3], [], [5], [5, 6, 3, 4, 2, 1, 0], [], [], [], [], [11], [], [13], [0, 1, 2, 4, 3, 6, 5, 7, 13, 14, 11, 12, 10, 9, 8], [8, 9, 10, 12, 11, 14, 13, 15, 0, 1, 2, 4, 3, 6, 5, 7], [16, 8, 9, 10, 12, 11, 14, 13, 7, 5, 6, 3, 4, 2, 1, 0, 15]], [], []⟩])
         (.seq
          (.seq
           (.reg [⟨[], [(56, (.or (.bin .eql (.sl 9) (.int .i64 172)) (.bin .eql (.sl 10) (.int .i64 172))))], [], none, [2, 3, 9, 10, 20, 21, 22], 6, [], [], []⟩])
           (.cond (.sl 56)
            (.seq
             (.reg [⟨[], [(4, (.int .i64 172))], [], none, [], 1, [], [], []⟩])
             (.seq
              (.tidy 0 [4])
              .ret))
            .skip))
          (.seq
           (.reg [⟨[], [(62, (.or (.bin .neq (.sl 9) (.int .i64 0)) (.bin .neq (.sl 10) (.int .i64 0))))], [], none, [2, 3, 20, 21, 22], 6, [], [], []⟩])
           (.cond (.sl 62)
            (.seq
             (.reg [⟨[], [(4, (.int .i64 174))], [], none, [], 1, [], [], []⟩])
             (.seq
              (.tidy 0 [4])
              .ret))
            .skip))))))))
    (.reg [⟨[], [(22, (.bin .add (.sl 22) (.int .i64 1)))], [], none, [2, 3, 20, 21], 2, [], [], []⟩]))))
def f23_L1 : C :=
 (.seq
  (.reg [⟨[], [(81, (.bin .lss (.sl 80) (.sl 79)))], [], none, [2, 3, 11, 78, 79, 80], 1, [], [], []⟩])
  (.seq
   (.cond (.sl 81)
    .skip
    (.seq
     (.tidy 0 [])
     (.exit 2)))
   (.seq
    (.block 3
     (.seq
      (.reg [⟨[(13, .box (.agg (.cons (.int .i64 0) (.cons (.int .i64 0) (.cons (.int .i64 0) .nil)))))], [(12, (.sl 80))], [], some (none, .store 3 (.sl 13) (.ld 3 true (.ia 3 (.sl 78) (.sl 80)))), [2, 3, 11, 13, 78, 79, 80], 6, [], [], []⟩])
      (.seq
       (.reg [⟨[], [(14, (.ld 1 false (.ia 1 (.sl 11) (.sl 12))))], [], none, [2, 3, 11, 12, 13, 78, 79, 80], 5, [], [], []⟩])
       (.seq
        (.seq
         (.reg [⟨[], [(90, (.bin .eql (.sl 14) (.int .i64 0)))], [], none, [2, 3, 11, 12, 13, 14, 78, 79, 80], 2, [], [], []⟩])
         (.cond (.sl 90)
          (.seq
           (.reg [⟨[], [(4, (.int .i64 174))], [], none, [], 1, [], [], []⟩])
           (.seq
            (.tidy 0 [4])
            .ret))
          .skip))
        (.seq
         (.reg [⟨[], [(15, (.ext 0 (.call 42 (.cons (.ld 2 true (.sl 2)) (.cons (.ld 3 true (.sl 13)) (.cons (.sl 14) .nil)))))), (16, (.ext 1 (.call 42 (.cons (.ld 2 true (.sl 2)) (.cons (.ld 3 true (.sl 13)) (.cons (.sl 14) .nil))))))], [], none, [2, 3, 11, 12, 13, 78, 79, 80], 9, [], [], []⟩])
         (.seq
          (.seq
           (.reg [⟨[], [(99, (.un .not (.sl 16)))], [], none, [2, 3, 11, 12, 13, 15, 78, 79, 80], 2, [], [], []⟩])
           (.cond (.sl 99)
            (.seq
             (.reg [⟨[], [(4, (.int .i64 173))], [], none, [], 1, [], [], []⟩])
             (.seq
              (.tidy 0 [4])
              .ret))
            .skip))
          (.seq
           (.reg [⟨[], [(17, (.and (.and (.bin .neq (.ld 1 false (.fa 0 (.sl 13))) (.int .i64 13)) (.bin .neq (.ld 1 false (.fa 0 (.sl 13))) (.int .i64 16))) (.bin .neq (.ld 1 false (.fa 0 (.sl 13))) (.int .i64 17))))], [], none, [2, 3, 11, 12, 13, 15, 78, 79, 80], 14, [], [], []⟩])
           (.seq
            (.seq
             (.reg [⟨[], [(121, (.and (.sl 17) (.bin .eql (.bin .add (.sl 12) (.int .i64 1)) (.len false (.ld 1 false (.fa 2 (.sl 3)))))))], [], none, [2, 3, 11, 12, 13, 15, 17, 78, 79, 80], 9, [], [], []⟩])
             (.cond (.sl 121)
              (.seq
               (.reg [⟨[], [(4, (.int .i64 174))], [], none, [], 1, [], [], []⟩])
               (.seq
                (.tidy 0 [4])
                .ret))
              .skip))
            (.seq
             (.seq
              (.reg [⟨[], [(123, (.sl 17))], [], some (some 128, .calle 43 (.cons (.sl 11) (.cons (.bin .add (.sl 12) (.int .i64 1)) (.cons (.sl 15) .nil)))), [2, 3, 11, 13, 15, 78, 79, 80], 7, [], [((.sl 17), true)], []⟩, ⟨[], [(130, (.and (.sl 123) (.un .not (.sl 128))))], [], none, [2, 3, 11, 13, 15, 78, 79, 80], 2, [], [], []⟩])
              (.cond (.sl 130)
               (.seq
                (.reg [⟨[], [(4, (.int .i64 173))], [], none, [], 1, [], [], []⟩])
                (.seq
                 (.tidy 0 [4])
                 .ret))
               .skip))
             (.seq
              (.reg [⟨[], [(18, (.int .i64 0))], [], none, [2, 3, 11, 13, 15, 78, 79, 80], 1, [], [], []⟩])
              (.seq
               (.seq
                (.reg [⟨[], [(132, (.ld 1 false (.fa 0 (.sl 13))))], [], none, [2, 3, 11, 13, 15, 18, 78, 79, 80], 2, [], [], []⟩])
                (.block 4
                 (.seq
                  (.reg [⟨[], [(133, (.bin .eql (.sl 132) (.int .i64 13)))], [], none, [2, 3, 11, 13, 15, 18, 78, 79, 80, 132], 2, [], [], []⟩])
                  (.cond (.sl 133)
                   (.reg [⟨[], [(18, (.ld 1 false (.fa 1 (.sl 13))))], [], none, [2, 3, 11, 15, 78, 79, 80], 3, [], [], []⟩])
                   (.seq
                    (.seq
                     (.reg [⟨[], [(137, (.bin .eql (.sl 132) (.int .i64 14)))], [], none, [2, 3, 11, 13, 15, 18, 78, 79, 80, 132], 2, [], [], []⟩])
                     (.cond (.sl 137)
                      .skip
                      (.reg [⟨[], [(137, (.bin .eql (.sl 132) (.int .i64 15)))], [], none, [2, 3, 11, 13, 15, 18, 78, 79, 80], 2, [], [], []⟩])))
                    (.cond (.sl 137)
                     (.reg [⟨[], [(18, (.ld 1 false (.fa 2 (.sl 13))))], [], none, [2, 3, 11, 15, 78, 79, 80], 3, [], [], []⟩])
                     .skip))))))
               (.seq
                (.reg [⟨[], [(144, (.bin .gtr (.sl 18) (.int .i64 0)))], [], some (some 148, .calle 43 (.cons (.sl 11) (.cons (.sl 18) (.cons (.sl 15) .nil)))), [2, 3, 11, 78, 79, 80], 7, [], [((.bin .gtr (.sl 18) (.int .i64 0)), true)], []⟩, ⟨[], [(150, (.and (.sl 144) (.un .not (.sl 148))))], [], none, [2, 3, 11, 78, 79, 80], 2, [], [], []⟩])
                (.cond (.sl 150)
                 (.seq
                  (.reg [⟨[], [(4, (.int .i64 173))], [], none, [], 1, [], [], []⟩])
                  (.seq
                   (.tidy 0 [4])
                   .ret))
                 .skip)))))))))))))
    (.reg [⟨[], [(80, (.bin .add (.sl 80) (.int .i64 1)))], [], none, [2, 3, 11, 78, 79], 2, [], [], []⟩]))))
def f23 : Fun := ⟨
 (.seq
  (.reg [⟨[(2, .box (.sl 0)), (3, .box (.sl 1))], [], [(.int .i64 0)], none, [2, 3], 3, [], [], []⟩])
  (.seq
   (.seq
    (.reg [⟨[], [(20, (.ld 1 false (.fa 2 (.sl 3)))), (21, (.len false (.ld 1 false (.fa 2 (.sl 3))))), (22, (.int .i64 0))], [], none, [2, 3], 4, [], [], []⟩])
    (.block 0
     (.seq (.tidy 0 [2, 3, 20, 21, 22]) (.loop (.seq (.tidy 0 [2, 3, 20, 21, 22]) f23_L0)))))
   (.seq
    (.seq
     (.reg [⟨[], [(67, (.bin .eql (.len false (.ld 1 false (.fa 2 (.sl 3)))) (.int .i64 0)))], [], none, [2, 3], 4, [], [], []⟩])
     (.cond (.sl 67)
      (.seq
       (.reg [⟨[], [(4, (.int .i64 174))], [], none, [], 1, [], [], []⟩])
       (.seq
        (.tidy 0 [4])
        .ret))
      .skip))
    (.seq
     (.reg [⟨[(71, .mks 1 (.cons (.int .i64 0) .nil) (.len false (.ld 1 false (.fa 2 (.sl 3)))) (.len false (.ld 1 false (.fa 2 (.sl 3)))))], [(11, (.sl 71))], [], none, [2, 3], 5, [], [], []⟩])
     (.seq
      (.reg [⟨[], [], [], some (none, .store 1 (.ia 1 (.sl 11) (.int .i64 0)) (.bin .add (.ld 1 false (.fa 1 (.sl 3))) (.int .i64 1))), [2, 3, 11], 6, [], [], []⟩])
      (.seq
       (.seq
        (.reg [⟨[], [(78, (.ld 1 false (.fa 2 (.sl 3)))), (79, (.len false (.ld 1 false (.fa 2 (.sl 3))))), (80, (.int .i64 0))], [], none, [2, 3, 11], 4, [], [], []⟩])
        (.block 2
         (.seq (.tidy 0 [2, 3, 11, 78, 79, 80]) (.loop (.seq (.tidy 0 [2, 3, 11, 78, 79, 80]) f23_L1)))))
       (.seq
        (.reg [⟨[], [(4, (.int .i64 0))], [], none, [], 1, [], [], []⟩])
        (.seq
         (.tidy 0 [4])
         .ret)))))))),
 [(.sl 4)], false⟩
theorem f23_ok : funOk Go.Proofs.Try.prog 23 0 2 f23 = true := by kernel_rfl


def K40 (K : Cx) : Prop := ∀ op : Int, K.call 40 [.d false (.int .i64 op)] = some (vForm (formS op) (decide (1 ≤ op ∧ op < 18)), [])
def K41 (K : Cx) : Prop := ∀ (sh : List Shape) (gl : List Glob) (nm : List UInt8) (ar : Int) (cd : List Instr) (at_ n kind : Int), 0 ≤ kind ∧ kind ≤ 8 →
  K.call 41 [.agg [.d false (.sl 2 (sh.map eShape)), .d false (.sl 3 (gl.map eGlob))], .agg [.d false (.str nm), .d false (.int .i64 ar), .d false (.sl 3 (cd.map eInstr))], .d false (.int .i64 at_), .d false (.int .i64 n), .d false (.int .i64 kind)]
    = some (.d false (.int .i64 (numberS gl.length sh.length cd.length at_ n kind)), [])
def K42 (K : Cx) : Prop := ∀ (sh : List Shape) (gl : List Glob) (op a b d : Int), 1 ≤ d ∧ d ≤ 8000 → (0 ≤ a ∧ a ≤ 9223372036854775807 ∨ (op ≠ 1 ∧ op ≠ 4 ∧ op ≠ 5 ∧ op ≠ 7 ∧ op ≠ 8)) → (op = 9 ∨ op = 10 → 0 ≤ a ∧ a < sh.length ∧ 0 ≤ (nth sh a).fields ∧ (nth sh a).fields ≤ 8) →
  K.call 42 [.agg [.d false (.sl 2 (sh.map eShape)), .d false (.sl 3 (gl.map eGlob))], .agg [.d false (.int .i64 op), .d false (.int .i64 a), .d false (.int .i64 b)], .d false (.int .i64 d)]
    = some (.tup [.d false (.int .i64 (stackedS sh ⟨op, a, b⟩ d).1), .d false (.bool (stackedS sh ⟨op, a, b⟩ d).2)], [])
def K43 (K : Cx) : Prop := ∀ (c : Bool) (Dp : List Int) (at_ d : Int) (n : Nat), 0 ≤ at_ ∧ at_ < Dp.length → n = Dp.length →
  K.eff 43 [.bsl 0 0 n, .d false (.int .i64 at_), .d false (.int .i64 d)] [.dat c 1 (Dp.map eInt)] = some (.d false (.bool (reachB' Dp at_ d)), [.dat c 1 ((reachS Dp at_ d).map eInt)], [])

def numsOut (sh : List Shape) (gl : List Glob) (nm : List UInt8) (ar : Int) (cd : List Instr) (r : Int) : Ex × S := if r = 0 then (.exit 0, ⟨[(2, .ptr 0 0 0), (3, .ptr 1 0 0)], [(0, .mix 2 [[.d false (.sl 2 (sh.map eShape)), .d false (.sl 3 (gl.map eGlob))]]), (1, .mix 3 [[.d false (.str nm), .d false (.int .i64 ar), .d false (.sl 3 (cd.map eInstr))]])], 2, []⟩)
      else (.ret, ⟨[(4, .d false (.int .i64 r))], [], 0, []⟩)
theorem numsOut_0 (sh gl nm ar cd) : numsOut sh gl nm ar cd 0 = (.exit 0, ⟨[(2, .ptr 0 0 0), (3, .ptr 1 0 0)], [(0, .mix 2 [[.d false (.sl 2 (sh.map eShape)), .d false (.sl 3 (gl.map eGlob))]]), (1, .mix 3 [[.d false (.str nm), .d false (.int .i64 ar), .d false (.sl 3 (cd.map eInstr))]])], 2, []⟩) := rfl
theorem numsOut_172 (sh gl nm ar cd) : numsOut sh gl nm ar cd 172 = (.ret, ⟨[(4, .d false (.int .i64 172))], [], 0, []⟩) := rfl
theorem numsOut_174 (sh gl nm ar cd) : numsOut sh gl nm ar cd 174 = (.ret, ⟨[(4, .d false (.int .i64 174))], [], 0, []⟩) := rfl

theorem nums_loop (K : Cx) (h40 : K40 K) (h41 : K41 K) (sh : List Shape) (gl : List Glob) (nm : List UInt8) (ar : Int) (cd : List Instr) (hl : cd.length ≤ 8000) : ∀ (k i : Nat), i + k = cd.length →
    lp K 0 [2, 3, 20, 21, 22] f23_L0 ⟨[(2, .ptr 0 0 0), (3, .ptr 1 0 0), (20, .d false (.sl 3 (cd.map eInstr))), (21, .d false (.int .i64 cd.length)), (22, .d false (.int .i64 i))],
      [(0, .mix 2 [[.d false (.sl 2 (sh.map eShape)), .d false (.sl 3 (gl.map eGlob))]]), (1, .mix 3 [[.d false (.str nm), .d false (.int .i64 ar), .d false (.sl 3 (cd.map eInstr))]])], 2, []⟩ =
    some (numsOut sh gl nm ar cd (numsL gl.length sh.length cd.length cd k i)) := by
  intro k
  induction k with
  | zero =>
    intro i hi
    rw [lp_un f23_L0.eq_1]
    simp (disch := first | decide | omega | (simp only [LN]; omega) | (simp only [LN]; done) | fail) only [SV, Nat.reduceBEq, beq_self_eq_true, evBin, intBin, decide_false, if_true, V.refs, Bool.or_self, reduceCtorEq, or_self, not_false_eq_true, and_self, decide_true, Bool.and_self, Bool.or_false, Bool.or_true, cond_false, cond_true, Nat.zero_add, Nat.reduceAdd, numsL, numsOut_0]
  | succ k ih =>
    intro i hi
    have hcast : ((i + 1 : Nat) : Int) = (i : Int) + 1 := by omega
    have ih := ih (i + 1) (by omega)
    rw [hcast] at ih
    have hlt : i < cd.length := by omega
    rw [lp_un f23_L0.eq_1]
    simp only [numsL]
    generalize hx : nth cd (i : Int) = x
    have hc := h40 x.op
    have hk := formS_kind x.op
    unfold vForm at hc
    by_cases g : 1 ≤ x.op ∧ x.op < 18
    · have hd : decide (1 ≤ x.op ∧ x.op < 18) = true := by simpa using g
      rw [hd] at hc
      have ha := h41 sh gl nm ar cd i x.a (formS x.op).2.1 hk.1
      have hb := h41 sh gl nm ar cd i x.b (formS x.op).2.2 hk.2
      have hs : numsS gl.length sh.length cd.length i x = (if numberS gl.length sh.length cd.length i x.a (formS x.op).2.1 = 172 ∨ numberS gl.length sh.length cd.length i x.b (formS x.op).2.2 = 172 then 172 else if numberS gl.length sh.length cd.length i x.a (formS x.op).2.1 ≠ 0 ∨ numberS gl.length sh.length cd.length i x.b (formS x.op).2.2 ≠ 0 then 174 else 0) := by
        simp only [numsS, if_pos g]
      rw [hs]
      have va := numberS_val gl.length sh.length cd.length i x.a (formS x.op).2.1
      have vb := numberS_val gl.length sh.length cd.length i x.b (formS x.op).2.2
      generalize numberS gl.length sh.length cd.length i x.a (formS x.op).2.1 = a at ha va
      generalize numberS gl.length sh.length cd.length i x.b (formS x.op).2.2 = b at hb vb
      clear hs hk
      rcases va with rfl | rfl | rfl <;> rcases vb with rfl | rfl | rfl
      · simp (disch := first | decide | omega | (simp only [LN]; omega) | (simp only [LN]; done) | fail) only [SV, Nat.reduceBEq, beq_self_eq_true, evBin, intBin, decide_true, if_true, V.laid, V.cells, Nat.zero_add, Nat.reduceAdd, hx, eInstr_eq, D.flat, Nat.le_refl, Bool.and_self, lose, evFa, Nat.add_zero, List.getElem?_cons_zero, V.own, V.own1, Bool.or_self, V.new, V.new1, Bool.or_true, V.flatV, V.flat1, Bool.not_true, Bool.and_false, Bool.false_and, view, viewD, hc, Bool.false_eq_true, if_false, evExt, List.getElem?_cons_succ, evUn, Bool.and_true, Bool.not_false, ha, hb, bne_self_eq_false, V.refs, reduceCtorEq, or_self, not_false_eq_true, and_self, Bool.or_false, cond_false, cond_true, Int.reduceEq, ne_eq, not_true_eq_false]
        exact ih
      all_goals simp (disch := first | decide | omega | (simp only [LN]; omega) | (simp only [LN]; done) | fail) only [SV, Nat.reduceBEq, beq_self_eq_true, evBin, intBin, decide_true, if_true, V.laid, V.cells, Nat.zero_add, Nat.reduceAdd, hx, eInstr_eq, D.flat, Nat.le_refl, Bool.and_self, lose, evFa, Nat.add_zero, List.getElem?_cons_zero, V.own, V.own1, Bool.or_self, V.new, V.new1, Bool.or_true, V.flatV, V.flat1, Bool.not_true, Bool.and_false, Bool.false_and, view, viewD, hc, Bool.false_eq_true, if_false, evExt, List.getElem?_cons_succ, evUn, Bool.and_true, Bool.not_false, ha, hb, V.refs, Int.reduceEq, or_true, ne_eq, not_true_eq_false, not_false_eq_true, numsOut_172, bne_self_eq_false, or_self, numsOut_174, Bool.or_false, or_false]
    · have hd : decide (1 ≤ x.op ∧ x.op < 18) = false := by simpa using g
      rw [hd] at hc
      have hs : numsS gl.length sh.length cd.length i x = 172 := by simp only [numsS, if_neg g]
      rw [hs]
      simp (disch := first | decide | omega | (simp only [LN]; omega) | (simp only [LN]; done) | fail) only [SV, Nat.reduceBEq, beq_self_eq_true, evBin, intBin, decide_true, if_true, V.laid, V.cells, Nat.zero_add, Nat.reduceAdd, hx, eInstr_eq, D.flat, Nat.le_refl, Bool.and_self, lose, evFa, Nat.add_zero, List.getElem?_cons_zero, V.own, V.own1, Bool.or_self, V.new, V.new1, Bool.or_true, V.flatV, V.flat1, Bool.not_true, Bool.and_false, Bool.false_and, view, viewD, hc, Bool.false_eq_true, if_false, evExt, List.getElem?_cons_succ, evUn, Bool.not_false, V.refs, Int.reduceEq, numsOut_172]

end Go.Vm
end

section
namespace Go.Vm

def depOut (r : Int) : Ex × S := if r = 0 then (.exit 2, ⟨[], [], 0, []⟩) else (.ret, ⟨[(4, .d false (.int .i64 r))], [], 0, []⟩)
theorem depOut_0 : depOut 0 = (.exit 2, ⟨[], [], 0, []⟩) := rfl
theorem depOut_173 : depOut 173 = (.ret, ⟨[(4, .d false (.int .i64 173))], [], 0, []⟩) := rfl
theorem depOut_174 : depOut 174 = (.ret, ⟨[(4, .d false (.int .i64 174))], [], 0, []⟩) := rfl

set_option maxHeartbeats 4000000 in
theorem dep_loop (K : Cx) (h42 : K42 K) (h43 : K43 K) (sh : List Shape) (gl : List Glob) (nm : List UInt8) (ar : Int) (cd : List Instr) (hl : cd.length ≤ 8000) (hs : ShOk sh) (hn : ∀ i : Nat, i < cd.length → NumOk sh.length cd.length i (nth cd i)) (hw : ∀ x ∈ cd, x.a ≤ 9223372036854775807) :
   ∀ (k i : Nat) (c : Bool) (Dp : List Int), i + k = cd.length → Dp.length = cd.length → DpOk Dp →
    lp K 0 [2, 3, 11, 78, 79, 80] f23_L1 ⟨[(2, .ptr 0 0 0), (3, .ptr 1 0 0), (11, .bsl 2 0 cd.length), (78, .d false (.sl 3 (cd.map eInstr))), (79, .d false (.int .i64 cd.length)), (80, .d false (.int .i64 i))],
      [(0, .mix 2 [[.d false (.sl 2 (sh.map eShape)), .d false (.sl 3 (gl.map eGlob))]]), (1, .mix 3 [[.d false (.str nm), .d false (.int .i64 ar), .d false (.sl 3 (cd.map eInstr))]]), (2, .dat c 1 (Dp.map eInt))], 3, []⟩ =
    some (depOut (depL sh cd k i Dp)) := by
  intro k
  induction k with
  | zero =>
    intro i c Dp hi hD hok
    rw [lp_un f23_L1.eq_1]
    simp (disch := first | decide | omega | (simp only [LN]; omega) | (simp only [LN]; done) | fail) only [SV, Nat.reduceBEq, beq_self_eq_true, evBin, intBin, decide_false, if_true, decide_true, Bool.and_self, depL, depOut_0]
  | succ k ih =>
    intro i c Dp hi hD hok
    have hcast : ((i + 1 : Nat) : Int) = (i : Int) + 1 := by omega
    have hlt : i < cd.length := by omega
    have hx0 := hn i hlt
    have hw0 := hw (nth cd i) (nth_mem (by omega) (by omega))
    have hdr := hok (nth Dp i) (nth_mem (by omega) (by omega))
    rw [lp_un f23_L1.eq_1]
    simp only [depL]
    generalize hx : nth cd (i : Int) = x at hx0 hw0
    generalize hd : nth Dp (i : Int) = d at hdr
    by_cases g0 : d = 0
    · subst g0
      rw [if_pos rfl]
      (try clear hj); (try clear ht); (try clear hok1); (try clear hok2); (try clear hn); (try clear hs); (try clear hok); (try clear hx0); (try clear hst); (try clear hxe); (try clear gt); (try clear n13); (try clear n16); (try clear n17); (try clear g0); (try clear hop); (try clear hw0); (try clear gg)
      simp (disch := first | decide | omega | (simp only [LN]; omega) | (simp only [LN]; done) | fail) only [SV, Nat.reduceBEq, beq_self_eq_true, evBin, intBin, decide_true, if_true, V.laid, V.cells, Nat.zero_add, Nat.reduceAdd, hx, eInstr_eq, D.flat, Nat.le_refl, Bool.and_self, lose, Int.toNat_natCast, hd, eInt_eq, V.refs, depOut_174]
    rw [if_neg g0]
    have b0 : (d == 0) = false := by simpa using g0
    have hrg0 := fun h => stacked_range (d := d) hs hx0 (by omega) h
    have hc := h42 sh gl x.op x.a x.b d (by omega) (by have h1 := hx0.cnt; have h2 := hx0.upd; omega) (fun ho => ⟨(hx0.con ho).1, (hx0.con ho).2, hs _ (nth_mem (hx0.con ho).1 (hx0.con ho).2)⟩)
    have hxe : (⟨x.op, x.a, x.b⟩ : Instr) = x := rfl
    rw [hxe] at hc
    generalize hst : stackedS sh x d = r at hc hrg0
    obtain ⟨bh, okb⟩ := r
    simp only at hc hrg0 ⊢
    cases okb with
    | false =>
      rw [if_pos rfl]
      (try clear hj); (try clear ht); (try clear hok1); (try clear hok2); (try clear hn); (try clear hs); (try clear hok); (try clear hx0); (try clear hst); (try clear hxe); (try clear gt); (try clear n13); (try clear n16); (try clear n17); (try clear g0); (try clear hop); (try clear hw0); (try clear gg)
      simp (disch := first | decide | omega | (simp only [LN]; omega) | (simp only [LN]; done) | fail) only [SV, Nat.reduceBEq, beq_self_eq_true, evBin, intBin, decide_true, if_true, V.laid, V.cells, Nat.zero_add, Nat.reduceAdd, hx, eInstr_eq, D.flat, Nat.le_refl, Bool.and_self, lose, Int.toNat_natCast, hd, eInt_eq, b0, List.getElem?_cons_zero, V.own, V.own1, Bool.or_self, V.new, V.new1, Bool.and_true, Bool.or_true, V.flatV, V.flat1, Bool.not_false, Bool.false_and, view, viewD, hc, Bool.not_true, Bool.false_eq_true, if_false, evExt, List.getElem?_cons_succ, evUn, V.refs, depOut_173]
    | true =>
      rw [if_neg (by simp)]
      have hrg := hrg0 rfl
      clear hrg0
      have hj := hx0.jmp
      have ht := hx0.tst
      have ih := fun c Dp => ih (i + 1) c Dp (by omega)
      rw [hcast] at ih
      by_cases gg : goesOn x = true
      · rw [if_pos gg]
        have ⟨n13, n16, n17⟩ : x.op ≠ 13 ∧ x.op ≠ 16 ∧ x.op ≠ 17 := by
          simp [goesOn] at gg; omega
        have b13 : (x.op != 13) = true := by simpa using n13
        have b16 : (x.op != 16) = true := by simpa using n16
        have b17 : (x.op != 17) = true := by simpa using n17
        have c13 : (x.op == 13) = false := by simpa using n13
        by_cases gl1 : (i : Int) + 1 = cd.length
        · rw [if_pos gl1]
          have bl1 : ((i : Int) + 1 == (cd.length : Int)) = true := by simpa using gl1
          (try clear hj); (try clear ht); (try clear hok1); (try clear hok2); (try clear hn); (try clear hs); (try clear hok); (try clear hx0); (try clear hst); (try clear hxe); (try clear gt); (try clear n13); (try clear n16); (try clear n17); (try clear g0); (try clear hop); (try clear hw0); (try clear gg)
          simp (disch := first | decide | omega | (simp only [LN]; omega) | (simp only [LN]; done) | fail) only [SV, Nat.reduceBEq, beq_self_eq_true, evBin, intBin, decide_true, if_true, V.laid, V.cells, Nat.zero_add, Nat.reduceAdd, hx, eInstr_eq, D.flat, Nat.le_refl, Bool.and_self, lose, Int.toNat_natCast, hd, eInt_eq, b0, List.getElem?_cons_zero, V.own, V.own1, Bool.or_self, V.new, V.new1, Bool.and_true, Bool.or_true, V.flatV, V.flat1, Bool.not_false, Bool.false_and, view, viewD, hc, Bool.not_true, Bool.false_eq_true, if_false, evExt, List.getElem?_cons_succ, evUn, evFa, Nat.add_zero, b13, b16, b17, evLen, bl1, V.refs, depOut_174]
        · rw [if_neg gl1]
          have bl1 : ((i : Int) + 1 == (cd.length : Int)) = false := by simpa using gl1
          have gl2 : (i : Int) + 1 < cd.length := by omega
          clear gl1
          have he := h43 false Dp (i + 1) bh cd.length (by omega) hD.symm
          have hlen1 := reachS_len Dp (i + 1) bh
          have hok1 : DpOk (reachS Dp (i + 1) bh) := reachS_ok hok (by omega)
          generalize hrb : reachB' Dp (i + 1) bh = rb at he
          generalize reachS Dp (i + 1) bh = D1 at he hlen1 hok1
          cases rb with
          | false =>
            rw [if_pos rfl]
            (try clear hj); (try clear ht); (try clear hok1); (try clear hok2); (try clear hn); (try clear hs); (try clear hok); (try clear hx0); (try clear hst); (try clear hxe); (try clear gt); (try clear n13); (try clear n16); (try clear n17); (try clear g0); (try clear hop); (try clear hw0); (try clear gg)
            simp (disch := first | decide | omega | (simp only [LN]; omega) | (simp only [LN]; done) | fail) only [SV, Nat.reduceBEq, beq_self_eq_true, evBin, intBin, decide_true, if_true, V.laid, V.cells, Nat.zero_add, Nat.reduceAdd, hx, eInstr_eq, D.flat, Nat.le_refl, Bool.and_self, lose, Int.toNat_natCast, hd, eInt_eq, b0, List.getElem?_cons_zero, V.own, V.own1, Bool.or_self, V.new, V.new1, Bool.and_true, Bool.or_true, V.flatV, V.flat1, Bool.not_false, Bool.false_and, view, viewD, hc, Bool.not_true, Bool.false_eq_true, if_false, evExt, List.getElem?_cons_succ, evUn, evFa, Nat.add_zero, b13, b16, b17, evLen, bl1, Bool.and_false, wonV_some, V.refs, not_false_eq_true, and_self, Bool.or_false, cond_true, he, loseM, Nat.reduceSub, depOut_173]
          | true =>
            rw [if_neg (by simp)]
            by_cases gt : x.op = 14 ∨ x.op = 15
            · have ht := ht gt
              have hti : targI x = x.b := by simp only [targI]; rw [if_neg n13, if_pos gt]
              rw [hti, if_pos (by omega)]
              have he2 := h43 false D1 x.b bh cd.length (by omega) (by omega)
              have hlen2 := reachS_len D1 x.b bh
              have hok2 : DpOk (reachS D1 x.b bh) := reachS_ok hok1 (by omega)
              generalize hrb2 : reachB' D1 x.b bh = rb2 at he2
              generalize reachS D1 x.b bh = D2 at he2 hlen2 hok2
              have hpos : 0 < x.b := by omega
              have ih := ih false D2 (by omega) hok2
              (try clear hj); (try clear ht); (try clear hok1); (try clear hok2); (try clear hn); (try clear hs); (try clear hok); (try clear hx0); (try clear hst); (try clear hxe); (try clear n13); (try clear n16); (try clear n17); (try clear g0); (try clear hop); (try clear hw0); (try clear gg)
              by_cases g14 : x.op = 14
              · have c14 : (x.op == 14) = true := by simpa using g14
                clear g14 gt
                cases rb2 with
                | false =>
                  rw [if_pos rfl]
                  simp (disch := first | decide | omega | (simp only [LN]; omega) | (simp only [LN]; done) | fail) only [SV, Nat.reduceBEq, beq_self_eq_true, evBin, intBin, decide_true, if_true, V.laid, V.cells, Nat.zero_add, Nat.reduceAdd, hx, eInstr_eq, D.flat, Nat.le_refl, Bool.and_self, lose, Int.toNat_natCast, hd, eInt_eq, b0, List.getElem?_cons_zero, V.own, V.own1, Bool.or_self, V.new, V.new1, Bool.and_true, Bool.or_true, V.flatV, V.flat1, Bool.not_false, Bool.false_and, view, viewD, hc, Bool.not_true, Bool.false_eq_true, if_false, evExt, List.getElem?_cons_succ, evUn, evFa, Nat.add_zero, b13, b16, b17, evLen, bl1, Bool.and_false, wonV_some, V.refs, not_false_eq_true, and_self, Bool.or_false, cond_true, he, loseM, Nat.reduceSub, c13, c14, he2, depOut_173]
                | true =>
                  rw [if_neg (by simp)]
                  simp (disch := first | decide | omega | (simp only [LN]; omega) | (simp only [LN]; done) | fail) only [SV, Nat.reduceBEq, beq_self_eq_true, evBin, intBin, decide_true, if_true, V.laid, V.cells, Nat.zero_add, Nat.reduceAdd, hx, eInstr_eq, D.flat, Nat.le_refl, Bool.and_self, lose, Int.toNat_natCast, hd, eInt_eq, b0, List.getElem?_cons_zero, V.own, V.own1, Bool.or_self, V.new, V.new1, Bool.and_true, Bool.or_true, V.flatV, V.flat1, Bool.not_false, Bool.false_and, view, viewD, hc, Bool.not_true, Bool.false_eq_true, if_false, evExt, List.getElem?_cons_succ, evUn, evFa, Nat.add_zero, b13, b16, b17, evLen, bl1, Bool.and_false, wonV_some, V.refs, not_false_eq_true, and_self, Bool.or_false, cond_true, he, loseM, Nat.reduceSub, c13, c14, he2, reduceCtorEq, or_self, Nat.reduceEqDiff, cond_false]
                  exact ih
              · have c14 : (x.op == 14) = false := by simpa using g14
                have c15 : (x.op == 15) = true := by simpa using gt.resolve_left g14
                clear g14 gt
                cases rb2 with
                | false =>
                  rw [if_pos rfl]
                  simp (disch := first | decide | omega | (simp only [LN]; omega) | (simp only [LN]; done) | fail) only [SV, Nat.reduceBEq, beq_self_eq_true, evBin, intBin, decide_true, if_true, V.laid, V.cells, Nat.zero_add, Nat.reduceAdd, hx, eInstr_eq, D.flat, Nat.le_refl, Bool.and_self, lose, Int.toNat_natCast, hd, eInt_eq, b0, List.getElem?_cons_zero, V.own, V.own1, Bool.or_self, V.new, V.new1, Bool.and_true, Bool.or_true, V.flatV, V.flat1, Bool.not_false, Bool.false_and, view, viewD, hc, Bool.not_true, Bool.false_eq_true, if_false, evExt, List.getElem?_cons_succ, evUn, evFa, Nat.add_zero, b13, b16, b17, evLen, bl1, Bool.and_false, wonV_some, V.refs, not_false_eq_true, and_self, Bool.or_false, cond_true, he, loseM, Nat.reduceSub, c13, c14, c15, he2, depOut_173]
                | true =>
                  rw [if_neg (by simp)]
                  simp (disch := first | decide | omega | (simp only [LN]; omega) | (simp only [LN]; done) | fail) only [SV, Nat.reduceBEq, beq_self_eq_true, evBin, intBin, decide_true, if_true, V.laid, V.cells, Nat.zero_add, Nat.reduceAdd, hx, eInstr_eq, D.flat, Nat.le_refl, Bool.and_self, lose, Int.toNat_natCast, hd, eInt_eq, b0, List.getElem?_cons_zero, V.own, V.own1, Bool.or_self, V.new, V.new1, Bool.and_true, Bool.or_true, V.flatV, V.flat1, Bool.not_false, Bool.false_and, view, viewD, hc, Bool.not_true, Bool.false_eq_true, if_false, evExt, List.getElem?_cons_succ, evUn, evFa, Nat.add_zero, b13, b16, b17, evLen, bl1, Bool.and_false, wonV_some, V.refs, not_false_eq_true, and_self, Bool.or_false, cond_true, he, loseM, Nat.reduceSub, c13, c14, c15, he2, reduceCtorEq, or_self, Nat.reduceEqDiff, cond_false]
                  exact ih
            · have hti : targI x = 0 := by simp only [targI]; rw [if_neg n13, if_neg gt]
              rw [hti, if_neg (by omega)]
              have ih := ih false D1 (by omega) hok1
              have c14 : (x.op == 14) = false := by simp; omega
              have c15 : (x.op == 15) = false := by simp; omega
              clear gt
              (try clear hj); (try clear ht); (try clear hok1); (try clear hok2); (try clear hn); (try clear hs); (try clear hok); (try clear hx0); (try clear hst); (try clear hxe); (try clear n13); (try clear n16); (try clear n17); (try clear g0); (try clear hop); (try clear hw0); (try clear gg)
              simp (disch := first | decide | omega | (simp only [LN]; omega) | (simp only [LN]; done) | fail) only [SV, Nat.reduceBEq, beq_self_eq_true, evBin, intBin, decide_true, if_true, V.laid, V.cells, Nat.zero_add, Nat.reduceAdd, hx, eInstr_eq, D.flat, Nat.le_refl, Bool.and_self, lose, Int.toNat_natCast, hd, eInt_eq, b0, List.getElem?_cons_zero, V.own, V.own1, Bool.or_self, V.new, V.new1, Bool.and_true, Bool.or_true, V.flatV, V.flat1, Bool.not_false, Bool.false_and, view, viewD, hc, Bool.not_true, Bool.false_eq_true, if_false, evExt, List.getElem?_cons_succ, evUn, evFa, Nat.add_zero, b13, b16, b17, evLen, bl1, Bool.and_false, wonV_t, V.refs, not_false_eq_true, and_self, Bool.or_false, cond_true, he, loseM, Nat.reduceSub, c13, c14, c15, decide_false, reduceCtorEq, or_self, Nat.reduceEqDiff, cond_false]
              exact ih
      · rw [if_neg gg]
        have hop : x.op = 13 ∨ x.op = 16 ∨ x.op = 17 := by
          simp [goesOn] at gg; omega
        by_cases g13 : x.op = 13
        · have hj := hj g13
          have hti : targI x = x.a := by simp only [targI]; rw [if_pos g13]
          rw [hti, if_pos (by omega)]
          have he2 := h43 false Dp x.a bh cd.length (by omega) (by omega)
          have hlen2 := reachS_len Dp x.a bh
          have hok2 : DpOk (reachS Dp x.a bh) := reachS_ok hok (by omega)
          generalize hrb2 : reachB' Dp x.a bh = rb2 at he2
          generalize reachS Dp x.a bh = D2 at he2 hlen2 hok2
          rw [g13] at hc
          cases rb2 with
          | false =>
            rw [if_pos rfl]
            (try clear hj); (try clear ht); (try clear hok1); (try clear hok2); (try clear hn); (try clear hs); (try clear hok); (try clear hx0); (try clear hst); (try clear hxe); (try clear gt); (try clear n13); (try clear n16); (try clear n17); (try clear g0); (try clear hop); (try clear hw0); (try clear gg)
            simp (disch := first | decide | omega | (simp only [LN]; omega) | (simp only [LN]; done) | fail) only [SV, Nat.reduceBEq, beq_self_eq_true, evBin, intBin, decide_true, if_true, V.laid, V.cells, Nat.zero_add, Nat.reduceAdd, hx, eInstr_eq, g13, D.flat, Nat.le_refl, Bool.and_self, lose, Int.toNat_natCast, hd, eInt_eq, b0, List.getElem?_cons_zero, V.own, V.own1, Bool.or_self, V.new, V.new1, Bool.and_true, Bool.or_true, V.flatV, V.flat1, Bool.not_false, Bool.false_and, view, viewD, hc, Bool.not_true, Bool.false_eq_true, if_false, evExt, List.getElem?_cons_succ, evUn, evFa, Nat.add_zero, bne_self_eq_false, evLen, wonV_t, V.refs, not_false_eq_true, and_self, Bool.or_false, cond_true, he2, loseM, Nat.reduceSub, depOut_173]
          | true =>
            rw [if_neg (by simp)]
            have ih := ih false D2 (by omega) hok2
            (try clear hj); (try clear ht); (try clear hok1); (try clear hok2); (try clear hn); (try clear hs); (try clear hok); (try clear hx0); (try clear hst); (try clear hxe); (try clear gt); (try clear n13); (try clear n16); (try clear n17); (try clear g0); (try clear hop); (try clear hw0); (try clear gg)
            simp (disch := first | decide | omega | (simp only [LN]; omega) | (simp only [LN]; done) | fail) only [SV, Nat.reduceBEq, beq_self_eq_true, evBin, intBin, decide_true, if_true, V.laid, V.cells, Nat.zero_add, Nat.reduceAdd, hx, eInstr_eq, g13, D.flat, Nat.le_refl, Bool.and_self, lose, Int.toNat_natCast, hd, eInt_eq, b0, List.getElem?_cons_zero, V.own, V.own1, Bool.or_self, V.new, V.new1, Bool.and_true, Bool.or_true, V.flatV, V.flat1, Bool.not_false, Bool.false_and, view, viewD, hc, Bool.not_true, Bool.false_eq_true, if_false, evExt, List.getElem?_cons_succ, evUn, evFa, Nat.add_zero, bne_self_eq_false, evLen, wonV_t, V.refs, not_false_eq_true, and_self, Bool.or_false, cond_true, he2, loseM, Nat.reduceSub, Bool.and_false, reduceCtorEq, or_self, Nat.reduceEqDiff, cond_false]
            exact ih
        · have hti : targI x = 0 := by simp only [targI]; rw [if_neg g13, if_neg (by omega)]
          rw [hti, if_neg (by omega)]
          have ih := ih c Dp hD hok
          by_cases g16 : x.op = 16
          · rw [g16] at hc
            (try clear hj); (try clear ht); (try clear hok1); (try clear hok2); (try clear hn); (try clear hs); (try clear hok); (try clear hx0); (try clear hst); (try clear hxe); (try clear gt); (try clear n13); (try clear n16); (try clear n17); (try clear g0); (try clear hop); (try clear hw0); (try clear gg)
            simp (disch := first | decide | omega | (simp only [LN]; omega) | (simp only [LN]; done) | fail) only [SV, Nat.reduceBEq, beq_self_eq_true, evBin, intBin, decide_true, if_true, V.laid, V.cells, Nat.zero_add, Nat.reduceAdd, hx, eInstr_eq, g16, D.flat, Nat.le_refl, Bool.and_self, lose, Int.toNat_natCast, hd, eInt_eq, b0, List.getElem?_cons_zero, V.own, V.own1, Bool.or_self, V.new, V.new1, Bool.and_true, Bool.or_true, V.flatV, V.flat1, Bool.not_false, Bool.false_and, view, viewD, hc, Bool.not_true, Bool.false_eq_true, if_false, evExt, List.getElem?_cons_succ, evUn, evFa, Nat.add_zero, bne_self_eq_false, Bool.and_false, evLen, wonV_t, decide_false, V.refs, reduceCtorEq, or_self, not_false_eq_true, Nat.reduceEqDiff, and_self, Bool.or_false, cond_false, cond_true]
            exact ih
          · have g17 : x.op = 17 := by omega
            rw [g17] at hc
            (try clear hj); (try clear ht); (try clear hok1); (try clear hok2); (try clear hn); (try clear hs); (try clear hok); (try clear hx0); (try clear hst); (try clear hxe); (try clear gt); (try clear n13); (try clear n16); (try clear n17); (try clear g0); (try clear hop); (try clear hw0); (try clear gg)
            simp (disch := first | decide | omega | (simp only [LN]; omega) | (simp only [LN]; done) | fail) only [SV, Nat.reduceBEq, beq_self_eq_true, evBin, intBin, decide_true, if_true, V.laid, V.cells, Nat.zero_add, Nat.reduceAdd, hx, eInstr_eq, g17, D.flat, Nat.le_refl, Bool.and_self, lose, Int.toNat_natCast, hd, eInt_eq, b0, List.getElem?_cons_zero, V.own, V.own1, Bool.or_self, V.new, V.new1, Bool.and_true, Bool.or_true, V.flatV, V.flat1, Bool.not_false, Bool.false_and, view, viewD, hc, Bool.not_true, Bool.false_eq_true, if_false, evExt, List.getElem?_cons_succ, evUn, evFa, Nat.add_zero, bne_self_eq_false, Bool.and_false, evLen, wonV_t, decide_false, V.refs, reduceCtorEq, or_self, not_false_eq_true, Nat.reduceEqDiff, and_self, Bool.or_false, cond_false, cond_true]
            exact ih


theorem numsL_ok {ng ns nc : Int} {cd : List Instr} : ∀ (k i : Nat), numsL ng ns nc cd k i = 0 → ∀ j : Nat, i ≤ j → j < i + k → numsS ng ns nc j (nth cd j) = 0 := by
  intro k
  induction k with
  | zero => intro i _ j h1 h2; omega
  | succ k ih =>
    intro i h j h1 h2
    simp only [numsL] at h
    split at h
    · rename_i h0
      by_cases hj : j = i
      · subst hj; exact h0
      · exact ih (i + 1) h j (by omega) (by omega)
    · rename_i h0
      exact absurd h h0

theorem depL_val (sh : List Shape) (cd : List Instr) : ∀ (k i : Nat) (Dp : List Int), depL sh cd k i Dp = 0 ∨ depL sh cd k i Dp = 173 ∨ depL sh cd k i Dp = 174 := by
  intro k
  induction k with
  | zero => intro i Dp; exact .inl rfl
  | succ k ih =>
    intro i Dp
    simp only [depL]
    repeat' split
    all_goals first | exact ih _ _ | simp

theorem numsL_val (ng ns nc : Int) (cd : List Instr) : ∀ (k i : Nat), numsL ng ns nc cd k i = 0 ∨ numsL ng ns nc cd k i = 172 ∨ numsL ng ns nc cd k i = 174 := by
  intro k
  induction k with
  | zero => intro i; exact .inl rfl
  | succ k ih =>
    intro i
    simp only [numsL]
    split
    · exact ih _
    · unfold numsS
      split
      · simp only
        split
        · simp
        · split <;> simp
      · simp

set_option maxHeartbeats 4000000 in
theorem ev_checkCode (K : Cx) (h40 : K40 K) (h41 : K41 K) (h42 : K42 K) (h43 : K43 K) (sh : List Shape) (gl : List Glob) (g : Glob) (hs : ShOk sh) (hl : g.code.length ≤ 8000) (ha : 0 ≤ g.arity ∧ g.arity ≤ 24) (hw : ∀ x ∈ g.code, x.a ≤ 9223372036854775807) :
    runFun K f23 [.agg [.d false (.sl 2 (sh.map eShape)), .d false (.sl 3 (gl.map eGlob))], .agg [.d false (.str g.name), .d false (.int .i64 g.arity), .d false (.sl 3 (g.code.map eInstr))]] [] = some (.d false (.int .i64 (checkCodeS gl.length sh g)), [], []) := by
  obtain ⟨nm, ar, cd⟩ := g
  simp only at hl ha hw ⊢
  have l0 := nums_loop K h40 h41 sh gl nm ar cd hl cd.length 0 (by omega)
  simp only [Int.natCast_zero] at l0
  unfold checkCodeS
  simp only
  have nv := numsL_val gl.length sh.length cd.length cd cd.length 0
  cases hz : decide (numsL gl.length sh.length cd.length cd cd.length 0 = 0) with
  | false =>
    have hz : ¬ numsL gl.length sh.length cd.length cd cd.length 0 = 0 := by simpa using hz
    rw [if_neg hz]
    generalize numsL gl.length sh.length cd.length cd cd.length 0 = r at l0 hz nv
    rcases nv with rfl | rfl | rfl
    · exact absurd rfl hz
    · rw [numsOut_172] at l0
      simp (disch := first | decide | omega | (simp only [LN]; omega) | (simp only [LN]; done) | fail) only [SV, f23, Nat.zero_add, Nat.reduceAdd, beq_self_eq_true, V.laid, V.cells, if_true, Nat.reduceBEq, Bool.and_self, evFa, List.getElem?_cons_zero, evLen, V.refs, Bool.or_self, reduceCtorEq, or_self, not_false_eq_true, and_self, decide_true, Bool.or_false, Bool.or_true, cond_false, cond_true, l0, oneOr, Bool.false_eq_true, if_false, finV, finA, finC]
    · rw [numsOut_174] at l0
      simp (disch := first | decide | omega | (simp only [LN]; omega) | (simp only [LN]; done) | fail) only [SV, f23, Nat.zero_add, Nat.reduceAdd, beq_self_eq_true, V.laid, V.cells, if_true, Nat.reduceBEq, Bool.and_self, evFa, List.getElem?_cons_zero, evLen, V.refs, Bool.or_self, reduceCtorEq, or_self, not_false_eq_true, and_self, decide_true, Bool.or_false, Bool.or_true, cond_false, cond_true, l0, oneOr, Bool.false_eq_true, if_false, finV, finA, finC]
  | true =>
    have hz : numsL gl.length sh.length cd.length cd cd.length 0 = 0 := by simpa using hz
    rw [if_pos hz]
    rw [hz, numsOut_0] at l0
    by_cases hc : cd.length = 0
    · rw [if_pos hc]
      have hc0 : ((cd.length : Int) == 0) = true := by simpa using hc
      clear hz nv hw hc
      simp (disch := first | decide | omega | (simp only [LN]; omega) | (simp only [LN]; done) | fail) only [SV, f23, Nat.zero_add, Nat.reduceAdd, beq_self_eq_true, V.laid, V.cells, if_true, Nat.reduceBEq, Bool.and_self, evFa, List.getElem?_cons_zero, evLen, V.refs, Bool.or_self, reduceCtorEq, or_self, not_false_eq_true, and_self, decide_true, Bool.or_false, Bool.or_true, cond_false, cond_true, l0, evBin, intBin, hc0, oneOr, Bool.false_eq_true, if_false, finV, finA, finC]
    · rw [if_neg hc]
      have hok := fun (i : Nat) (hi : i < cd.length) => numsS_ok (numsL_ok cd.length 0 hz i (by omega) (by omega))
      have l1 := dep_loop K h42 h43 sh gl nm ar cd hl hs hok hw cd.length 0 true ((List.replicate cd.length 0).set 0 (ar + 1)) (by omega) (by simp) (by
        intro v hv
        rcases List.mem_or_eq_of_mem_set hv with h | h
        · have := List.eq_of_mem_replicate h; omega
        · omega)
      simp only [Int.natCast_zero] at l1
      have dv := depL_val sh cd cd.length 0 ((List.replicate cd.length 0).set 0 (ar + 1))
      generalize hr : depL sh cd cd.length 0 ((List.replicate cd.length 0).set 0 (ar + 1)) = r at l1 dv
      have hc0 : ((cd.length : Int) == 0) = false := by simpa using hc
      have hpos : 0 < cd.length := by omega
      clear hok hw nv hz hr hc
      rcases dv with rfl | rfl | rfl
      · rw [depOut_0] at l1
        simp (disch := first | decide | omega | (simp only [LN]; omega) | (simp only [LN]; done) | fail) only [SV, f23, Nat.zero_add, Nat.reduceAdd, beq_self_eq_true, V.laid, V.cells, if_true, Nat.reduceBEq, Bool.and_self, evFa, List.getElem?_cons_zero, evLen, V.refs, Bool.or_self, reduceCtorEq, or_self, not_false_eq_true, and_self, decide_true, Bool.or_false, Bool.or_true, cond_false, cond_true, l0, evBin, intBin, hc0, mkMks, asD, D.flat, Int.toNat_natCast, fIntR, Int.toNat_zero, Nat.add_zero, V.cell, eInt_eq, Nat.le_refl, V.new1, fIntS, lose, Nat.reduceEqDiff, l1, oneOr, Bool.false_eq_true, if_false, finV, finA, finC]
      · rw [depOut_173] at l1
        simp (disch := first | decide | omega | (simp only [LN]; omega) | (simp only [LN]; done) | fail) only [SV, f23, Nat.zero_add, Nat.reduceAdd, beq_self_eq_true, V.laid, V.cells, if_true, Nat.reduceBEq, Bool.and_self, evFa, List.getElem?_cons_zero, evLen, V.refs, Bool.or_self, reduceCtorEq, or_self, not_false_eq_true, and_self, decide_true, Bool.or_false, Bool.or_true, cond_false, cond_true, l0, evBin, intBin, hc0, mkMks, asD, D.flat, Int.toNat_natCast, fIntR, Int.toNat_zero, Nat.add_zero, V.cell, eInt_eq, Nat.le_refl, V.new1, fIntS, lose, Nat.reduceEqDiff, l1, oneOr, Bool.false_eq_true, if_false, finV, finA, finC]
      · rw [depOut_174] at l1
        simp (disch := first | decide | omega | (simp only [LN]; omega) | (simp only [LN]; done) | fail) only [SV, f23, Nat.zero_add, Nat.reduceAdd, beq_self_eq_true, V.laid, V.cells, if_true, Nat.reduceBEq, Bool.and_self, evFa, List.getElem?_cons_zero, evLen, V.refs, Bool.or_self, reduceCtorEq, or_self, not_false_eq_true, and_self, decide_true, Bool.or_false, Bool.or_true, cond_false, cond_true, l0, evBin, intBin, hc0, mkMks, asD, D.flat, Int.toNat_natCast, fIntR, Int.toNat_zero, Nat.add_zero, V.cell, eInt_eq, Nat.le_refl, V.new1, fIntS, lose, Nat.reduceEqDiff, l1, oneOr, Bool.false_eq_true, if_false, finV, finA, finC]

end Go.Vm
end

section
namespace Go.Vm
/- 'sloth/code.number' -/
def f41 : Fun := ⟨
 (.seq
  (.reg [⟨[(5, .box (.sl 0)), (6, .box (.sl 1))], [], [(.int .i64 0)], none, [2, 3, 4, 5, 6], 3, [], [], []⟩])
  (.seq
   (.reg [⟨[], [(11, (.bool true))], [], none, [2, 3, 4, 5, 6], 1, [], [], []⟩])
   (.seq
    (.seq
     (.reg [⟨[], [(12, (.sl 4))], [], none, [2, 3, 5, 6, 11], 1, [], [], []⟩])
     (.block 0
      (.seq
       (.reg [⟨[], [(13, (.bin .eql (.sl 12) (.int .i64 0)))], [], none, [2, 3, 5, 6, 11, 12], 2, [], [], []⟩])
       (.cond (.sl 13)
        (.reg [⟨[], [(11, (.bin .eql (.sl 3) (.int .i64 0)))], [], none, [], 3, [], [], []⟩])
        (.seq
         (.reg [⟨[], [(17, (.bin .eql (.sl 12) (.int .i64 1)))], [], none, [2, 3, 5, 6, 11, 12], 2, [], [], []⟩])
         (.cond (.sl 17)
          (.reg [⟨[], [(11, (.bin .geq (.sl 3) (.int .i64 0)))], [], none, [], 3, [], [], []⟩])
          (.seq
           (.reg [⟨[], [(21, (.bin .eql (.sl 12) (.int .i64 2)))], [], none, [2, 3, 5, 6, 11, 12], 2, [], [], []⟩])
           (.cond (.sl 21)
            (.reg [⟨[], [(11, (.bin .geq (.sl 3) (.int .i64 1)))], [], none, [], 3, [], [], []⟩])
            (.seq
             (.reg [⟨[], [(25, (.bin .eql (.sl 12) (.int .i64 3)))], [], none, [2, 3, 5, 6, 11, 12], 2, [], [], []⟩])
             (.cond (.sl 25)
              (.reg [⟨[], [(11, (.and (.bin .geq (.sl 3) (.int .i64 (-4611686018427387904))) (.bin .leq (.sl 3) (.int .i64 4611686018427387903))))], [], none, [], 7, [], [], []⟩])
              (.seq
               (.reg [⟨[], [(33, (.bin .eql (.sl 12) (.int .i64 4)))], [], none, [2, 3, 5, 6, 11, 12], 2, [], [], []⟩])
               (.cond (.sl 33)
                (.reg [⟨[], [(11, (.and (.bin .geq (.sl 3) (.int .i64 0)) (.bin .lss (.sl 3) (.len false (.ld 1 false (.fa 1 (.sl 5)))))))], [], none, [], 10, [], [], []⟩])
                (.seq
                 (.reg [⟨[], [(44, (.bin .eql (.sl 12) (.int .i64 5)))], [], none, [2, 3, 5, 6, 11, 12], 2, [], [], []⟩])
                 (.cond (.sl 44)
                  (.reg [⟨[], [(11, (.and (.bin .geq (.sl 3) (.int .i64 0)) (.bin .lss (.sl 3) (.len false (.ld 1 false (.fa 0 (.sl 5)))))))], [], none, [], 10, [], [], []⟩])
                  (.seq
                   (.reg [⟨[], [(55, (.bin .eql (.sl 12) (.int .i64 6)))], [], none, [2, 3, 6, 11, 12], 2, [], [], []⟩])
                   (.cond (.sl 55)
                    (.reg [⟨[], [(11, (.and (.bin .geq (.sl 3) (.int .i64 1)) (.bin .leq (.sl 3) (.int .i64 11))))], [], none, [], 7, [], [], []⟩])
                    (.seq
                     (.reg [⟨[], [(63, (.bin .eql (.sl 12) (.int .i64 7)))], [], none, [2, 3, 6, 11, 12], 2, [], [], []⟩])
                     (.cond (.sl 63)
                      (.reg [⟨[], [(11, (.and (.bin .geq (.sl 3) (.int .i64 1)) (.bin .leq (.sl 3) (.int .i64 4))))], [], none, [], 7, [], [], []⟩])
                      (.seq
                       (.reg [⟨[], [(71, (.bin .eql (.sl 12) (.int .i64 8)))], [], none, [2, 3, 6, 11], 2, [], [], []⟩])
                       (.cond (.sl 71)
                        (.seq
                         (.reg [⟨[], [(82, (.or (.bin .leq (.sl 3) (.sl 2)) (.bin .geq (.sl 3) (.len false (.ld 1 false (.fa 2 (.sl 6)))))))], [], none, [11], 10, [], [], []⟩])
                         (.cond (.sl 82)
                          (.seq
                           (.reg [⟨[], [(10, (.int .i64 174))], [], none, [], 1, [], [], []⟩])
                           (.seq
                            (.tidy 0 [10])
                            .ret))
                          .skip))
                        .skip))))))))))))))))))))
    (.seq
     (.seq
      (.reg [⟨[], [(84, (.un .not (.sl 11)))], [], none, [], 2, [], [], []⟩])
      (.cond (.sl 84)
       (.seq
        (.reg [⟨[], [(10, (.int .i64 172))], [], none, [], 1, [], [], []⟩])
        (.seq
         (.tidy 0 [10])
         .ret))
       .skip))
     (.seq
      (.reg [⟨[], [(10, (.int .i64 0))], [], none, [], 1, [], [], []⟩])
      (.seq
       (.tidy 0 [10])
       .ret)))))),
 [(.sl 10)], false⟩
theorem f41_ok : funOk Go.Proofs.Try.prog 41 0 5 f41 = true := by kernel_rfl

/- 'sloth/code.stacked' -/
def f42 : Fun := ⟨
 (.seq
  (.reg [⟨[(3, .box (.sl 0)), (4, .box (.sl 1))], [], [(.bool false), (.int .i64 0)], none, [2, 3, 4], 4, [], [], []⟩])
  (.seq
   (.reg [⟨[], [(8, (.bool true)), (9, (.sl 2))], [], none, [2, 3, 4], 3, [], [], []⟩])
   (.seq
    (.seq
     (.reg [⟨[], [(13, (.ld 1 false (.fa 0 (.sl 4))))], [], none, [2, 3, 4, 8, 9], 2, [], [], []⟩])
     (.block 0
      (.seq
       (.reg [⟨[], [(14, (.bin .eql (.sl 13) (.int .i64 1)))], [], none, [2, 3, 4, 8, 9, 13], 2, [], [], []⟩])
       (.cond (.sl 14)
        (.reg [⟨[], [(8, (.bin .lss (.ld 1 false (.fa 1 (.sl 4))) (.sl 2))), (9, (.bin .add (.sl 2) (.int .i64 1)))], [], none, [], 8, [], [], []⟩])
        (.seq
         (.seq
          (.reg [⟨[], [(22, (.bin .eql (.sl 13) (.int .i64 2)))], [], none, [2, 3, 4, 8, 9, 13], 2, [], [], []⟩])
          (.cond (.sl 22)
           .skip
           (.reg [⟨[], [(22, (.bin .eql (.sl 13) (.int .i64 3)))], [], none, [2, 3, 4, 8, 9, 13], 2, [], [], []⟩])))
         (.cond (.sl 22)
          (.reg [⟨[], [(9, (.bin .add (.sl 2) (.int .i64 1)))], [], none, [8], 3, [], [], []⟩])
          (.seq
           (.reg [⟨[], [(27, (.bin .eql (.sl 13) (.int .i64 4)))], [], none, [2, 3, 4, 8, 9, 13], 2, [], [], []⟩])
           (.cond (.sl 27)
            (.reg [⟨[], [(8, (.bin .lss (.ld 1 false (.fa 1 (.sl 4))) (.sl 2))), (9, (.bin .sub (.sl 2) (.ld 1 false (.fa 1 (.sl 4)))))], [], none, [], 10, [[], [0], [], [2, 0, 1], [], [], [5], [5, 6, 4], [1, 0, 2, 3], [3, 2, 0, 1, 8, 4, 6, 5, 7]], [], []⟩])
            (.seq
             (.reg [⟨[], [(37, (.bin .eql (.sl 13) (.int .i64 5)))], [], none, [2, 3, 4, 8, 9, 13], 2, [], [], []⟩])
             (.cond (.sl 37)
              (.reg [⟨[], [(8, (.bin .lss (.ld 1 false (.fa 1 (.sl 4))) (.bin .sub (.sl 2) (.int .i64 1)))), (9, (.bin .sub (.sl 2) (.ld 1 false (.fa 1 (.sl 4)))))], [], none, [], 11, [[], [0], [], [2], [2, 3, 0, 1], [], [], [6], [6, 7, 5], [1, 0, 3, 2, 4], [4, 2, 3, 0, 1, 9, 5, 7, 6, 8]], [], []⟩])
              (.seq
               (.seq
                (.reg [⟨[], [(48, (.bin .eql (.sl 13) (.int .i64 6)))], [], none, [2, 3, 4, 8, 9, 13], 2, [], [], []⟩])
                (.cond (.sl 48)
                 .skip
                 (.reg [⟨[], [(48, (.bin .eql (.sl 13) (.int .i64 12)))], [], none, [2, 3, 4, 8, 9, 13], 2, [], [], []⟩])))
               (.cond (.sl 48)
                (.reg [⟨[], [(8, (.bin .gtr (.sl 2) (.int .i64 2))), (9, (.bin .sub (.sl 2) (.int .i64 1)))], [], none, [], 6, [], [], []⟩])
                (.seq
                 (.reg [⟨[], [(55, (.bin .eql (.sl 13) (.int .i64 7)))], [], none, [2, 3, 4, 8, 9, 13], 2, [], [], []⟩])
                 (.cond (.sl 55)
                  (.reg [⟨[], [(8, (.bin .lss (.ld 1 false (.fa 1 (.sl 4))) (.sl 2))), (9, (.bin .sub (.sl 2) (.int .i64 1)))], [], none, [], 8, [], [], []⟩])
                  (.seq
                   (.reg [⟨[], [(63, (.bin .eql (.sl 13) (.int .i64 8)))], [], none, [2, 3, 4, 8, 9, 13], 2, [], [], []⟩])
                   (.cond (.sl 63)
                    (.reg [⟨[], [(8, (.bin .leq (.ld 1 false (.fa 1 (.sl 4))) (.int .i64 8000))), (9, (.bin .add (.sl 2) (.cond (.and (.bin .eql (.bin .and (.int .i64 8000) (.int .i64 0)) (.bin .and (.int .i64 8000) (.int .i64 0))) (.bin .lss (.int .i64 8000) (.ld 1 false (.fa 1 (.sl 4))))) (.int .i64 8000) (.ld 1 false (.fa 1 (.sl 4))))))], [], none, [], 10, [[], [0], [0, 1], [], [], [4], [4, 5], [5, 4, 6, 3], [1, 0, 2], [2, 0, 1, 8, 3, 6, 4, 5, 7]], [], []⟩])
                    (.seq
                     (.reg [⟨[], [(73, (.bin .eql (.sl 13) (.int .i64 9)))], [], none, [2, 3, 4, 8, 9, 13], 2, [], [], []⟩])
                     (.cond (.sl 73)
                      (.seq
                       (.reg [⟨[], [(10, (.ld 1 false (.fa 1 (.ia 2 (.ld 1 false (.fa 0 (.sl 3))) (.ld 1 false (.fa 1 (.sl 4)))))))], [], none, [2], 8, [], [], []⟩])
                       (.reg [⟨[], [(8, (.bin .lss (.sl 10) (.sl 2))), (9, (.bin .add (.bin .sub (.sl 2) (.sl 10)) (.int .i64 1)))], [], none, [], 9, [], [], []⟩]))
                      (.seq
                       (.reg [⟨[], [(89, (.bin .eql (.sl 13) (.int .i64 10)))], [], none, [2, 3, 4, 8, 9, 13], 2, [], [], []⟩])
                       (.cond (.sl 89)
                        (.reg [⟨[], [(8, (.bin .gtr (.sl 2) (.int .i64 1))), (9, (.bin .add (.bin .sub (.sl 2) (.int .i64 1)) (.ld 1 false (.fa 1 (.ia 2 (.ld 1 false (.fa 0 (.sl 3))) (.ld 1 false (.fa 1 (.sl 4))))))))], [], none, [], 14, [[], [0], [], [2], [], [4], [], [6], [6, 7, 4, 5], [5, 4, 7, 6, 8], [8, 6, 7, 4, 5, 9], [9, 5, 4, 7, 6, 8, 10, 2, 3], [0, 1], [1, 0, 12, 3, 2, 10, 8, 6, 7, 4, 5, 9, 11]], [], []⟩])
                        (.seq
                         (.seq
                          (.reg [⟨[], [(103, (.bin .eql (.sl 13) (.int .i64 11)))], [], none, [2, 8, 9, 13], 2, [], [], []⟩])
                          (.cond (.sl 103)
                           .skip
                           (.seq
                            (.reg [⟨[], [(103, (.bin .eql (.sl 13) (.int .i64 14)))], [], none, [2, 8, 9, 13], 2, [], [], []⟩])
                            (.cond (.sl 103)
                             .skip
                             (.reg [⟨[], [(103, (.bin .eql (.sl 13) (.int .i64 15)))], [], none, [2, 8, 9, 13], 2, [], [], []⟩])))))
                         (.cond (.sl 103)
                          (.reg [⟨[], [(8, (.bin .gtr (.sl 2) (.int .i64 1)))], [], none, [9], 3, [], [], []⟩])
                          (.seq
                           (.reg [⟨[], [(109, (.bin .eql (.sl 13) (.int .i64 17)))], [], none, [2, 8, 9], 2, [], [], []⟩])
                           (.cond (.sl 109)
                            (.reg [⟨[], [(8, (.bin .eql (.sl 2) (.int .i64 1)))], [], none, [9], 3, [], [], []⟩])
                            .skip))))))))))))))))))))))))
    (.seq
     (.reg [⟨[], [(6, (.sl 9)), (7, (.and (.sl 8) (.bin .leq (.sl 9) (.int .i64 8000))))], [], none, [], 8, [], [], []⟩])
     (.seq
      (.tidy 0 [6, 7])
      .ret))))),
 [(.sl 6), (.sl 7)], false⟩
theorem f42_ok : funOk Go.Proofs.Try.prog 42 0 3 f42 = true := by kernel_rfl

/- 'sloth/code.reach' -/
def f43 : Fun := ⟨
 (.seq
  (.reg [⟨[], [], [(.bool false)], none, [0, 1, 2], 1, [], [], []⟩])
  (.seq
   (.seq
    (.reg [⟨[], [(11, (.bin .eql (.ld 1 false (.ia 1 (.sl 0) (.sl 1))) (.int .i64 0)))], [], none, [0, 1, 2], 5, [], [], []⟩])
    (.cond (.sl 11)
     (.reg [⟨[], [], [], some (none, .store 1 (.ia 1 (.sl 0) (.sl 1)) (.sl 2)), [0, 1, 2], 5, [], [], []⟩])
     .skip))
   (.seq
    (.reg [⟨[], [(6, (.bin .eql (.ld 1 false (.ia 1 (.sl 0) (.sl 1))) (.sl 2)))], [], none, [], 7, [], [], []⟩])
    (.seq
     (.tidy 1 [6])
     .ret)))),
 [(.sl 6)], false⟩
theorem f43_ok : funOk Go.Proofs.Try.prog 43 1 3 f43 = true := by kernel_rfl


theorem ev_number (K : Cx) (t : Table) (g : Glob) (at_ n kind : Int) (hk : 0 ≤ kind ∧ kind ≤ 8) :
    runFun K f41 [.agg [.d false (.sl 2 (t.shapes.map eShape)), .d false (.sl 3 (t.globals.map eGlob))], .agg [.d false (.str g.name), .d false (.int .i64 g.arity), .d false (.sl 3 (g.code.map eInstr))], .d false (.int .i64 at_), .d false (.int .i64 n), .d false (.int .i64 kind)] []
    = some (.d false (.int .i64 (numberS t.globals.length t.shapes.length g.code.length at_ n kind)), [], []) := by
  have : kind = 0 ∨ kind = 1 ∨ kind = 2 ∨ kind = 3 ∨ kind = 4 ∨ kind = 5 ∨ kind = 6 ∨ kind = 7 ∨ kind = 8 := by omega
  unfold numberS
  rcases this with rfl | rfl | rfl | rfl | rfl | rfl | rfl | rfl | rfl
  · by_cases h : n = 0
    · simp (disch := first | decide | omega | (simp only [LN]; omega) | (simp only [LN]; done) | fail) only [SV, f41, Int.reduceNeg, h, Nat.zero_add, Nat.reduceAdd, beq_self_eq_true, V.laid, V.cells, if_true, Nat.reduceBEq, Bool.and_self, evBin, intBin, evUn, Bool.not_true, V.refs, decide_true, oneOr, Bool.false_eq_true, if_false, finV, finA, finC, Int.reduceEq, decide_false, and_self, true_and, and_true]
    · simp (disch := first | decide | omega | (simp only [LN]; omega) | (simp only [LN]; done) | fail) only [SV, f41, Int.reduceNeg, Nat.zero_add, Nat.reduceAdd, beq_self_eq_true, V.laid, V.cells, if_true, Nat.reduceBEq, Bool.and_self, evBin, intBin, evUn, Bool.not_false, V.refs, decide_true, oneOr, Bool.false_eq_true, if_false, finV, finA, finC, Int.reduceEq, h, decide_false]
  · by_cases h : 0 ≤ n
    · simp (disch := first | decide | omega | (simp only [LN]; omega) | (simp only [LN]; done) | fail) only [SV, f41, Int.reduceNeg, Nat.zero_add, Nat.reduceAdd, beq_self_eq_true, V.laid, V.cells, if_true, Nat.reduceBEq, Bool.and_self, evBin, intBin, decide_true, evUn, Bool.not_true, V.refs, oneOr, Bool.false_eq_true, if_false, finV, finA, finC, Int.reduceEq, true_and]
    · simp (disch := first | decide | omega | (simp only [LN]; omega) | (simp only [LN]; done) | fail) only [SV, f41, Int.reduceNeg, Nat.zero_add, Nat.reduceAdd, beq_self_eq_true, V.laid, V.cells, if_true, Nat.reduceBEq, Bool.and_self, evBin, intBin, decide_false, evUn, Bool.not_false, V.refs, decide_true, oneOr, Bool.false_eq_true, if_false, finV, finA, finC, Int.reduceEq, or_false, and_true]
  · by_cases h : 1 ≤ n
    · simp (disch := first | decide | omega | (simp only [LN]; omega) | (simp only [LN]; done) | fail) only [SV, f41, Int.reduceNeg, Nat.zero_add, Nat.reduceAdd, beq_self_eq_true, V.laid, V.cells, if_true, Nat.reduceBEq, Bool.and_self, evBin, intBin, decide_true, evUn, Bool.not_true, V.refs, oneOr, Bool.false_eq_true, if_false, finV, finA, finC, Int.reduceEq, true_and]
    · simp (disch := first | decide | omega | (simp only [LN]; omega) | (simp only [LN]; done) | fail) only [SV, f41, Int.reduceNeg, Nat.zero_add, Nat.reduceAdd, beq_self_eq_true, V.laid, V.cells, if_true, Nat.reduceBEq, Bool.and_self, evBin, intBin, decide_false, evUn, Bool.not_false, V.refs, decide_true, oneOr, Bool.false_eq_true, if_false, finV, finA, finC, Int.reduceEq, and_true]
  · by_cases h : -4611686018427387904 ≤ n
    · by_cases h2 : n ≤ 4611686018427387903
      · simp (disch := first | decide | omega | (simp only [LN]; omega) | (simp only [LN]; done) | fail) only [SV, f41, Int.reduceNeg, Nat.zero_add, Nat.reduceAdd, beq_self_eq_true, V.laid, V.cells, if_true, Nat.reduceBEq, Bool.and_self, evBin, intBin, decide_true, evUn, Bool.not_true, V.refs, oneOr, Bool.false_eq_true, if_false, finV, finA, finC, Int.reduceEq, and_self]
      · simp (disch := first | decide | omega | (simp only [LN]; omega) | (simp only [LN]; done) | fail) only [SV, f41, Int.reduceNeg, Nat.zero_add, Nat.reduceAdd, beq_self_eq_true, V.laid, V.cells, if_true, Nat.reduceBEq, Bool.and_self, evBin, intBin, decide_true, decide_false, Bool.and_false, evUn, Bool.not_false, V.refs, oneOr, Bool.false_eq_true, if_false, finV, finA, finC, Int.reduceEq, and_false, true_and]
    · simp (disch := first | decide | omega | (simp only [LN]; omega) | (simp only [LN]; done) | fail) only [SV, f41, Int.reduceNeg, Nat.zero_add, Nat.reduceAdd, beq_self_eq_true, V.laid, V.cells, if_true, Nat.reduceBEq, Bool.and_self, evBin, intBin, decide_false, decide_true, Bool.and_true, evUn, Bool.not_false, V.refs, oneOr, Bool.false_eq_true, if_false, finV, finA, finC, Int.reduceEq, or_false, and_true]
  · by_cases h : 0 ≤ n
    · by_cases h2 : n < t.globals.length
      · simp (disch := first | decide | omega | (simp only [LN]; omega) | (simp only [LN]; done) | fail) only [SV, f41, Int.reduceNeg, Nat.zero_add, Nat.reduceAdd, beq_self_eq_true, V.laid, V.cells, if_true, Nat.reduceBEq, Bool.and_self, evBin, intBin, decide_true, evFa, List.getElem?_cons_zero, evLen, evUn, Bool.not_true, V.refs, oneOr, Bool.false_eq_true, if_false, finV, finA, finC, Int.reduceEq, true_and, and_self]
      · simp (disch := first | decide | omega | (simp only [LN]; omega) | (simp only [LN]; done) | fail) only [SV, f41, Int.reduceNeg, Nat.zero_add, Nat.reduceAdd, beq_self_eq_true, V.laid, V.cells, if_true, Nat.reduceBEq, Bool.and_self, evBin, intBin, decide_true, evFa, List.getElem?_cons_zero, evLen, decide_false, Bool.and_false, evUn, Bool.not_false, V.refs, oneOr, Bool.false_eq_true, if_false, finV, finA, finC, Int.reduceEq, true_and, and_false]
    · simp (disch := first | decide | omega | (simp only [LN]; omega) | (simp only [LN]; done) | fail) only [SV, f41, Int.reduceNeg, Nat.zero_add, Nat.reduceAdd, beq_self_eq_true, V.laid, V.cells, if_true, Nat.reduceBEq, Bool.and_self, evBin, intBin, decide_false, evFa, List.getElem?_cons_zero, evLen, decide_true, Bool.and_true, evUn, Bool.not_false, V.refs, oneOr, Bool.false_eq_true, if_false, finV, finA, finC, Int.reduceEq, or_false, and_true]
  · by_cases h : 0 ≤ n
    · by_cases h2 : n < t.shapes.length
      · simp (disch := first | decide | omega | (simp only [LN]; omega) | (simp only [LN]; done) | fail) only [SV, f41, Int.reduceNeg, Nat.zero_add, Nat.reduceAdd, beq_self_eq_true, V.laid, V.cells, if_true, Nat.reduceBEq, Bool.and_self, evBin, intBin, decide_true, evFa, Nat.add_zero, List.getElem?_cons_zero, evLen, evUn, Bool.not_true, V.refs, oneOr, Bool.false_eq_true, if_false, finV, finA, finC, Int.reduceEq, true_and, and_self]
      · simp (disch := first | decide | omega | (simp only [LN]; omega) | (simp only [LN]; done) | fail) only [SV, f41, Int.reduceNeg, Nat.zero_add, Nat.reduceAdd, beq_self_eq_true, V.laid, V.cells, if_true, Nat.reduceBEq, Bool.and_self, evBin, intBin, decide_true, evFa, Nat.add_zero, List.getElem?_cons_zero, evLen, decide_false, Bool.and_false, evUn, Bool.not_false, V.refs, oneOr, Bool.false_eq_true, if_false, finV, finA, finC, Int.reduceEq, true_and, and_false]
    · simp (disch := first | decide | omega | (simp only [LN]; omega) | (simp only [LN]; done) | fail) only [SV, f41, Int.reduceNeg, Nat.zero_add, Nat.reduceAdd, beq_self_eq_true, V.laid, V.cells, if_true, Nat.reduceBEq, Bool.and_self, evBin, intBin, decide_false, evFa, Nat.add_zero, List.getElem?_cons_zero, evLen, decide_true, Bool.and_true, evUn, Bool.not_false, V.refs, oneOr, Bool.false_eq_true, if_false, finV, finA, finC, Int.reduceEq, or_false, and_true]
  · by_cases h : 1 ≤ n
    · by_cases h2 : n ≤ 11
      · simp (disch := first | decide | omega | (simp only [LN]; omega) | (simp only [LN]; done) | fail) only [SV, f41, Int.reduceNeg, Nat.zero_add, Nat.reduceAdd, beq_self_eq_true, V.laid, V.cells, if_true, Nat.reduceBEq, Bool.and_self, evBin, intBin, decide_true, evUn, Bool.not_true, V.refs, oneOr, Bool.false_eq_true, if_false, finV, finA, finC, Int.reduceEq, and_self, true_and]
      · simp (disch := first | decide | omega | (simp only [LN]; omega) | (simp only [LN]; done) | fail) only [SV, f41, Int.reduceNeg, Nat.zero_add, Nat.reduceAdd, beq_self_eq_true, V.laid, V.cells, if_true, Nat.reduceBEq, Bool.and_self, evBin, intBin, decide_true, decide_false, Bool.and_false, evUn, Bool.not_false, V.refs, oneOr, Bool.false_eq_true, if_false, finV, finA, finC, Int.reduceEq, true_and, and_false]
    · simp (disch := first | decide | omega | (simp only [LN]; omega) | (simp only [LN]; done) | fail) only [SV, f41, Int.reduceNeg, Nat.zero_add, Nat.reduceAdd, beq_self_eq_true, V.laid, V.cells, if_true, Nat.reduceBEq, Bool.and_self, evBin, intBin, decide_false, decide_true, Bool.and_true, evUn, Bool.not_false, V.refs, oneOr, Bool.false_eq_true, if_false, finV, finA, finC, Int.reduceEq, and_true]
  · by_cases h : 1 ≤ n
    · by_cases h2 : n ≤ 4
      · simp (disch := first | decide | omega | (simp only [LN]; omega) | (simp only [LN]; done) | fail) only [SV, f41, Int.reduceNeg, Nat.zero_add, Nat.reduceAdd, beq_self_eq_true, V.laid, V.cells, if_true, Nat.reduceBEq, Bool.and_self, evBin, intBin, decide_true, evUn, Bool.not_true, V.refs, oneOr, Bool.false_eq_true, if_false, finV, finA, finC, Int.reduceEq, and_self, true_and]
      · simp (disch := first | decide | omega | (simp only [LN]; omega) | (simp only [LN]; done) | fail) only [SV, f41, Int.reduceNeg, Nat.zero_add, Nat.reduceAdd, beq_self_eq_true, V.laid, V.cells, if_true, Nat.reduceBEq, Bool.and_self, evBin, intBin, decide_true, decide_false, Bool.and_false, evUn, Bool.not_false, V.refs, oneOr, Bool.false_eq_true, if_false, finV, finA, finC, Int.reduceEq, true_and, and_false]
    · simp (disch := first | decide | omega | (simp only [LN]; omega) | (simp only [LN]; done) | fail) only [SV, f41, Int.reduceNeg, Nat.zero_add, Nat.reduceAdd, beq_self_eq_true, V.laid, V.cells, if_true, Nat.reduceBEq, Bool.and_self, evBin, intBin, decide_false, decide_true, Bool.and_true, evUn, Bool.not_false, V.refs, oneOr, Bool.false_eq_true, if_false, finV, finA, finC, Int.reduceEq, and_true]
  · by_cases h : n ≤ at_
    · simp (disch := first | decide | omega | (simp only [LN]; omega) | (simp only [LN]; done) | fail) only [SV, f41, Int.reduceNeg, Nat.zero_add, Nat.reduceAdd, beq_self_eq_true, V.laid, V.cells, if_true, Nat.reduceBEq, Bool.and_self, evBin, intBin, decide_true, evFa, List.getElem?_cons_zero, evLen, Bool.true_or, V.refs, oneOr, Bool.false_eq_true, if_false, finV, finA, finC, true_or, Int.reduceEq]
    · by_cases h2 : (g.code.length : Int) ≤ n
      · simp (disch := first | decide | omega | (simp only [LN]; omega) | (simp only [LN]; done) | fail) only [SV, f41, Int.reduceNeg, Nat.zero_add, Nat.reduceAdd, beq_self_eq_true, V.laid, V.cells, if_true, Nat.reduceBEq, Bool.and_self, evBin, intBin, decide_false, evFa, List.getElem?_cons_zero, evLen, decide_true, Bool.or_true, V.refs, oneOr, Bool.false_eq_true, if_false, finV, finA, finC, or_true, Int.reduceEq, true_and]
      · simp (disch := first | decide | omega | (simp only [LN]; omega) | (simp only [LN]; done) | fail) only [SV, f41, Int.reduceNeg, Nat.zero_add, Nat.reduceAdd, beq_self_eq_true, V.laid, V.cells, if_true, Nat.reduceBEq, Bool.and_self, evBin, intBin, decide_false, evFa, List.getElem?_cons_zero, evLen, Bool.or_self, evUn, Bool.not_true, V.refs, decide_true, oneOr, Bool.false_eq_true, if_false, finV, finA, finC, or_self, Int.reduceEq]

theorem ev_reach (K : Cx) (c : Bool) (Dp : List Int) (at_ d : Int) (h : 0 ≤ at_ ∧ at_ < Dp.length) (n : Nat) (hn : n = Dp.length) :
    runFun K f43 [.bsl 0 0 n, .d false (.int .i64 at_), .d false (.int .i64 d)] [.dat c 1 (Dp.map eInt)] = some (.d false (.bool (reachB' Dp at_ d)), [.dat c 1 ((reachS Dp at_ d).map eInt)], []) := by
  subst hn
  obtain ⟨h0, h1⟩ := h
  unfold reachB' reachS
  have hs := nth_set_self Dp at_ d h0 h1
  by_cases g : nth Dp at_ = 0
  · rw [if_pos g, if_pos g]
    simp (disch := first | decide | omega | (simp only [LN]; omega) | (simp only [LN]; done) | fail) only [SV, f43, Nat.zero_add, Nat.reduceAdd, Bool.and_self, beq_self_eq_true, Nat.reduceBEq, g, eInt_eq, D.flat, if_true, evBin, intBin, V.laid, V.cell, V.cells, Nat.le_refl, asD, V.new1, Bool.or_true, Bool.and_true, fIntS, lose, hs, range1, V.refs, not_false_eq_true, and_self, decide_true, Bool.false_eq_true, if_false, oneOr, finV, finA, finC]
  · rw [if_neg g, if_neg g]
    simp (disch := first | decide | omega | (simp only [LN]; omega) | (simp only [LN]; done) | fail) only [SV, f43, Nat.zero_add, Nat.reduceAdd, Bool.and_self, beq_self_eq_true, Nat.reduceBEq, eInt_eq, D.flat, if_true, evBin, intBin, range1, V.refs, not_false_eq_true, and_self, decide_true, Bool.false_eq_true, if_false, oneOr, finV, finA, finC]

set_option maxHeartbeats 8000000 in
theorem ev_stacked (K : Cx) (t : Table) (x : Instr) (d : Int) (hd : 1 ≤ d ∧ d ≤ 8000) (ha : 0 ≤ x.a ∧ x.a ≤ 9223372036854775807 ∨ (x.op ≠ 1 ∧ x.op ≠ 4 ∧ x.op ≠ 5 ∧ x.op ≠ 7 ∧ x.op ≠ 8)) (hs : x.op = 9 ∨ x.op = 10 → 0 ≤ x.a ∧ x.a < t.shapes.length ∧ 0 ≤ (nth t.shapes x.a).fields ∧ (nth t.shapes x.a).fields ≤ 8) :
    runFun K f42 [.agg [.d false (.sl 2 (t.shapes.map eShape)), .d false (.sl 3 (t.globals.map eGlob))], .agg [.d false (.int .i64 x.op), .d false (.int .i64 x.a), .d false (.int .i64 x.b)], .d false (.int .i64 d)] []
    = some (.tup [.d false (.int .i64 (stackedS t.shapes x d).1), .d false (.bool (stackedS t.shapes x d).2)], [], []) := by
  obtain ⟨op, a, b⟩ := x
  simp only at ha hs ⊢
  obtain ⟨d1, d2⟩ := hd
  unfold stackedS
  simp only
  by_cases g1 : op = 1
  · subst g1
    have ⟨a1, a2⟩ : 0 ≤ a ∧ a ≤ 9223372036854775807 := by omega
    clear hs ha
    by_cases k : a < d
    · simp (disch := first | decide | omega | (simp only [LN]; omega) | (simp only [LN]; done) | fail) only [SV, f42, Nat.zero_add, Nat.reduceAdd, beq_self_eq_true, V.laid, V.cells, if_true, Nat.reduceBEq, Bool.and_self, evFa, Nat.add_zero, List.getElem?_cons_zero, evBin, intBin, decide_true, Bool.true_and, V.refs, oneOr, Bool.false_eq_true, if_false, finV, finA, finC, Int.reduceEq, or_self]
    · simp (disch := first | decide | omega | (simp only [LN]; omega) | (simp only [LN]; done) | fail) only [SV, f42, Nat.zero_add, Nat.reduceAdd, beq_self_eq_true, V.laid, V.cells, if_true, Nat.reduceBEq, Bool.and_self, evFa, Nat.add_zero, List.getElem?_cons_zero, evBin, intBin, decide_false, Bool.false_and, V.refs, decide_true, oneOr, Bool.false_eq_true, if_false, finV, finA, finC, Int.reduceEq, or_self]
  by_cases g2 : op = 2
  · subst g2
    simp (disch := first | decide | omega | (simp only [LN]; omega) | (simp only [LN]; done) | fail) only [SV, f42, Nat.zero_add, Nat.reduceAdd, beq_self_eq_true, V.laid, V.cells, if_true, Nat.reduceBEq, Bool.and_self, evFa, Nat.add_zero, List.getElem?_cons_zero, evBin, intBin, Bool.true_and, V.refs, decide_true, oneOr, Bool.false_eq_true, if_false, finV, finA, finC, Int.reduceEq, or_false, or_self]
  by_cases g3 : op = 3
  · subst g3
    simp (disch := first | decide | omega | (simp only [LN]; omega) | (simp only [LN]; done) | fail) only [SV, f42, Nat.zero_add, Nat.reduceAdd, beq_self_eq_true, V.laid, V.cells, if_true, Nat.reduceBEq, Bool.and_self, evFa, Nat.add_zero, List.getElem?_cons_zero, evBin, intBin, Bool.true_and, V.refs, decide_true, oneOr, Bool.false_eq_true, if_false, finV, finA, finC, Int.reduceEq, or_true, or_self]
  by_cases g4 : op = 4
  · subst g4
    have ⟨a1, a2⟩ : 0 ≤ a ∧ a ≤ 9223372036854775807 := by omega
    clear hs ha
    by_cases k : a < d
    · simp (disch := first | decide | omega | (simp only [LN]; omega) | (simp only [LN]; done) | fail) only [SV, f42, Nat.zero_add, Nat.reduceAdd, beq_self_eq_true, V.laid, V.cells, if_true, Nat.reduceBEq, Bool.and_self, evFa, Nat.add_zero, List.getElem?_cons_zero, evBin, intBin, decide_true, V.refs, oneOr, Bool.false_eq_true, if_false, finV, finA, finC, Int.reduceEq, or_self]
    · simp (disch := first | decide | omega | (simp only [LN]; omega) | (simp only [LN]; done) | fail) only [SV, f42, Nat.zero_add, Nat.reduceAdd, beq_self_eq_true, V.laid, V.cells, if_true, Nat.reduceBEq, Bool.and_self, evFa, Nat.add_zero, List.getElem?_cons_zero, evBin, intBin, decide_false, decide_true, Bool.and_true, V.refs, oneOr, Bool.false_eq_true, if_false, finV, finA, finC, Int.reduceEq, or_self]
  by_cases g5 : op = 5
  · subst g5
    have ⟨a1, a2⟩ : 0 ≤ a ∧ a ≤ 9223372036854775807 := by omega
    clear hs ha
    by_cases k : a < d - 1
    · simp (disch := first | decide | omega | (simp only [LN]; omega) | (simp only [LN]; done) | fail) only [SV, f42, Nat.zero_add, Nat.reduceAdd, beq_self_eq_true, V.laid, V.cells, if_true, Nat.reduceBEq, Bool.and_self, evFa, Nat.add_zero, List.getElem?_cons_zero, evBin, intBin, decide_true, V.refs, oneOr, Bool.false_eq_true, if_false, finV, finA, finC, Int.reduceEq, or_self]
    · simp (disch := first | decide | omega | (simp only [LN]; omega) | (simp only [LN]; done) | fail) only [SV, f42, Nat.zero_add, Nat.reduceAdd, beq_self_eq_true, V.laid, V.cells, if_true, Nat.reduceBEq, Bool.and_self, evFa, Nat.add_zero, List.getElem?_cons_zero, evBin, intBin, decide_false, decide_true, Bool.and_true, V.refs, oneOr, Bool.false_eq_true, if_false, finV, finA, finC, Int.reduceEq, or_self]
  by_cases g6 : op = 6
  · subst g6
    by_cases k : 2 < d
    · simp (disch := first | decide | omega | (simp only [LN]; omega) | (simp only [LN]; done) | fail) only [SV, f42, Nat.zero_add, Nat.reduceAdd, beq_self_eq_true, V.laid, V.cells, if_true, Nat.reduceBEq, Bool.and_self, evFa, Nat.add_zero, List.getElem?_cons_zero, evBin, intBin, decide_true, V.refs, oneOr, Bool.false_eq_true, if_false, finV, finA, finC, Int.reduceEq, or_self, or_false]
    · simp (disch := first | decide | omega | (simp only [LN]; omega) | (simp only [LN]; done) | fail) only [SV, f42, Nat.zero_add, Nat.reduceAdd, beq_self_eq_true, V.laid, V.cells, if_true, Nat.reduceBEq, Bool.and_self, evFa, Nat.add_zero, List.getElem?_cons_zero, evBin, intBin, decide_false, decide_true, Bool.and_true, V.refs, oneOr, Bool.false_eq_true, if_false, finV, finA, finC, Int.reduceEq, or_self, or_false]
  by_cases g12 : op = 12
  · subst g12
    by_cases k : 2 < d
    · simp (disch := first | decide | omega | (simp only [LN]; omega) | (simp only [LN]; done) | fail) only [SV, f42, Nat.zero_add, Nat.reduceAdd, beq_self_eq_true, V.laid, V.cells, if_true, Nat.reduceBEq, Bool.and_self, evFa, Nat.add_zero, List.getElem?_cons_zero, evBin, intBin, decide_true, V.refs, oneOr, Bool.false_eq_true, if_false, finV, finA, finC, Int.reduceEq, or_self, or_true]
    · simp (disch := first | decide | omega | (simp only [LN]; omega) | (simp only [LN]; done) | fail) only [SV, f42, Nat.zero_add, Nat.reduceAdd, beq_self_eq_true, V.laid, V.cells, if_true, Nat.reduceBEq, Bool.and_self, evFa, Nat.add_zero, List.getElem?_cons_zero, evBin, intBin, decide_false, decide_true, Bool.and_true, V.refs, oneOr, Bool.false_eq_true, if_false, finV, finA, finC, Int.reduceEq, or_self, or_true]
  by_cases g7 : op = 7
  · subst g7
    have ⟨a1, a2⟩ : 0 ≤ a ∧ a ≤ 9223372036854775807 := by omega
    clear hs ha
    by_cases k : a < d
    · simp (disch := first | decide | omega | (simp only [LN]; omega) | (simp only [LN]; done) | fail) only [SV, f42, Nat.zero_add, Nat.reduceAdd, beq_self_eq_true, V.laid, V.cells, if_true, Nat.reduceBEq, Bool.and_self, evFa, Nat.add_zero, List.getElem?_cons_zero, evBin, intBin, decide_true, V.refs, oneOr, Bool.false_eq_true, if_false, finV, finA, finC, Int.reduceEq, or_self]
    · simp (disch := first | decide | omega | (simp only [LN]; omega) | (simp only [LN]; done) | fail) only [SV, f42, Nat.zero_add, Nat.reduceAdd, beq_self_eq_true, V.laid, V.cells, if_true, Nat.reduceBEq, Bool.and_self, evFa, Nat.add_zero, List.getElem?_cons_zero, evBin, intBin, decide_false, decide_true, Bool.and_true, V.refs, oneOr, Bool.false_eq_true, if_false, finV, finA, finC, Int.reduceEq, or_self]
  by_cases g8 : op = 8
  · subst g8
    have ⟨a1, a2⟩ : 0 ≤ a ∧ a ≤ 9223372036854775807 := by omega
    clear hs ha
    by_cases k : 8000 < a
    · simp (disch := first | decide | omega | (simp only [LN]; omega) | (simp only [LN]; done) | fail) only [SV, f42, Nat.zero_add, Nat.reduceAdd, beq_self_eq_true, V.laid, V.cells, if_true, Nat.reduceBEq, Bool.and_self, evFa, Nat.add_zero, List.getElem?_cons_zero, evBin, intBin, decide_false, decide_true, V.refs, oneOr, Bool.false_eq_true, if_false, finV, finA, finC, Int.reduceEq, or_self]
    · by_cases k2 : d + a ≤ 8000
      · simp (disch := first | decide | omega | (simp only [LN]; omega) | (simp only [LN]; done) | fail) only [SV, f42, Nat.zero_add, Nat.reduceAdd, beq_self_eq_true, V.laid, V.cells, if_true, Nat.reduceBEq, Bool.and_self, evFa, Nat.add_zero, List.getElem?_cons_zero, evBin, intBin, decide_true, decide_false, Bool.and_false, Bool.false_eq_true, if_false, V.refs, oneOr, finV, finA, finC, Int.reduceEq, or_self]
      · simp (disch := first | decide | omega | (simp only [LN]; omega) | (simp only [LN]; done) | fail) only [SV, f42, Nat.zero_add, Nat.reduceAdd, beq_self_eq_true, V.laid, V.cells, if_true, Nat.reduceBEq, Bool.and_self, evFa, Nat.add_zero, List.getElem?_cons_zero, evBin, intBin, decide_true, decide_false, Bool.and_false, Bool.false_eq_true, if_false, V.refs, oneOr, finV, finA, finC, Int.reduceEq, or_self]
  by_cases g9 : op = 9
  · subst g9
    obtain ⟨a1, a2, a3, a4⟩ := hs (.inl rfl)
    clear ha
    unfold fieldsS
    generalize hf : (nth t.shapes a).fields = fl at a3 a4
    by_cases k : fl < d
    · simp (disch := first | decide | omega | (simp only [LN]; omega) | (simp only [LN]; done) | fail) only [SV, f42, Nat.zero_add, Nat.reduceAdd, beq_self_eq_true, V.laid, V.cells, if_true, Nat.reduceBEq, Bool.and_self, evFa, Nat.add_zero, List.getElem?_cons_zero, evBin, intBin, eShape_eq, hf, D.flat, decide_true, Bool.true_and, V.refs, oneOr, Bool.false_eq_true, if_false, finV, finA, finC, Int.reduceEq, or_self]
    · simp (disch := first | decide | omega | (simp only [LN]; omega) | (simp only [LN]; done) | fail) only [SV, f42, Nat.zero_add, Nat.reduceAdd, beq_self_eq_true, V.laid, V.cells, if_true, Nat.reduceBEq, Bool.and_self, evFa, Nat.add_zero, List.getElem?_cons_zero, evBin, intBin, eShape_eq, hf, D.flat, decide_false, decide_true, Bool.and_true, V.refs, oneOr, Bool.false_eq_true, if_false, finV, finA, finC, Int.reduceEq, or_self]
  by_cases g10 : op = 10
  · subst g10
    obtain ⟨a1, a2, a3, a4⟩ := hs (.inr rfl)
    clear ha
    unfold fieldsS
    generalize hf : (nth t.shapes a).fields = fl at a3 a4
    by_cases k : 1 < d
    · by_cases k2 : d - 1 + fl ≤ 8000
      · simp (disch := first | decide | omega | (simp only [LN]; omega) | (simp only [LN]; done) | fail) only [SV, f42, Nat.zero_add, Nat.reduceAdd, beq_self_eq_true, V.laid, V.cells, if_true, Nat.reduceBEq, Bool.and_self, evFa, Nat.add_zero, List.getElem?_cons_zero, evBin, intBin, decide_true, eShape_eq, hf, D.flat, V.refs, oneOr, Bool.false_eq_true, if_false, finV, finA, finC, Int.reduceEq, or_self]
      · simp (disch := first | decide | omega | (simp only [LN]; omega) | (simp only [LN]; done) | fail) only [SV, f42, Nat.zero_add, Nat.reduceAdd, beq_self_eq_true, V.laid, V.cells, if_true, Nat.reduceBEq, Bool.and_self, evFa, Nat.add_zero, List.getElem?_cons_zero, evBin, intBin, decide_true, eShape_eq, hf, D.flat, decide_false, Bool.and_false, V.refs, oneOr, Bool.false_eq_true, if_false, finV, finA, finC, Int.reduceEq, or_self]
    · simp (disch := first | decide | omega | (simp only [LN]; omega) | (simp only [LN]; done) | fail) only [SV, f42, Nat.zero_add, Nat.reduceAdd, beq_self_eq_true, V.laid, V.cells, if_true, Nat.reduceBEq, Bool.and_self, evFa, Nat.add_zero, List.getElem?_cons_zero, evBin, intBin, decide_false, eShape_eq, hf, D.flat, decide_true, Bool.and_true, V.refs, oneOr, Bool.false_eq_true, if_false, finV, finA, finC, Int.reduceEq, or_self]
  by_cases g11 : op = 11
  · subst g11
    by_cases k : 1 < d
    · simp (disch := first | decide | omega | (simp only [LN]; omega) | (simp only [LN]; done) | fail) only [SV, f42, Nat.zero_add, Nat.reduceAdd, beq_self_eq_true, V.laid, V.cells, if_true, Nat.reduceBEq, Bool.and_self, evFa, Nat.add_zero, List.getElem?_cons_zero, evBin, intBin, decide_true, V.refs, oneOr, Bool.false_eq_true, if_false, finV, finA, finC, Int.reduceEq, or_self, or_false]
    · simp (disch := first | decide | omega | (simp only [LN]; omega) | (simp only [LN]; done) | fail) only [SV, f42, Nat.zero_add, Nat.reduceAdd, beq_self_eq_true, V.laid, V.cells, if_true, Nat.reduceBEq, Bool.and_self, evFa, Nat.add_zero, List.getElem?_cons_zero, evBin, intBin, decide_false, decide_true, Bool.and_true, V.refs, oneOr, Bool.false_eq_true, if_false, finV, finA, finC, Int.reduceEq, or_self, or_false]
  by_cases g14 : op = 14
  · subst g14
    by_cases k : 1 < d
    · simp (disch := first | decide | omega | (simp only [LN]; omega) | (simp only [LN]; done) | fail) only [SV, f42, Nat.zero_add, Nat.reduceAdd, beq_self_eq_true, V.laid, V.cells, if_true, Nat.reduceBEq, Bool.and_self, evFa, Nat.add_zero, List.getElem?_cons_zero, evBin, intBin, decide_true, V.refs, oneOr, Bool.false_eq_true, if_false, finV, finA, finC, Int.reduceEq, or_self, or_false, or_true]
    · simp (disch := first | decide | omega | (simp only [LN]; omega) | (simp only [LN]; done) | fail) only [SV, f42, Nat.zero_add, Nat.reduceAdd, beq_self_eq_true, V.laid, V.cells, if_true, Nat.reduceBEq, Bool.and_self, evFa, Nat.add_zero, List.getElem?_cons_zero, evBin, intBin, decide_false, decide_true, Bool.and_true, V.refs, oneOr, Bool.false_eq_true, if_false, finV, finA, finC, Int.reduceEq, or_self, or_false, or_true]
  by_cases g15 : op = 15
  · subst g15
    by_cases k : 1 < d
    · simp (disch := first | decide | omega | (simp only [LN]; omega) | (simp only [LN]; done) | fail) only [SV, f42, Nat.zero_add, Nat.reduceAdd, beq_self_eq_true, V.laid, V.cells, if_true, Nat.reduceBEq, Bool.and_self, evFa, Nat.add_zero, List.getElem?_cons_zero, evBin, intBin, decide_true, V.refs, oneOr, Bool.false_eq_true, if_false, finV, finA, finC, Int.reduceEq, or_self, or_true]
    · simp (disch := first | decide | omega | (simp only [LN]; omega) | (simp only [LN]; done) | fail) only [SV, f42, Nat.zero_add, Nat.reduceAdd, beq_self_eq_true, V.laid, V.cells, if_true, Nat.reduceBEq, Bool.and_self, evFa, Nat.add_zero, List.getElem?_cons_zero, evBin, intBin, decide_false, decide_true, Bool.and_true, V.refs, oneOr, Bool.false_eq_true, if_false, finV, finA, finC, Int.reduceEq, or_self, or_true]
  by_cases g17 : op = 17
  · subst g17
    by_cases k : d = 1
    · simp (disch := first | decide | omega | (simp only [LN]; omega) | (simp only [LN]; done) | fail) only [SV, f42, k, Nat.zero_add, Nat.reduceAdd, beq_self_eq_true, V.laid, V.cells, if_true, Nat.reduceBEq, Bool.and_self, evFa, Nat.add_zero, List.getElem?_cons_zero, evBin, intBin, decide_true, V.refs, oneOr, Bool.false_eq_true, if_false, finV, finA, finC, Int.reduceEq, Int.reduceAdd, or_self, Int.reduceSub, decide_false]
    · simp (disch := first | decide | omega | (simp only [LN]; omega) | (simp only [LN]; done) | fail) only [SV, f42, Nat.zero_add, Nat.reduceAdd, beq_self_eq_true, V.laid, V.cells, if_true, Nat.reduceBEq, Bool.and_self, evFa, Nat.add_zero, List.getElem?_cons_zero, evBin, intBin, decide_true, Bool.and_true, V.refs, oneOr, Bool.false_eq_true, if_false, finV, finA, finC, Int.reduceEq, or_self, k, decide_false]
  · simp (disch := first | decide | omega | (simp only [LN]; omega) | (simp only [LN]; done) | fail) only [SV, f42, Nat.zero_add, Nat.reduceAdd, beq_self_eq_true, V.laid, V.cells, if_true, Nat.reduceBEq, Bool.and_self, evFa, Nat.add_zero, List.getElem?_cons_zero, evBin, intBin, decide_true, V.refs, oneOr, Bool.false_eq_true, if_false, finV, finA, finC, g1, g2, g3, or_self, g4, g5, g6, g12, g7, g8, g9, g10, g11, g14, g15, g17]

end Go.Vm
end

section
namespace Go.Vm

structure Sp where
  α : Type
  f : FuncId
  ok : α → Prop
  args : α → List V
  res : α → V × List Blk
  inj : ∀ a b, ok a → ok b → args a = args b → res a = res b

structure Se where
  α : Type
  f : FuncId
  ok : α → Prop
  args : α → List V
  blks : α → List Blk
  res : α → V × List Blk × List Nat
  inj : ∀ a b, ok a → ok b → args a = args b → blks a = blks b → res a = res b

open Classical in
noncomputable def callOf : List Sp → FuncId → List V → Option (V × List Blk)
  | [], _, _ => none
  | s :: L, f, vs => if s.f = f then (if h : ∃ a, s.ok a ∧ s.args a = vs then some (s.res h.choose) else none) else callOf L f vs
open Classical in
noncomputable def effOf : List Se → FuncId → List V → List Blk → Option (V × List Blk × List Nat)
  | [], _, _, _ => none
  | s :: L, f, vs, bs => if s.f = f then (if h : ∃ a, s.ok a ∧ s.args a = vs ∧ s.blks a = bs then some (s.res h.choose) else none) else effOf L f vs bs

noncomputable def cx (L : List Sp) (E : List Se) : Cx := ⟨callOf L, effOf E, fun _ => none, fun _ => true⟩

def Has (L : List Sp) (s : Sp) : Prop := ∀ a, s.ok a → callOf L s.f (s.args a) = some (s.res a)
def HasE (L : List Se) (s : Se) : Prop := ∀ a, s.ok a → effOf L s.f (s.args a) (s.blks a) = some (s.res a)

theorem has_head (s : Sp) (L : List Sp) : Has (s :: L) s := by
  intro a ha
  have h : ∃ b, s.ok b ∧ s.args b = s.args a := ⟨a, ha, rfl⟩
  simp only [callOf, if_true]
  rw [dif_pos h]
  exact congrArg some (s.inj _ _ h.choose_spec.1 ha h.choose_spec.2)
theorem has_tail {s t : Sp} {L : List Sp} (h : Has L s) (hne : t.f ≠ s.f) : Has (t :: L) s := by
  intro a ha
  simp only [callOf]
  rw [if_neg hne]
  exact h a ha
theorem hasE_head (s : Se) (L : List Se) : HasE (s :: L) s := by
  intro a ha
  have h : ∃ b, s.ok b ∧ s.args b = s.args a ∧ s.blks b = s.blks a := ⟨a, ha, rfl, rfl⟩
  simp only [effOf, if_true]
  rw [dif_pos h]
  exact congrArg some (s.inj _ _ h.choose_spec.1 ha h.choose_spec.2.1 h.choose_spec.2.2)

variable {P : Program}

def Sp.Holds (P : Program) (s : Sp) : Prop := ∀ a, s.ok a → callable P s.f = true ∧ PureCall P (fun _ => none) s.f (s.args a) (s.res a).1 (s.res a).2
def Se.Holds (P : Program) (s : Se) : Prop := ∀ a, s.ok a → callable P s.f = true ∧ EffCall P (fun _ => none) s.f (s.args a) (s.blks a) (s.res a).1 (s.res a).2.1 (s.res a).2.2

theorem callOf_from : ∀ (L : List Sp) (f : FuncId) (vs : List V) (p : V × List Blk), callOf L f vs = some p → ∃ s ∈ L, s.f = f ∧ ∃ a, s.ok a ∧ s.args a = vs ∧ s.res a = p
  | [], f, vs, p, h => by cases h
  | s :: L, f, vs, p, h => by
    simp only [callOf] at h
    split at h
    · rename_i hf
      split at h
      · rename_i hx
        obtain ⟨h1, h2⟩ := hx.choose_spec
        exact ⟨s, by simp, hf, _, h1, h2, Option.some.inj h⟩
      · cases h
    · obtain ⟨t, ht, r⟩ := callOf_from L f vs p h
      exact ⟨t, List.mem_cons_of_mem _ ht, r⟩
theorem effOf_from : ∀ (L : List Se) (f : FuncId) (vs : List V) (bs : List Blk) (p : V × List Blk × List Nat), effOf L f vs bs = some p → ∃ s ∈ L, s.f = f ∧ ∃ a, s.ok a ∧ s.args a = vs ∧ s.blks a = bs ∧ s.res a = p
  | [], f, vs, bs, p, h => by cases h
  | s :: L, f, vs, bs, p, h => by
    simp only [effOf] at h
    split at h
    · rename_i hf
      split at h
      · rename_i hx
        obtain ⟨h1, h2, h3⟩ := hx.choose_spec
        exact ⟨s, by simp, hf, _, h1, h2, h3, Option.some.inj h⟩
      · cases h
    · obtain ⟨t, ht, r⟩ := effOf_from L f vs bs p h
      exact ⟨t, List.mem_cons_of_mem _ ht, r⟩

theorem cx_sound {L : List Sp} {E : List Se} (h1 : ∀ s ∈ L, s.Holds P) (h2 : ∀ s ∈ E, s.Holds P) : (cx L E).Sound P := by
  refine ⟨fun f args r news h => ?_, fun f args r news _ h => ?_, fun f args blks r blks' mv h => ?_⟩
  · obtain ⟨s, hs, rfl, a, ha, rfl, hr⟩ := callOf_from L f args (r, news) h
    have := h1 s hs a ha
    rw [hr] at this
    exact this
  · obtain ⟨s, hs, rfl, a, ha, rfl, hr⟩ := callOf_from L f args (r, news) h
    have := (h1 s hs a ha).2
    rw [hr] at this
    exact this
  · obtain ⟨s, hs, rfl, a, ha, rfl, rfl, hr⟩ := effOf_from E f args blks (r, blks', mv) h
    have := h2 s hs a ha
    rw [hr] at this
    exact this

theorem holds_of {L : List Sp} {E : List Se} (hm : P.follows .mixedOrders = true) (hK : (cx L E).Sound P) {s : Sp} {g : Fun} (hok : ∀ a, s.ok a → funOk P s.f 0 (s.args a).length g = true)
    (hev : ∀ a, s.ok a → ∃ mv, runFun (cx L E) g (s.args a) [] = some ((s.res a).1, (s.res a).2, mv)) : s.Holds P := by
  intro a ha
  obtain ⟨mv, h⟩ := hev a ha
  exact pure_sound hm hK (hok a ha) h
theorem holdsE_of {L : List Sp} {E : List Se} (hm : P.follows .mixedOrders = true) (hK : (cx L E).Sound P) {s : Se} {g : Fun} (hok : ∀ a, s.ok a → funOk P s.f (s.blks a).length (s.args a).length g = true)
    (hev : ∀ a, s.ok a → runFun (cx L E) g (s.args a) (s.blks a) = some (s.res a)) : s.Holds P := by
  intro a ha
  exact eff_sound hm hK (hok a ha) (hev a ha)

structure Known (P : Program) (L : List Sp) (E : List Se) : Prop where
  one : ∀ s ∈ L, s.Holds P
  eff : ∀ s ∈ E, s.Holds P
theorem Known.sound {L : List Sp} {E : List Se} (h : Known P L E) : (cx L E).Sound P := cx_sound h.one h.eff
theorem Known.nil : Known P [] [] := ⟨fun s h => by simp at h, fun s h => by simp at h⟩
theorem Known.add {L : List Sp} {E : List Se} (h : Known P L E) (hm : P.follows .mixedOrders = true) {s : Sp} {g : Fun} (hok : ∀ a, s.ok a → funOk P s.f 0 (s.args a).length g = true)
    (hev : ∀ a, s.ok a → ∃ mv, runFun (cx L E) g (s.args a) [] = some ((s.res a).1, (s.res a).2, mv)) : Known P (s :: L) E := by
  refine ⟨fun t ht => ?_, h.eff⟩
  rcases List.mem_cons.1 ht with rfl | ht
  · exact holds_of hm h.sound hok hev
  · exact h.one t ht
theorem Known.addE {L : List Sp} {E : List Se} (h : Known P L E) (hm : P.follows .mixedOrders = true) {s : Se} {g : Fun} (hok : ∀ a, s.ok a → funOk P s.f (s.blks a).length (s.args a).length g = true)
    (hev : ∀ a, s.ok a → runFun (cx L E) g (s.args a) (s.blks a) = some (s.res a)) : Known P L (s :: E) := by
  refine ⟨h.one, fun t ht => ?_⟩
  rcases List.mem_cons.1 ht with rfl | ht
  · exact holdsE_of hm h.sound hok hev
  · exact h.eff t ht

end Go.Vm
end

section
namespace Go.Vm

theorem eInstr_inj (a b : Instr) (h : eInstr a = eInstr b) : a = b := by
  cases a; cases b
  simp only [eInstr, List.cons.injEq, D.int.injEq, true_and, and_true] at h
  simp only [Instr.mk.injEq]
  exact h
theorem eShape_inj (a b : Shape) (h : eShape a = eShape b) : a = b := by
  cases a; cases b
  simp only [eShape, List.cons.injEq, D.int.injEq, D.str.injEq, true_and, and_true] at h
  simp only [Shape.mk.injEq]
  exact h
theorem map_inj {α β : Type} {f : α → β} (hf : ∀ a b, f a = f b → a = b) : ∀ l l' : List α, l.map f = l'.map f → l = l'
  | [], [], _ => rfl
  | [], _ :: _, h => by simp at h
  | _ :: _, [], h => by simp at h
  | a :: l, b :: l', h => by
    simp only [List.map_cons, List.cons.injEq] at h
    rw [hf a b h.1, map_inj hf l l' h.2]
theorem mI (l l' : List Instr) : l.map eInstr = l'.map eInstr ↔ l = l' := ⟨map_inj eInstr_inj l l', fun h => by rw [h]⟩
theorem mS (l l' : List Shape) : l.map eShape = l'.map eShape ↔ l = l' := ⟨map_inj eShape_inj l l', fun h => by rw [h]⟩
theorem eGlob_inj (a b : Glob) (h : eGlob a = eGlob b) : a = b := by
  cases a; cases b
  simp only [eGlob, List.cons.injEq, D.int.injEq, D.str.injEq, D.sl.injEq, mI, true_and, and_true] at h
  simp only [Glob.mk.injEq]
  exact h
theorem mG (l l' : List Glob) : l.map eGlob = l'.map eGlob ↔ l = l' := ⟨map_inj eGlob_inj l l', fun h => by rw [h]⟩
theorem eInt_inj (a b : Int) (h : eInt a = eInt b) : a = b := by simpa [eInt] using h
theorem mN (l l' : List Int) : l.map eInt = l'.map eInt ↔ l = l' := ⟨map_inj eInt_inj l l', fun h => by rw [h]⟩
theorem tab_inj (t u : Table) (h : t.shapes = u.shapes ∧ t.globals = u.globals) : t = u := by
  cases t; cases u
  simp only [Table.mk.injEq]
  exact h

theorem headL_ne : headsOk ([] : List Shape) = false := by simp [headsOk, headL, givenS]
theorem fine_shapes {t : Table} (hc : checkS t = 0) : t.shapes ≠ [] ∧ t.shapes.length ≤ 100000 := by
  have h := (fine_iff t).1 hc
  refine ⟨fun e => ?_, by have := (greatS_f h.great).1; omega⟩
  have := h.heads
  rw [e, headL_ne] at this
  cases this

theorem ev_peepV (K : Cx) (h12 : K12 K) (h17 : K17 K) (h18 : ∀ l, Sane l → K.call 18 [.d false (.sl 3 (l.map eInstr))] = some (.fs true 3 ((betterS l).map eInstr), [])) (t : Table) (ht : TabOk t) :
    runFun K f9 [tabV false false t] [] = some (peepV t, [], []) := by
  have h := ev_peep K betterS h12 h17 t ht (fun hc g hg => h18 _ (check_sane ((greatS_f ((fine_iff t).1 hc).great).2.2 g hg) (((fine_iff t).1 hc).codes g hg))) (fun hc => fine_shapes hc) (fun hc => (greatS_f ((fine_iff t).1 hc).great).2.1)
  unfold tabV peepV
  exact h

noncomputable def s55 : Sp where
  α := Int × Int × Int
  f := 55
  ok := fun (o, a, b) => True
  args := fun (o, a, b) => [.agg [.d false (.int .i64 o), .d false (.int .i64 a), .d false (.int .i64 b)]]
  res := fun (o, a, b) => (.tup [.d false (.int .i64 (targetS ⟨o, a, b⟩).1), .d false (.bool (targetS ⟨o, a, b⟩).2)], [])
  inj := by
    rintro ⟨o, a, b⟩ ⟨o', a', b'⟩ _ _ h
    simp only [List.cons.injEq, V.agg.injEq, V.d.injEq, D.sl.injEq, D.int.injEq, D.str.injEq, D.ptr.injEq, Int.natCast_inj, mI, mS, mG, mN, true_and, and_true] at h
    simp only [h]
noncomputable def s56 : Sp where
  α := Int × Int × Int × Int
  f := 56
  ok := fun (to, p, gone, by_) => (0 ≤ p ∧ p ≤ 1152921504606846976) ∧ (0 ≤ gone ∧ gone ≤ 1000) ∧ (-1000 ≤ by_ ∧ by_ ≤ 1000) ∧ (0 ≤ to ∧ to ≤ 1152921504606846976)
  args := fun (to, p, gone, by_) => [.d false (.int .i64 to), .d false (.ptr [.int .i64 p]), .d false (.ptr [.int .i64 gone]), .d false (.ptr [.int .i64 by_])]
  res := fun (to, p, gone, by_) => (.d false (.int .i64 (carryS p gone by_ to)), [])
  inj := by
    rintro ⟨to, p, gone, by_⟩ ⟨to', p', gone', by_'⟩ _ _ h
    simp only [List.cons.injEq, V.agg.injEq, V.d.injEq, D.sl.injEq, D.int.injEq, D.str.injEq, D.ptr.injEq, Int.natCast_inj, mI, mS, mG, mN, true_and, and_true] at h
    simp only [h]
noncomputable def s35 : Sp where
  α := List Instr × List Instr × Int × Int
  f := 35
  ok := fun (l, more, p, gone) => (0 ≤ p ∧ 0 ≤ gone ∧ p + gone ≤ l.length) ∧ (gone ≤ 1000) ∧ (l.length ≤ 100000) ∧ (more.length ≤ 10) ∧ (gone ≤ l.length + more.length) ∧ (∀ x ∈ l, Tame x) ∧ (∀ x ∈ more, Tame x)
  args := fun (l, more, p, gone) => [.d false (.sl 3 (l.map eInstr)), .d false (.int .i64 p), .d false (.int .i64 gone), .d false (.sl 3 (more.map eInstr))]
  res := fun (l, more, p, gone) => (.d true (.sl 3 ((putS l p gone more).map eInstr)), [])
  inj := by
    rintro ⟨l, more, p, gone⟩ ⟨l', more', p', gone'⟩ _ _ h
    simp only [List.cons.injEq, V.agg.injEq, V.d.injEq, D.sl.injEq, D.int.injEq, D.str.injEq, D.ptr.injEq, Int.natCast_inj, mI, mS, mG, mN, true_and, and_true] at h
    simp only [h]
noncomputable def s57 : Sp where
  α := List Instr × Int × Int × Int
  f := 57
  ok := fun (l, p, op, a) => (0 ≤ p ∧ p + 2 ≤ l.length) ∧ (Fit l) ∧ (op ≠ 13 ∧ op ≠ 14 ∧ op ≠ 15)
  args := fun (l, p, op, a) => [.d false (.sl 3 (l.map eInstr)), .d false (.int .i64 p), .d false (.int .i64 op), .d false (.int .i64 a)]
  res := fun (l, p, op, a) => (.tup [.d true (.sl 3 ((putS l p 2 [⟨op, a, 0⟩]).map eInstr)), .d false (.bool true)], [])
  inj := by
    rintro ⟨l, p, op, a⟩ ⟨l', p', op', a'⟩ _ _ h
    simp only [List.cons.injEq, V.agg.injEq, V.d.injEq, D.sl.injEq, D.int.injEq, D.str.injEq, D.ptr.injEq, Int.natCast_inj, mI, mS, mG, mN, true_and, and_true] at h
    simp only [h]
noncomputable def s36 : Sp where
  α := List Instr × Nat
  f := 36
  ok := fun (l, p) => (Fit l) ∧ (p < l.length)
  args := fun (l, p) => [.d false (.sl 3 (l.map eInstr)), .d false (.int .i64 p)]
  res := fun (l, p) => (ansS (aloneS l p), [])
  inj := by
    rintro ⟨l, p⟩ ⟨l', p'⟩ _ _ h
    simp only [List.cons.injEq, V.agg.injEq, V.d.injEq, D.sl.injEq, D.int.injEq, D.str.injEq, D.ptr.injEq, Int.natCast_inj, mI, mS, mG, mN, true_and, and_true] at h
    simp only [h]
noncomputable def s34 : Sp where
  α := List Instr
  f := 34
  ok := fun l => (Fit l)
  args := fun l => [.d false (.sl 3 (l.map eInstr))]
  res := fun l => (.agg [.d true (.sl 1 ((lookS l).1.map eBool)), .d true (.sl 1 ((lookS l).2.map eBool))], [])
  inj := by
    rintro l l' _ _ h
    simp only [List.cons.injEq, V.agg.injEq, V.d.injEq, D.sl.injEq, D.int.injEq, D.str.injEq, D.ptr.injEq, Int.natCast_inj, mI, mS, mG, mN, true_and, and_true] at h
    rw [h]
noncomputable def s37 : Sp where
  α := List Instr × Nat
  f := 37
  ok := fun (l, p) => (Fit l) ∧ (p + 1 < l.length)
  args := fun (l, p) => [.d false (.sl 3 (l.map eInstr)), .d false (.int .i64 p)]
  res := fun (l, p) => (ansS (bothS l p), [])
  inj := by
    rintro ⟨l, p⟩ ⟨l', p'⟩ _ _ h
    simp only [List.cons.injEq, V.agg.injEq, V.d.injEq, D.sl.injEq, D.int.injEq, D.str.injEq, D.ptr.injEq, Int.natCast_inj, mI, mS, mG, mN, true_and, and_true] at h
    simp only [h]
noncomputable def s38 : Sp where
  α := List Instr
  f := 38
  ok := fun l => True
  args := fun l => [.d false (.sl 3 (l.map eInstr))]
  res := fun l => (.fs false 3 (l.map eInstr), [])
  inj := by
    rintro l l' _ _ h
    simp only [List.cons.injEq, V.agg.injEq, V.d.injEq, D.sl.injEq, D.int.injEq, D.str.injEq, D.ptr.injEq, Int.natCast_inj, mI, mS, mG, mN, true_and, and_true] at h
    rw [h]
noncomputable def s33 : Sp where
  α := List Instr
  f := 33
  ok := fun l => (l ≠ []) ∧ (l.length ≤ 100000)
  args := fun l => [.d false (.sl 3 (l.map eInstr))]
  res := fun l => (.d true (.sl 3 (l.map eInstr)), [])
  inj := by
    rintro l l' _ _ h
    simp only [List.cons.injEq, V.agg.injEq, V.d.injEq, D.sl.injEq, D.int.injEq, D.str.injEq, D.ptr.injEq, Int.natCast_inj, mI, mS, mG, mN, true_and, and_true] at h
    rw [h]
noncomputable def s18 : Sp where
  α := List Instr
  f := 18
  ok := fun l => (Sane l)
  args := fun l => [.d false (.sl 3 (l.map eInstr))]
  res := fun l => (.fs true 3 ((betterS l).map eInstr), [])
  inj := by
    rintro l l' _ _ h
    simp only [List.cons.injEq, V.agg.injEq, V.d.injEq, D.sl.injEq, D.int.injEq, D.str.injEq, D.ptr.injEq, Int.natCast_inj, mI, mS, mG, mN, true_and, and_true] at h
    rw [h]
noncomputable def s17 : Sp where
  α := List Shape
  f := 17
  ok := fun l => (l ≠ []) ∧ (l.length ≤ 100000)
  args := fun l => [.d false (.sl 2 (l.map eShape))]
  res := fun l => (.d true (.sl 2 (l.map eShape)), [])
  inj := by
    rintro l l' _ _ h
    simp only [List.cons.injEq, V.agg.injEq, V.d.injEq, D.sl.injEq, D.int.injEq, D.str.injEq, D.ptr.injEq, Int.natCast_inj, mI, mS, mG, mN, true_and, and_true] at h
    rw [h]
noncomputable def s21 : Sp where
  α := List UInt8
  f := 21
  ok := fun s => ((s.length : Int) ≤ 9223372036854775807)
  args := fun s => [.d false (.str s)]
  res := fun s => (.d false (.bool (isNameS s)), [])
  inj := by
    rintro s s' _ _ h
    simp only [List.cons.injEq, V.agg.injEq, V.d.injEq, D.sl.injEq, D.int.injEq, D.str.injEq, D.ptr.injEq, Int.natCast_inj, mI, mS, mG, mN, true_and, and_true] at h
    rw [h]
noncomputable def s22 : Sp where
  α := Unit
  f := 22
  ok := fun u => True
  args := fun u => []
  res := fun u => (.bsl 0 0 7, [.dat true 2 (givenS.map eShape)])
  inj := by
    rintro u u' _ _ h
    rfl
noncomputable def s20 : Sp where
  α := Table
  f := 20
  ok := fun t => (TabOk t)
  args := fun t => [.agg [.d false (.sl 2 (t.shapes.map eShape)), .d false (.sl 3 (t.globals.map eGlob))]]
  res := fun t => (.d false (.bool (greatS t)), [])
  inj := by
    rintro t t' _ _ h
    simp only [tabV, List.cons.injEq, V.agg.injEq, V.d.injEq, D.sl.injEq, mS, mG, true_and, and_true] at h
    rw [tab_inj _ _ h]
noncomputable def s40 : Sp where
  α := Int
  f := 40
  ok := fun op => True
  args := fun op => [.d false (.int .i64 op)]
  res := fun op => (vForm (formS op) (decide (1 ≤ op ∧ op < 18)), [])
  inj := by
    rintro op op' _ _ h
    simp only [List.cons.injEq, V.agg.injEq, V.d.injEq, D.sl.injEq, D.int.injEq, D.str.injEq, D.ptr.injEq, Int.natCast_inj, mI, mS, mG, mN, true_and, and_true] at h
    rw [h]
noncomputable def s41 : Sp where
  α := List Shape × List Glob × List UInt8 × Int × List Instr × Int × Int × Int
  f := 41
  ok := fun (sh, gl, nm, ar, cd, at_, n, kind) => (0 ≤ kind ∧ kind ≤ 8)
  args := fun (sh, gl, nm, ar, cd, at_, n, kind) => [.agg [.d false (.sl 2 (sh.map eShape)), .d false (.sl 3 (gl.map eGlob))], .agg [.d false (.str nm), .d false (.int .i64 ar), .d false (.sl 3 (cd.map eInstr))], .d false (.int .i64 at_), .d false (.int .i64 n), .d false (.int .i64 kind)]
  res := fun (sh, gl, nm, ar, cd, at_, n, kind) => (.d false (.int .i64 (numberS gl.length sh.length cd.length at_ n kind)), [])
  inj := by
    rintro ⟨sh, gl, nm, ar, cd, at_, n, kind⟩ ⟨sh', gl', nm', ar', cd', at_', n', kind'⟩ _ _ h
    simp only [List.cons.injEq, V.agg.injEq, V.d.injEq, D.sl.injEq, D.int.injEq, D.str.injEq, D.ptr.injEq, Int.natCast_inj, mI, mS, mG, mN, true_and, and_true] at h
    simp only [h]
noncomputable def s42 : Sp where
  α := List Shape × List Glob × Int × Int × Int × Int
  f := 42
  ok := fun (sh, gl, op, a, b, d) => (1 ≤ d ∧ d ≤ 8000) ∧ (0 ≤ a ∧ a ≤ 9223372036854775807 ∨ (op ≠ 1 ∧ op ≠ 4 ∧ op ≠ 5 ∧ op ≠ 7 ∧ op ≠ 8)) ∧ (op = 9 ∨ op = 10 → 0 ≤ a ∧ a < sh.length ∧ 0 ≤ (nth sh a).fields ∧ (nth sh a).fields ≤ 8)
  args := fun (sh, gl, op, a, b, d) => [.agg [.d false (.sl 2 (sh.map eShape)), .d false (.sl 3 (gl.map eGlob))], .agg [.d false (.int .i64 op), .d false (.int .i64 a), .d false (.int .i64 b)], .d false (.int .i64 d)]
  res := fun (sh, gl, op, a, b, d) => (.tup [.d false (.int .i64 (stackedS sh ⟨op, a, b⟩ d).1), .d false (.bool (stackedS sh ⟨op, a, b⟩ d).2)], [])
  inj := by
    rintro ⟨sh, gl, op, a, b, d⟩ ⟨sh', gl', op', a', b', d'⟩ _ _ h
    simp only [List.cons.injEq, V.agg.injEq, V.d.injEq, D.sl.injEq, D.int.injEq, D.str.injEq, D.ptr.injEq, Int.natCast_inj, mI, mS, mG, mN, true_and, and_true] at h
    simp only [h]
noncomputable def s23 : Sp where
  α := List Shape × List Glob × List UInt8 × Int × List Instr
  f := 23
  ok := fun (sh, gl, nm, ar, cd) => (ShOk sh) ∧ (cd.length ≤ 8000) ∧ (0 ≤ ar ∧ ar ≤ 24) ∧ (∀ x ∈ cd, x.a ≤ 9223372036854775807)
  args := fun (sh, gl, nm, ar, cd) => [.agg [.d false (.sl 2 (sh.map eShape)), .d false (.sl 3 (gl.map eGlob))], .agg [.d false (.str nm), .d false (.int .i64 ar), .d false (.sl 3 (cd.map eInstr))]]
  res := fun (sh, gl, nm, ar, cd) => (.d false (.int .i64 (checkCodeS gl.length sh ⟨nm, ar, cd⟩)), [])
  inj := by
    rintro ⟨sh, gl, nm, ar, cd⟩ ⟨sh', gl', nm', ar', cd'⟩ _ _ h
    simp only [List.cons.injEq, V.agg.injEq, V.d.injEq, D.sl.injEq, D.int.injEq, D.str.injEq, D.ptr.injEq, Int.natCast_inj, mI, mS, mG, mN, true_and, and_true] at h
    simp only [h]
noncomputable def s12 : Sp where
  α := Table
  f := 12
  ok := fun t => (TabOk t)
  args := fun t => [.agg [.d false (.sl 2 (t.shapes.map eShape)), .d false (.sl 3 (t.globals.map eGlob))]]
  res := fun t => (.d false (.int .i64 (checkS t)), [])
  inj := by
    rintro t t' _ _ h
    simp only [tabV, List.cons.injEq, V.agg.injEq, V.d.injEq, D.sl.injEq, mS, mG, true_and, and_true] at h
    rw [tab_inj _ _ h]
noncomputable def s9 : Sp where
  α := Table
  f := 9
  ok := fun t => (TabOk t)
  args := fun t => [tabV false false t]
  res := fun t => (peepV t, [])
  inj := by
    rintro t t' _ _ h
    simp only [tabV, List.cons.injEq, V.agg.injEq, V.d.injEq, D.sl.injEq, mS, mG, true_and, and_true] at h
    rw [tab_inj _ _ h]
noncomputable def s13 : Sp where
  α := List Instr × List Instr
  f := 13
  ok := fun (a, b) => ((a.length : Int) ≤ 9223372036854775807)
  args := fun (a, b) => [.d false (.sl 3 (a.map eInstr)), .d false (.sl 3 (b.map eInstr))]
  res := fun (a, b) => (.d false (.bool (decide (a = b))), [])
  inj := by
    rintro ⟨a, b⟩ ⟨a', b'⟩ _ _ h
    simp only [List.cons.injEq, V.agg.injEq, V.d.injEq, D.sl.injEq, D.int.injEq, D.str.injEq, D.ptr.injEq, Int.natCast_inj, mI, mS, mG, mN, true_and, and_true] at h
    simp only [h]
noncomputable def s10 : Sp where
  α := Table × Table
  f := 10
  ok := fun (t, u) => (TabOk t)
  args := fun (t, u) => [tabV false false t, tabV false false u]
  res := fun (t, u) => (.d false (.bool (sameS t u)), [])
  inj := by
    rintro ⟨t, u⟩ ⟨t', u'⟩ _ _ h
    simp only [tabV, List.cons.injEq, V.agg.injEq, V.d.injEq, D.sl.injEq, mS, mG, true_and, and_true] at h
    rw [tab_inj _ _ h.1, tab_inj _ _ h.2]
noncomputable def s14 : Sp where
  α := Unit
  f := 14
  ok := fun u => True
  args := fun u => []
  res := fun u => (.bsl 0 0 7, [.dat true 2 (givenS.map eShape)])
  inj := by
    rintro u u' _ _ h
    rfl
noncomputable def s6 : Sp where
  α := Unit
  f := 6
  ok := fun u => True
  args := fun u => []
  res := fun u => (.d false (.bool true), [])
  inj := by
    rintro u u' _ _ h
    rfl
noncomputable def e43 : Se where
  α := Bool × List Int × Int × Int
  f := 43
  ok := fun (_, Dp, at_, _) => 0 ≤ at_ ∧ at_ < Dp.length
  args := fun (_, Dp, at_, d) => [.bsl 0 0 Dp.length, .d false (.int .i64 at_), .d false (.int .i64 d)]
  blks := fun (c, Dp, _, _) => [.dat c 1 (Dp.map eInt)]
  res := fun (c, Dp, at_, d) => (.d false (.bool (reachB' Dp at_ d)), [.dat c 1 ((reachS Dp at_ d).map eInt)], [])
  inj := by
    rintro ⟨c, Dp, at_, d⟩ ⟨c', Dp', at_', d'⟩ _ _ h h2
    simp only [List.cons.injEq, V.bsl.injEq, V.d.injEq, D.int.injEq, true_and, and_true] at h
    simp only [List.cons.injEq, Blk.dat.injEq, mN, true_and, and_true] at h2
    simp only [h, h2]

theorem k55_of {L : List Sp} {E : List Se} (h : Has L s55) : K55 (cx L E) := fun o a b => h (o, a, b) trivial
theorem k56_of {L : List Sp} {E : List Se} (h : Has L s56) : K56 (cx L E) := fun to p gone by_ h1 h2 h3 h4 => h (to, p, gone, by_) ⟨h1, h2, h3, h4⟩
theorem k35_of {L : List Sp} {E : List Se} (h : Has L s35) : K35 (cx L E) := fun l more p gone h1 h2 h3 h4 h5 h6 h7 => h (l, more, p, gone) ⟨h1, h2, h3, h4, h5, h6, h7⟩
theorem k57_of {L : List Sp} {E : List Se} (h : Has L s57) : K57 (cx L E) := fun l p op a h1 h2 h3 => h (l, p, op, a) ⟨h1, h2, h3⟩
theorem k36_of {L : List Sp} {E : List Se} (h : Has L s36) : K36 (cx L E) := fun l p h1 h2 => h (l, p) ⟨h1, h2⟩
theorem k34_of {L : List Sp} {E : List Se} (h : Has L s34) : K34 (cx L E) := fun l h1 => h l h1
theorem k37_of {L : List Sp} {E : List Se} (h : Has L s37) : K37 (cx L E) := fun l p h1 h2 => h (l, p) ⟨h1, h2⟩
theorem k38_of {L : List Sp} {E : List Se} (h : Has L s38) : K38 (cx L E) := fun l => h l trivial
theorem k33_of {L : List Sp} {E : List Se} (h : Has L s33) : K33 (cx L E) := fun l h1 h2 => h l ⟨h1, h2⟩
theorem k17_of {L : List Sp} {E : List Se} (h : Has L s17) : K17 (cx L E) := fun l h1 h2 => h l ⟨h1, h2⟩
theorem k21_of {L : List Sp} {E : List Se} (h : Has L s21) : K21 (cx L E) := fun s h1 => h s h1
theorem k22_of {L : List Sp} {E : List Se} (h : Has L s22) : K22 (cx L E) := h () trivial
theorem k20_of {L : List Sp} {E : List Se} (h : Has L s20) : K20 (cx L E) := fun t h1 => h t h1
theorem k40_of {L : List Sp} {E : List Se} (h : Has L s40) : K40 (cx L E) := fun op => h op trivial
theorem k41_of {L : List Sp} {E : List Se} (h : Has L s41) : K41 (cx L E) := fun sh gl nm ar cd at_ n kind h1 => h (sh, gl, nm, ar, cd, at_, n, kind) h1
theorem k42_of {L : List Sp} {E : List Se} (h : Has L s42) : K42 (cx L E) := fun sh gl op a b d h1 h2 h3 => h (sh, gl, op, a, b, d) ⟨h1, h2, h3⟩
theorem k23_of {L : List Sp} {E : List Se} (h : Has L s23) : K23 (cx L E) := fun sh gl nm ar cd h1 h2 h3 h4 => h (sh, gl, nm, ar, cd) ⟨h1, h2, h3, h4⟩
theorem k12_of {L : List Sp} {E : List Se} (h : Has L s12) : K12 (cx L E) := fun t h1 => h t h1
theorem k9_of {L : List Sp} {E : List Se} (h : Has L s9) : K9 (cx L E) := fun t h1 => h t h1
theorem k13_of {L : List Sp} {E : List Se} (h : Has L s13) : K13 (cx L E) := fun a b h1 => h (a, b) h1
theorem k10_of {L : List Sp} {E : List Se} (h : Has L s10) : K10 (cx L E) := fun t u h1 => h (t, u) h1
theorem k14_of {L : List Sp} {E : List Se} (h : Has L s14) : K14 (cx L E) := h () trivial
theorem k6_of {L : List Sp} {E : List Se} (h : Has L s6) : K6 (cx L E) := h () trivial
theorem k18_of {L : List Sp} {E : List Se} (h : Has L s18) (l : List Instr) (hl : Sane l) : (cx L E).call 18 [.d false (.sl 3 (l.map eInstr))] = some (.fs true 3 ((betterS l).map eInstr), []) := h l hl
theorem k43_of {L : List Sp} {E : List Se} (h : HasE E e43) : K43 (cx L E) := fun c Dp at_ d n h1 h2 => by subst h2; exact h (c, Dp, at_, d) h1

noncomputable def sps : List Sp := [s6, s14, s10, s13, s9, s12, s23, s42, s41, s40, s20, s22, s21, s17, s18, s33, s38, s37, s34, s36, s57, s35, s56, s55]
theorem mixed : Go.Proofs.Try.prog.follows .mixedOrders = true := by kernel_rfl
noncomputable def L0 : List Sp := []
noncomputable def E0 : List Se := [e43]
theorem kn0 : Known Go.Proofs.Try.prog L0 E0 := Known.nil.addE mixed (fun ⟨c, Dp, at_, d⟩ _ => f43_ok) (fun ⟨c, Dp, at_, d⟩ h => ev_reach _ c Dp at_ d h _ rfl)
noncomputable def L1 : List Sp := s55 :: L0
theorem kn1 : Known Go.Proofs.Try.prog L1 E0 := by
  exact kn0.add mixed (fun ⟨o, a, b⟩ _ => f55_ok) (fun ⟨o, a, b⟩ _ => ⟨_, ev_target _ o a b⟩)
noncomputable def L2 : List Sp := s56 :: L1
theorem kn2 : Known Go.Proofs.Try.prog L2 E0 := by
  exact kn1.add mixed (fun ⟨to, p, gone, by_⟩ _ => f56_ok) (fun ⟨to, p, gone, by_⟩ ⟨h1, h2, h3, h4⟩ => ⟨_, ev_carried _ to p gone by_ h1 h2 h3 h4⟩)
noncomputable def L3 : List Sp := s35 :: L2
theorem kn3 : Known Go.Proofs.Try.prog L3 E0 := by
  have k56 := k56_of (E := E0) (show Has L2 s56 by repeat (first | exact has_head _ _ | refine has_tail ?_ (by decide)))
  exact kn2.add mixed (fun ⟨l, more, p, gone⟩ _ => f35_ok) (fun ⟨l, more, p, gone⟩ ⟨h1, h2, h3, h4, h5, h6, h7⟩ => ⟨_, ev_put _ l more p gone h1 h2 h3 h4 h5 h6 h7 k56⟩)
noncomputable def L4 : List Sp := s57 :: L3
theorem kn4 : Known Go.Proofs.Try.prog L4 E0 := by
  have k35 := k35_of (E := E0) (show Has L3 s35 by repeat (first | exact has_head _ _ | refine has_tail ?_ (by decide)))
  exact kn3.add mixed (fun ⟨l, p, op, a⟩ _ => f57_ok) (fun ⟨l, p, op, a⟩ ⟨h1, h2, h3⟩ => ⟨_, ev_one_ _ k35 l p op a h1 h2 h3⟩)
noncomputable def L5 : List Sp := s36 :: L4
theorem kn5 : Known Go.Proofs.Try.prog L5 E0 := by
  have k35 := k35_of (E := E0) (show Has L4 s35 by repeat (first | exact has_head _ _ | refine has_tail ?_ (by decide)))
  exact kn4.add mixed (fun ⟨l, p⟩ _ => f36_ok) (fun ⟨l, p⟩ ⟨h1, h2⟩ => ⟨_, ev_alone _ k35 l p h2 h1⟩)
noncomputable def L6 : List Sp := s34 :: L5
theorem kn6 : Known Go.Proofs.Try.prog L6 E0 := by
  have k55 := k55_of (E := E0) (show Has L5 s55 by repeat (first | exact has_head _ _ | refine has_tail ?_ (by decide)))
  exact kn5.add mixed (fun l _ => f34_ok) (fun l h1 => ⟨_, ev_look _ k55 l h1⟩)
noncomputable def L7 : List Sp := s37 :: L6
theorem kn7 : Known Go.Proofs.Try.prog L7 E0 := by
  have k35 := k35_of (E := E0) (show Has L6 s35 by repeat (first | exact has_head _ _ | refine has_tail ?_ (by decide)))
  have k57 := k57_of (E := E0) (show Has L6 s57 by repeat (first | exact has_head _ _ | refine has_tail ?_ (by decide)))
  exact kn6.add mixed (fun ⟨l, p⟩ _ => f37_ok) (fun ⟨l, p⟩ ⟨h1, h2⟩ => ⟨_, ev_both _ k35 k57 l p h1 h2⟩)
noncomputable def L8 : List Sp := s38 :: L7
theorem kn8 : Known Go.Proofs.Try.prog L8 E0 := by
  exact kn7.add mixed (fun l _ => f38_ok) (fun l _ => ⟨_, ev_clip _ false l⟩)
noncomputable def L9 : List Sp := s33 :: L8
theorem kn9 : Known Go.Proofs.Try.prog L9 E0 := by
  exact kn8.add mixed (fun l _ => f33_ok) (fun l ⟨h1, h2⟩ => ⟨_, ev_clone33 _ l h1 h2⟩)
noncomputable def L10 : List Sp := s18 :: L9
theorem kn10 : Known Go.Proofs.Try.prog L10 E0 := by
  have k33 := k33_of (E := E0) (show Has L9 s33 by repeat (first | exact has_head _ _ | refine has_tail ?_ (by decide)))
  have k34 := k34_of (E := E0) (show Has L9 s34 by repeat (first | exact has_head _ _ | refine has_tail ?_ (by decide)))
  have k35 := k35_of (E := E0) (show Has L9 s35 by repeat (first | exact has_head _ _ | refine has_tail ?_ (by decide)))
  have k36 := k36_of (E := E0) (show Has L9 s36 by repeat (first | exact has_head _ _ | refine has_tail ?_ (by decide)))
  have k37 := k37_of (E := E0) (show Has L9 s37 by repeat (first | exact has_head _ _ | refine has_tail ?_ (by decide)))
  have k38 := k38_of (E := E0) (show Has L9 s38 by repeat (first | exact has_head _ _ | refine has_tail ?_ (by decide)))
  exact kn9.add mixed (fun l _ => f18_ok) (fun l h1 => ⟨_, ev_better_S _ (fun _ => rfl) k33 k34 k35 k36 k37 k38 l h1⟩)
noncomputable def L11 : List Sp := s17 :: L10
theorem kn11 : Known Go.Proofs.Try.prog L11 E0 := by
  exact kn10.add mixed (fun l _ => f17_ok) (fun l ⟨h1, h2⟩ => ⟨_, ev_clone17 _ l h1 h2⟩)
noncomputable def L12 : List Sp := s21 :: L11
theorem kn12 : Known Go.Proofs.Try.prog L12 E0 := by
  exact kn11.add mixed (fun s _ => f21_ok) (fun s h1 => ⟨_, ev_isName _ s h1⟩)
noncomputable def L13 : List Sp := s22 :: L12
theorem kn13 : Known Go.Proofs.Try.prog L13 E0 := by
  exact kn12.add mixed (fun u _ => f22_ok) (fun u _ => ⟨_, ev_given _⟩)
noncomputable def L14 : List Sp := s20 :: L13
theorem kn14 : Known Go.Proofs.Try.prog L14 E0 := by
  exact kn13.add mixed (fun t _ => f20_ok) (fun t h1 => ⟨_, ev_great _ t h1.gl h1.sh h1.cd⟩)
noncomputable def L15 : List Sp := s40 :: L14
theorem kn15 : Known Go.Proofs.Try.prog L15 E0 := by
  exact kn14.add mixed (fun op _ => f40_ok) (fun op _ => ⟨_, ev_forms _ op⟩)
noncomputable def L16 : List Sp := s41 :: L15
theorem kn16 : Known Go.Proofs.Try.prog L16 E0 := by
  exact kn15.add mixed (fun ⟨sh, gl, nm, ar, cd, at_, n, kind⟩ _ => f41_ok) (fun ⟨sh, gl, nm, ar, cd, at_, n, kind⟩ h1 => ⟨_, ev_number _ ⟨sh, gl⟩ ⟨nm, ar, cd⟩ at_ n kind h1⟩)
noncomputable def L17 : List Sp := s42 :: L16
theorem kn17 : Known Go.Proofs.Try.prog L17 E0 := by
  exact kn16.add mixed (fun ⟨sh, gl, op, a, b, d⟩ _ => f42_ok) (fun ⟨sh, gl, op, a, b, d⟩ ⟨h1, h2, h3⟩ => ⟨_, ev_stacked _ ⟨sh, gl⟩ ⟨op, a, b⟩ d h1 h2 h3⟩)
noncomputable def L18 : List Sp := s23 :: L17
theorem kn18 : Known Go.Proofs.Try.prog L18 E0 := by
  have k40 := k40_of (E := E0) (show Has L17 s40 by repeat (first | exact has_head _ _ | refine has_tail ?_ (by decide)))
  have k41 := k41_of (E := E0) (show Has L17 s41 by repeat (first | exact has_head _ _ | refine has_tail ?_ (by decide)))
  have k42 := k42_of (E := E0) (show Has L17 s42 by repeat (first | exact has_head _ _ | refine has_tail ?_ (by decide)))
  have k43 : K43 (cx L17 E0) := k43_of (hasE_head _ _)
  exact kn17.add mixed (fun ⟨sh, gl, nm, ar, cd⟩ _ => f23_ok) (fun ⟨sh, gl, nm, ar, cd⟩ ⟨h1, h2, h3, h4⟩ => ⟨_, ev_checkCode _ k40 k41 k42 k43 sh gl ⟨nm, ar, cd⟩ h1 h2 h3 h4⟩)
noncomputable def L19 : List Sp := s12 :: L18
theorem kn19 : Known Go.Proofs.Try.prog L19 E0 := by
  have k20 := k20_of (E := E0) (show Has L18 s20 by repeat (first | exact has_head _ _ | refine has_tail ?_ (by decide)))
  have k21 := k21_of (E := E0) (show Has L18 s21 by repeat (first | exact has_head _ _ | refine has_tail ?_ (by decide)))
  have k22 := k22_of (E := E0) (show Has L18 s22 by repeat (first | exact has_head _ _ | refine has_tail ?_ (by decide)))
  have k23 := k23_of (E := E0) (show Has L18 s23 by repeat (first | exact has_head _ _ | refine has_tail ?_ (by decide)))
  exact kn18.add mixed (fun t _ => f12_ok) (fun t h1 => ⟨_, ev_check _ k20 k21 k22 k23 t h1⟩)
noncomputable def L20 : List Sp := s9 :: L19
theorem kn20 : Known Go.Proofs.Try.prog L20 E0 := by
  have k12 := k12_of (E := E0) (show Has L19 s12 by repeat (first | exact has_head _ _ | refine has_tail ?_ (by decide)))
  have k17 := k17_of (E := E0) (show Has L19 s17 by repeat (first | exact has_head _ _ | refine has_tail ?_ (by decide)))
  have k18 := k18_of (E := E0) (show Has L19 s18 by repeat (first | exact has_head _ _ | refine has_tail ?_ (by decide)))
  exact kn19.add mixed (fun t _ => f9_ok) (fun t h1 => ⟨_, ev_peepV _ k12 k17 k18 t h1⟩)
noncomputable def L21 : List Sp := s13 :: L20
theorem kn21 : Known Go.Proofs.Try.prog L21 E0 := by
  exact kn20.add mixed (fun ⟨a, b⟩ _ => f13_ok) (fun ⟨a, b⟩ h1 => ⟨_, ev_sameCode _ a b h1 false false⟩)
noncomputable def L22 : List Sp := s10 :: L21
theorem kn22 : Known Go.Proofs.Try.prog L22 E0 := by
  have k13 := k13_of (E := E0) (show Has L21 s13 by repeat (first | exact has_head _ _ | refine has_tail ?_ (by decide)))
  exact kn21.add mixed (fun ⟨t, u⟩ _ => f10_ok) (fun ⟨t, u⟩ h1 => ⟨_, ev_same _ k13 t u (by have := h1.sh; omega) (by have := h1.gl; omega) h1.cd⟩)
noncomputable def L23 : List Sp := s14 :: L22
theorem kn23 : Known Go.Proofs.Try.prog L23 E0 := by
  exact kn22.add mixed (fun u _ => f14_ok) (fun u _ => ⟨_, ev_shapes _⟩)
noncomputable def L24 : List Sp := s6 :: L23
theorem kn24 : Known Go.Proofs.Try.prog L24 E0 := by
  have k9 := k9_of (E := E0) (show Has L23 s9 by repeat (first | exact has_head _ _ | refine has_tail ?_ (by decide)))
  have k10 := k10_of (E := E0) (show Has L23 s10 by repeat (first | exact has_head _ _ | refine has_tail ?_ (by decide)))
  have k14 := k14_of (E := E0) (show Has L23 s14 by repeat (first | exact has_head _ _ | refine has_tail ?_ (by decide)))
  exact kn23.add mixed (fun u _ => f6_ok) (fun u _ => ⟨_, ev_awake _ (fun _ => rfl) k9 k10 k14⟩)

theorem law_alone (t : Table) (ht : TabOk t) (k : Int) (hk : -9223372036854775808 ≤ k ∧ k ≤ 9223372036854775807) :
    PureCall Go.Proofs.Try.prog (fun _ => none) 5 [tabV false false t, .d false (.int .i64 k)] (.d false (.bool true)) [] := by
  have k6 := k6_of (E := E0) (show Has L24 s6 by repeat (first | exact has_head _ _ | refine has_tail ?_ (by decide)))
  have k9 := k9_of (E := E0) (show Has L24 s9 by repeat (first | exact has_head _ _ | refine has_tail ?_ (by decide)))
  have k13 := k13_of (E := E0) (show Has L24 s13 by repeat (first | exact has_head _ _ | refine has_tail ?_ (by decide)))
  exact (pure_sound (args := [tabV false false t, .d false (.int .i64 k)]) mixed kn24.sound f5_ok (ev_alone_law _ (fun _ => rfl) k6 k9 k13 t ht k hk)).2
end Go.Vm
end

section
namespace Go.Vm
open Go.Proofs

theorem rows_map {α : Type} {e : α → List D} {Q : α → Prop} : ∀ rows : List (List D), (∀ r ∈ rows, ∃ x, r = e x ∧ Q x) → ∃ l : List α, rows = l.map e ∧ ∀ x ∈ l, Q x
  | [], _ => ⟨[], rfl, fun x h => by simp at h⟩
  | r :: rows, h => by
    obtain ⟨x, h1, h2⟩ := h r (by simp)
    obtain ⟨l, h3, h4⟩ := rows_map rows (fun r hr => h r (List.mem_cons_of_mem _ hr))
    exact ⟨x :: l, by rw [h1, h3]; rfl, fun y hy => by
      rcases List.mem_cons.1 hy with rfl | hy
      · exact h2
      · exact h4 y hy⟩

theorem cells22 : Try.prog.cellsOf 22 = 1 := by kernel_rfl
theorem cells23 : Try.prog.cellsOf 23 = 1 := by kernel_rfl
theorem cells40 : Try.prog.cellsOf 40 = 2 := by kernel_rfl
theorem cells36 : Try.prog.cellsOf 36 = 3 := by kernel_rfl
theorem cells34 : Try.prog.cellsOf 34 = 1 := by kernel_rfl

def I64 (n : Int) : Prop := -9223372036854775808 ≤ n ∧ n ≤ 9223372036854775807
theorem i64_wf {n : Int} (h : (Lit.int .i64 n).wf = true) : I64 n := by
  simp only [Lit.wf, Bool.and_eq_true, decide_eq_true_eq] at h
  have e1 : IntKind.i64.min = -9223372036854775808 := by decide
  have e2 : IntKind.i64.max = 9223372036854775807 := by decide
  rw [e1, e2] at h
  exact h

theorem typed_int {n : Nat} {ds : List D} (h : Typed Try.prog (n + 1) 3 ds) : ∃ m, ds = [.int .i64 m] ∧ I64 m := by
  simp only [Typed, Try.underlying3] at h
  obtain ⟨m, h1, h2⟩ := h
  exact ⟨m, h1, i64_wf h2⟩

theorem cells38 : Try.prog.cellsOf 38 = 3 := by kernel_rfl
theorem cells3 : Try.prog.cellsOf 3 = 1 := by kernel_rfl
theorem cells9 : Try.prog.cellsOf 9 = 1 := by kernel_rfl

structure InI (x : Instr) : Prop where
  op : I64 x.op
  a : I64 x.a
  b : I64 x.b
structure InS (s : Shape) : Prop where
  name : (s.name.length : Int) ≤ 9223372036854775807
  fields : I64 s.fields
structure InG (g : Glob) : Prop where
  name : (g.name.length : Int) ≤ 9223372036854775807
  arity : I64 g.arity
  len : (g.code.length : Int) ≤ 9223372036854775807
  code : ∀ x ∈ g.code, InI x
structure InT (t : Table) : Prop where
  sl : (t.shapes.length : Int) ≤ 9223372036854775807
  gl : (t.globals.length : Int) ≤ 9223372036854775807
  shapes : ∀ s ∈ t.shapes, InS s
  globals : ∀ g ∈ t.globals, InG g

theorem InT.ok {t : Table} (h : InT t) : TabOk t :=
  ⟨h.sl, h.gl, fun g hg => (h.globals g hg).len, fun s hs => (h.shapes s hs).name, fun g hg => (h.globals g hg).name, fun g hg x hx => ((h.globals g hg).code x hx).a.2⟩

theorem len_max {α : Type} {l : List α} (h : l.length ≤ maxLen) : (l.length : Int) ≤ 9223372036854775807 := by
  have e : maxLen = 9223372036854775807 := by decide
  omega

theorem typed_str {n : Nat} {ds : List D} (h : Typed Try.prog (n + 1) 9 ds) : ∃ s, ds = [.str s] ∧ (s.length : Int) ≤ 9223372036854775807 := by
  simp only [Typed, Try.underlying9] at h
  obtain ⟨m, h1, h2⟩ := h
  exact ⟨m, h1, len_max h2⟩

theorem typed_instr {n : Nat} {ds : List D} (h : Typed Try.prog (n + 2) 38 ds) : ∃ x, ds = eInstr x ∧ InI x := by
  rw [Typed] at h
  simp only [Try.underlying38, TypedF] at h
  obtain ⟨a, r, rfl, _, h1, b, r2, rfl, _, h2, c, r3, rfl, _, h3, rfl⟩ := h
  obtain ⟨x, rfl, hx⟩ := typed_int h1
  obtain ⟨y, rfl, hy⟩ := typed_int h2
  obtain ⟨z, rfl, hz⟩ := typed_int h3
  exact ⟨⟨x, y, z⟩, rfl, ⟨hx, hy, hz⟩⟩

theorem typed_shape {n : Nat} {ds : List D} (h : Typed Try.prog (n + 2) 40 ds) : ∃ x, ds = eShape x ∧ InS x := by
  rw [Typed] at h
  simp only [Try.underlying40, TypedF] at h
  obtain ⟨a, r, rfl, _, h1, b, r2, rfl, _, h2, rfl⟩ := h
  obtain ⟨x, rfl, hx⟩ := typed_str h1
  obtain ⟨y, rfl, hy⟩ := typed_int h2
  exact ⟨⟨x, y⟩, rfl, ⟨hx, hy⟩⟩

theorem typed_code {n : Nat} {ds : List D} (h : Typed Try.prog (n + 3) 34 ds) : ∃ l : List Instr, ds = [.sl 3 (l.map eInstr)] ∧ (l.length : Int) ≤ 9223372036854775807 ∧ ∀ x ∈ l, InI x := by
  rw [Typed] at h
  simp only [Try.underlying34, cells38] at h
  obtain ⟨rows, rfl, hl, hr⟩ := h
  obtain ⟨l, rfl, h2⟩ := rows_map (e := eInstr) (Q := InI) rows (fun r h => typed_instr (hr r h).2)
  rw [List.length_map] at hl
  exact ⟨l, rfl, len_max hl, h2⟩

theorem typed_glob {n : Nat} {ds : List D} (h : Typed Try.prog (n + 4) 36 ds) : ∃ x, ds = eGlob x ∧ InG x := by
  rw [Typed] at h
  simp only [Try.underlying36, TypedF] at h
  obtain ⟨a, r, rfl, _, h1, b, r2, rfl, _, h2, c, r3, rfl, _, h3, rfl⟩ := h
  obtain ⟨x, rfl, hx⟩ := typed_str h1
  obtain ⟨y, rfl, hy⟩ := typed_int h2
  obtain ⟨z, rfl, hz, hz2⟩ := typed_code h3
  exact ⟨⟨x, y, z⟩, rfl, ⟨hx, hy, hz, hz2⟩⟩

theorem typed_table {n : Nat} {ds : List D} (h : Typed Try.prog (n + 6) 25 ds) : ∃ t : Table, ds = [.sl 2 (t.shapes.map eShape), .sl 3 (t.globals.map eGlob)] ∧ InT t := by
  rw [Typed] at h
  simp only [Try.underlying25, TypedF] at h
  obtain ⟨a, r, rfl, _, h1, b, r2, rfl, _, h2, rfl⟩ := h
  rw [Typed] at h1 h2
  simp only [Try.underlying22, Try.underlying23, cells40, cells36] at h1 h2
  obtain ⟨rows, rfl, hl, hr⟩ := h1
  obtain ⟨rows2, rfl, hl2, hr2⟩ := h2
  obtain ⟨l, rfl, h3⟩ := rows_map (e := eShape) (Q := InS) rows (fun r h => typed_shape (hr r h).2)
  obtain ⟨l2, rfl, h4⟩ := rows_map (e := eGlob) (Q := InG) rows2 (fun r h => typed_glob (hr2 r h).2)
  rw [List.length_map] at hl hl2
  exact ⟨⟨l, l2⟩, rfl, ⟨len_max hl, len_max hl2, h3, h4⟩⟩

theorem plain25 : plainT Try.prog 6 25 = true := by kernel_rfl
theorem plain3 : plainT Try.prog 1 3 = true := by kernel_rfl

end Go.Vm
end

section
namespace Go.Vm

theorem rowR_min {l : List Instr} {R : Nat → Prop} {i : Nat} {B : List Bool} (hB : ∀ j : Nat, nth B (j : Int) = true → R j)
    (hj : R i → ∀ j : Nat, Jmps (nth l i) j → R j) (hn : R i → goesOn (nth l i) = true → R (i + 1)) (hl : ∀ t, Jmps (nth l (i : Int)) t → 0 ≤ t) : ∀ j : Nat, nth (rowR l i B) (j : Int) = true → R j := by
  intro j h
  unfold rowR at h
  split at h
  · rename_i hi
    have hR := hB i hi
    have e : nth (if (targetS (nth l i)).2 then B.set (targetS (nth l i)).1.toNat true else B) (j : Int) = true → R j := by
      intro h
      split at h
      · rename_i ht
        rw [nth_setB] at h
        split at h
        · rename_i hq
          have h0 := hl _ (targetS_jmps ht)
          refine hj hR j ?_
          have := targetS_jmps ht
          rw [show (targetS (nth l (i : Int))).1 = (j : Int) by omega] at this
          exact this
        · exact hB j h
      · exact hB j h
    simp only at h
    by_cases hg : (nth l (i : Int)).op ≠ 13 ∧ (nth l (i : Int)).op ≠ 16 ∧ (nth l (i : Int)).op ≠ 17
    · rw [if_pos hg, nth_setB] at h
      by_cases hq : i + 1 = j ∧ j < (if (targetS (nth l i)).2 then B.set (targetS (nth l i)).1.toNat true else B).length
      · rw [← hq.1]
        exact hn hR ((goesOn_iff _).2 hg)
      · rw [if_neg hq] at h
        exact e h
    · rw [if_neg hg] at h
      exact e h
  · exact hB j h

theorem lookL_min {l : List Instr} (hl : Fit l) {R : Nat → Prop} (hs : ∀ i : Nat, i < l.length → R i → (∀ j : Nat, Jmps (nth l i) j → R j) ∧ (goesOn (nth l i) = true → R (i + 1))) :
    ∀ (k i : Nat) (J B : List Bool), i + k = l.length → (∀ j : Nat, nth B (j : Int) = true → R j) → ∀ j : Nat, nth (lookL l k i J B).2 (j : Int) = true → R j := by
  intro k
  induction k with
  | zero => intro i J B _ hB; exact hB
  | succ k ih =>
    intro i J B hi hB
    obtain ⟨J1, e⟩ := lookL_row l k i J B
    rw [e]
    exact ih _ _ _ (by omega) (rowR_min hB (fun h => (hs i (by omega) h).1) (fun h => (hs i (by omega) h).2) fun t ht => by have := hl.jmps (by omega) ht; omega)

theorem look_min {l : List Instr} (hl : Fit l) {R : Nat → Prop} (h0 : R 0) (hs : ∀ i : Nat, i < l.length → R i → (∀ j : Nat, Jmps (nth l i) j → R j) ∧ (goesOn (nth l i) = true → R (i + 1))) :
    ∀ j : Nat, nth (lookS l).2 (j : Int) = true → R j := by
  refine lookL_min hl hs l.length 0 _ _ (by omega) fun j hj => ?_
  rw [nth_setB] at hj
  split at hj
  · rename_i h; rw [← h.1]; exact h0
  · exfalso
    rw [nth_nat, List.getD_eq_getElem?_getD] at hj
    by_cases hlt : j < l.length + 1
    · rw [List.getElem?_replicate, if_pos hlt] at hj; cases hj
    · rw [List.getElem?_replicate, if_neg hlt] at hj; cases hj

theorem lookL_jumped {l : List Instr} (hl : Fit l) : ∀ (k i : Nat) (J B : List Bool), J.length = l.length + 1 → i + k = l.length →
    (∀ j : Nat, nth J (j : Int) = true → nth (lookL l k i J B).1 (j : Int) = true) ∧ ∀ q : Nat, i ≤ q → q < l.length → ∀ j : Nat, Jmps (nth l q) j → nth (lookL l k i J B).1 (j : Int) = true := by
  intro k
  induction k with
  | zero => intro i J B _ hi; exact ⟨fun j h => h, fun q h1 h2 => by omega⟩
  | succ k ih =>
    intro i J B hJ hi
    have e : ∃ B1, lookL l (k + 1) i J B = lookL l k (i + 1) (if (targetS (nth l i)).2 then J.set (targetS (nth l i)).1.toNat true else J) B1 := by
      simp only [lookL]
      split <;> exact ⟨_, rfl⟩
    obtain ⟨B1, e⟩ := e
    rw [e]
    obtain ⟨h1, h2⟩ := ih (i + 1) (if (targetS (nth l i)).2 then J.set (targetS (nth l i)).1.toNat true else J) B1 (by split <;> simp [hJ]) (by omega)
    refine ⟨fun j hj => h1 j ?_, fun q hq hql j hj => ?_⟩
    · split
      · exact setB_keep hj
      · exact hj
    · by_cases hqi : q = i
      · subst hqi
        refine h1 j ?_
        have := hl.jmps hql hj
        rw [jmps_target hj]
        simp only [if_true]
        rw [nth_setB, if_pos (by omega)]
      · exact h2 q (by omega) hql j hj
theorem look_jumped {l : List Instr} (hl : Fit l) {q j : Nat} (hq : q < l.length) (hj : Jmps (nth l q) j) : nth (lookS l).1 (j : Int) = true :=
  (lookL_jumped hl l.length 0 _ _ (by simp) (by omega)).2 q (by omega) hq j hj

def clearT (x : Instr) : Instr := if x.op = 13 then ⟨x.op, 1, x.b⟩ else if x.op = 14 ∨ x.op = 15 then ⟨x.op, x.a, 1⟩ else x
def Stat (ng ns : Int) (x : Instr) : Prop := numsS ng ns 2 0 (clearT x) = 0
theorem nums_split (ng ns nc i : Int) (x : Instr) : numsS ng ns nc i x = 0 ↔ (1 ≤ x.op ∧ x.op < 18) ∧ numberS ng ns nc i x.a (formS x.op).2.1 = 0 ∧ numberS ng ns nc i x.b (formS x.op).2.2 = 0 := by
  have key : ∀ u v : Int, ((if u = 172 ∨ v = 172 then (172 : Int) else if u ≠ 0 ∨ v ≠ 0 then 174 else 0) = 0 ↔ u = 0 ∧ v = 0) := by
    intro u v
    constructor
    · intro h
      split at h
      · omega
      · split at h <;> omega
    · rintro ⟨rfl, rfl⟩; rfl
  unfold numsS
  by_cases g : 1 ≤ x.op ∧ x.op < 18
  · rw [if_pos g, key]
    exact ⟨fun h => ⟨g, h⟩, fun h => h.2⟩
  · rw [if_neg g]
    exact ⟨fun h => absurd h (by decide), fun h => absurd h.1 g⟩
theorem nums_iff (ng ns nc i : Int) (x : Instr) : numsS ng ns nc i x = 0 ↔ Stat ng ns x ∧ ∀ t, Jmps x t → i < t ∧ t < nc := by
  unfold Stat
  rw [nums_split, nums_split]
  by_cases g : 1 ≤ x.op ∧ x.op < 18
  · have : x.op = 1 ∨ x.op = 2 ∨ x.op = 3 ∨ x.op = 4 ∨ x.op = 5 ∨ x.op = 6 ∨ x.op = 7 ∨ x.op = 8 ∨ x.op = 9 ∨ x.op = 10 ∨ x.op = 11 ∨ x.op = 12 ∨ x.op = 13 ∨ x.op = 14 ∨ x.op = 15 ∨ x.op = 16 ∨ x.op = 17 := by omega
    obtain ⟨op, a, b⟩ := x
    simp only at this
    clear g
    rcases this with rfl | rfl | rfl | rfl | rfl | rfl | rfl | rfl | rfl | rfl | rfl | rfl | rfl | rfl | rfl | rfl | rfl
    all_goals
      simp [formS, formT, nth, numberS, Jmps, clearT]
      try omega
  · have g' : ¬ (1 ≤ (clearT x).op ∧ (clearT x).op < 18) := by
      unfold clearT
      split
      · exact g
      · split <;> exact g
    exact ⟨fun h => absurd h.1 g, fun h => absurd h.1.1 g'⟩
theorem clear_carry (p g b : Int) (x : Instr) : clearT (carryI p g b x) = clearT x := by
  unfold clearT
  rw [carryI_op]
  by_cases h1 : x.op = 13
  · simp only [h1, if_true, carryI]
  · by_cases h2 : x.op = 14 ∨ x.op = 15
    · simp only [h1, h2, if_true, if_false, carryI]
    · simp only [h1, h2, if_false, carryI]
theorem stat_carry (ng ns p g b : Int) (x : Instr) : Stat ng ns (carryI p g b x) ↔ Stat ng ns x := by unfold Stat; rw [clear_carry]
theorem stacked_carry (sh : List Shape) (p g b d : Int) (x : Instr) : stackedS sh (carryI p g b x) d = stackedS sh x d := by
  by_cases h1 : x.op = 13
  · simp [stackedS, carryI, h1]
  · by_cases h2 : x.op = 14 ∨ x.op = 15
    · rcases h2 with h2 | h2 <;> simp [stackedS, carryI, h2]
    · simp [carryI, h1, h2]

structure Ty (ng : Int) (sh : List Shape) (ar : Int) (l : List Instr) (D : Nat → Int) (R : Nat → Prop) : Prop where
  r0 : R 0
  d0 : D 0 = ar + 1
  rng : ∀ i : Nat, i < l.length → R i → 1 ≤ D i ∧ D i ≤ 8000
  stat : ∀ i : Nat, i < l.length → R i → Stat ng sh.length (nth l i)
  st : ∀ i : Nat, i < l.length → R i → (stackedS sh (nth l i) (D i)).2 = true
  on : ∀ i : Nat, i < l.length → R i → goesOn (nth l i) = true → R (i + 1) ∧ D (i + 1) = (stackedS sh (nth l i) (D i)).1
  jm : ∀ i : Nat, i < l.length → R i → ∀ j : Nat, Jmps (nth l i) j → R j ∧ D j = (stackedS sh (nth l i) (D i)).1

theorem ty_put {ng ar : Int} {sh : List Shape} {l : List Instr} {D : Nat → Int} {R : Nat → Prop} (hG : Sane l) (T : Ty ng sh ar l D R) (p g : Nat) (more : List Instr) (hp : p + g ≤ l.length) (hg : 0 < g) (hm : more.length ≤ g)
    (hin : ∀ i : Nat, i < l.length → R i → ∀ j : Nat, Jmps (nth l i) j → ¬ (p < j ∧ j < p + g))
    (E : Nat → Int) (hE0 : R p → E 0 = D p)
    (hEm : R p → (more = [] ∨ goesOn (nth more ((more.length : Int) - 1)) = true) → R (p + g) ∧ E more.length = D (p + g))
    (hrng : R p → ∀ k : Nat, k < more.length → 1 ≤ E k ∧ E k ≤ 8000)
    (hstat : R p → ∀ k : Nat, k < more.length → Stat ng sh.length (nth more k))
    (hst : R p → ∀ k : Nat, k < more.length → (stackedS sh (nth more k) (E k)).2 = true)
    (hon : R p → ∀ k : Nat, k < more.length → goesOn (nth more k) = true → E (k + 1) = (stackedS sh (nth more k) (E k)).1)
    (hjm : R p → ∀ k : Nat, k < more.length → ∀ j : Nat, Jmps (nth more k) j → p + g ≤ j ∧ R j ∧ D j = (stackedS sh (nth more k) (E k)).1)
    (hp0 : ¬ R p → more = [])
    : ∃ D' R', Ty ng sh ar (putS l (p : Int) (g : Int) more) D' R' := by
  have hlen := put_len l p g more hp
  have hnth := put_nth l p g more hp
  have hfit := hG.fit
  let D' : Nat → Int := fun i => if i < p then D i else if i < p + more.length then E (i - p) else D (i + g - more.length)
  let R' : Nat → Prop := fun i => if i < p then R i else if i < p + more.length then R p else R (i + g - more.length)
  have D1 : ∀ i, i < p → D' i = D i := fun i h => if_pos h
  have D2 : ∀ i, p ≤ i → i < p + more.length → D' i = E (i - p) := fun i h1 h2 => by show (if _ then _ else _) = _; rw [if_neg (by omega), if_pos h2]
  have D3 : ∀ i, p + more.length ≤ i → D' i = D (i + g - more.length) := fun i h1 => by show (if _ then _ else _) = _; rw [if_neg (by omega), if_neg (by omega)]
  have R1 : ∀ i, i < p → R' i = R i := fun i h => if_pos h
  have R2 : ∀ i, p ≤ i → i < p + more.length → R' i = R p := fun i h1 h2 => by show (if _ then _ else _) = _; rw [if_neg (by omega), if_pos h2]
  have R3 : ∀ i, p + more.length ≤ i → R' i = R (i + g - more.length) := fun i h1 => by show (if _ then _ else _) = _; rw [if_neg (by omega), if_neg (by omega)]
  have atP : R p → R' p ∧ D' p = D p := by
    intro h
    by_cases hz : more.length = 0
    · have := hEm h (.inl (List.eq_nil_of_length_eq_zero hz))
      rw [R3 p (by omega), D3 p (by omega), show p + g - more.length = p + g by omega, ← hE0 h]
      rw [hz] at this
      exact ⟨this.1, this.2.symm⟩
    · rw [R2 p (by omega) (by omega), D2 p (by omega) (by omega), Nat.sub_self]
      exact ⟨h, hE0 h⟩
  -- where a place of the old list is
  have atO : ∀ j : Nat, p + g ≤ j → R' (j - g + more.length) = R j ∧ D' (j - g + more.length) = D j := by
    intro j h
    rw [R3 _ (by omega), D3 _ (by omega), show j - g + more.length + g - more.length = j by omega]
    exact ⟨rfl, rfl⟩
  -- a jump that is carried
  have cr : ∀ (j0 : Int) (j : Nat), 0 ≤ j0 → (j : Int) = carryS p g ((more.length : Int) - g) j0 → ¬ ((p : Int) < j0 ∧ j0 < (p : Int) + g) → R j0.toNat → R' j ∧ D' j = D j0.toNat := by
    intro j0 j h0 hj hn hr
    unfold carryS at hj
    by_cases c : j0 ≤ p
    · rw [if_pos c] at hj
      by_cases c2 : j < p
      · rw [R1 j c2, D1 j c2, show j0.toNat = j by omega] at *
        exact ⟨hr, rfl⟩
      · have : j = p := by omega
        rw [this, show j0.toNat = p by omega] at *
        exact atP hr
    · rw [if_neg c, if_neg (by omega)] at hj
      have := atO j0.toNat (by omega)
      rw [show j0.toNat - g + more.length = j by omega] at this
      rw [this.1, this.2]
      exact ⟨hr, rfl⟩
  -- an instruction of the old list, at its new place
  refine ⟨D', R', ?_, ?_, ?_, ?_, ?_, ?_, ?_⟩
  · by_cases c : 0 < p
    · rw [R1 0 c]; exact T.r0
    · have : p = 0 := by omega
      subst this; exact (atP T.r0).1
  · by_cases c : 0 < p
    · rw [D1 0 c]; exact T.d0
    · have : p = 0 := by omega
      subst this; rw [(atP T.r0).2]; exact T.d0
  · intro i hi hr
    rw [hlen] at hi
    by_cases c1 : i < p
    · rw [R1 i c1] at hr; rw [D1 i c1]; exact T.rng i (by omega) hr
    · by_cases c2 : i < p + more.length
      · rw [R2 i (by omega) c2] at hr; rw [D2 i (by omega) c2]; exact hrng hr _ (by omega)
      · rw [R3 i (by omega)] at hr; rw [D3 i (by omega)]; exact T.rng _ (by omega) hr
  · intro i hi hr
    rw [hlen] at hi
    rw [hnth i hi, stat_carry]
    by_cases c1 : i < p
    · rw [R1 i c1] at hr; rw [if_pos c1]; exact T.stat i (by omega) hr
    · by_cases c2 : i < p + more.length
      · rw [R2 i (by omega) c2] at hr; rw [if_neg c1, if_pos c2]; exact hstat hr _ (by omega)
      · rw [R3 i (by omega)] at hr; rw [if_neg c1, if_neg c2]; exact T.stat _ (by omega) hr
  · intro i hi hr
    rw [hlen] at hi
    rw [hnth i hi, stacked_carry]
    by_cases c1 : i < p
    · rw [R1 i c1] at hr; rw [if_pos c1, D1 i c1]; exact T.st i (by omega) hr
    · by_cases c2 : i < p + more.length
      · rw [R2 i (by omega) c2] at hr; rw [if_neg c1, if_pos c2, D2 i (by omega) c2]; exact hst hr _ (by omega)
      · rw [R3 i (by omega)] at hr; rw [if_neg c1, if_neg c2, D3 i (by omega)]; exact T.st _ (by omega) hr
  · intro i hi hr hgo
    rw [hlen] at hi
    rw [hnth i hi, goesOn_carry] at hgo
    rw [hnth i hi, stacked_carry]
    by_cases c1 : i < p
    · rw [R1 i c1] at hr; rw [if_pos c1] at hgo; rw [if_pos c1, D1 i c1]
      have := T.on i (by omega) hr hgo
      by_cases c3 : i + 1 < p
      · rw [R1 _ c3, D1 _ c3]; exact this
      · have e : i + 1 = p := by omega
        rw [e] at this ⊢
        rw [(atP this.1).2]
        exact ⟨(atP this.1).1, this.2⟩
    · by_cases c2 : i < p + more.length
      · rw [R2 i (by omega) c2] at hr
        rw [if_neg c1, if_pos c2] at hgo
        rw [if_neg c1, if_pos c2, D2 i (by omega) c2]
        have h1 := hon hr (i - p) (by omega) hgo
        by_cases c3 : i + 1 < p + more.length
        · rw [R2 _ (by omega) c3, D2 _ (by omega) c3, show i + 1 - p = i - p + 1 by omega]
          exact ⟨hr, h1⟩
        · have h2 := hEm hr (.inr (by rw [show (more.length : Int) - 1 = ((i - p : Nat) : Int) by omega]; exact hgo))
          rw [R3 _ (by omega), D3 _ (by omega), show i + 1 + g - more.length = p + g by omega, ← h2.2]
          refine ⟨h2.1, ?_⟩
          rw [show more.length = i - p + 1 by omega]
          exact h1
      · rw [R3 i (by omega)] at hr
        rw [if_neg c1, if_neg c2] at hgo
        rw [if_neg c1, if_neg c2, D3 i (by omega)]
        have := T.on _ (by omega) hr hgo
        rw [R3 _ (by omega), D3 _ (by omega), show i + 1 + g - more.length = i + g - more.length + 1 by omega]
        exact this
  · intro i hi hr j hj
    rw [hlen] at hi
    rw [hnth i hi] at hj
    rw [hnth i hi, stacked_carry]
    obtain ⟨t0, hk, ht⟩ := jmps_carry hj
    by_cases c1 : i < p
    · rw [R1 i c1] at hr; rw [if_pos c1] at hk; rw [if_pos c1, D1 i c1]
      have b := hfit.jmps (by omega) hk
      have hk' : Jmps (nth l (i : Int)) ((t0.toNat : Nat) : Int) := by rw [show ((t0.toNat : Nat) : Int) = t0 by omega]; exact hk
      have h1 := T.jm i (by omega) hr _ hk'
      have h2 := hin i (by omega) hr _ hk'
      have h3 := cr t0 j (by omega) ht (by omega) h1.1
      rw [h3.2]
      exact ⟨h3.1, h1.2⟩
    · by_cases c2 : i < p + more.length
      · rw [R2 i (by omega) c2] at hr
        rw [if_neg c1, if_pos c2] at hk
        rw [if_neg c1, if_pos c2, D2 i (by omega) c2]
        have b : 0 ≤ t0 := by
          rcases Int.lt_or_le t0 0 with h | h
          · unfold carryS at ht; rw [if_pos (by omega)] at ht; omega
          · exact h
        have hk' : Jmps (nth more ((i - p : Nat) : Int)) ((t0.toNat : Nat) : Int) := by rw [show ((t0.toNat : Nat) : Int) = t0 by omega]; exact hk
        have h1 := hjm hr (i - p) (by omega) _ hk'
        have h3 := cr t0 j b ht (by omega) h1.2.1
        rw [h3.2]
        exact ⟨h3.1, h1.2.2⟩
      · rw [R3 i (by omega)] at hr
        rw [if_neg c1, if_neg c2] at hk
        rw [if_neg c1, if_neg c2, D3 i (by omega)]
        have b := hfit.jmps (by omega) hk
        have hk' : Jmps (nth l ((i + g - more.length : Nat) : Int)) ((t0.toNat : Nat) : Int) := by rw [show ((t0.toNat : Nat) : Int) = t0 by omega]; exact hk
        have h1 := T.jm _ (by omega) hr _ hk'
        have h3 := cr t0 j (by omega) ht (by omega) h1.1
        rw [h3.2]
        exact ⟨h3.1, h1.2⟩

end Go.Vm
end

section
namespace Go.Vm

theorem nth_setI (Dp : List Int) (n j : Nat) (d : Int) : nth (Dp.set n d) (j : Int) = if n = j ∧ j < Dp.length then d else nth Dp (j : Int) := by
  rw [nth_nat, nth_nat, List.getD_eq_getElem?_getD, List.getD_eq_getElem?_getD]
  by_cases h : n = j
  · subst h
    by_cases h2 : n < Dp.length
    · rw [if_pos ⟨rfl, h2⟩, List.getElem?_set_self h2]; rfl
    · rw [if_neg (by omega), List.set_eq_of_length_le (by omega)]
  · rw [if_neg (by omega), List.getElem?_set_ne h]
theorem reachS_keep {Dp : List Int} {at_ d : Int} (h0 : 0 ≤ at_) {j : Nat} (h : nth Dp (j : Int) ≠ 0) : nth (reachS Dp at_ d) (j : Int) = nth Dp (j : Int) := by
  unfold reachS
  split
  · rename_i hz
    rw [nth_setI, if_neg]
    rintro ⟨h1, _⟩
    rw [show at_ = (j : Int) by omega] at hz
    exact h hz
  · rfl
theorem reachS_at {Dp : List Int} {j : Nat} {d : Int} (hj : j < Dp.length) (h : reachB' Dp (j : Int) d = true) : nth (reachS Dp (j : Int) d) (j : Int) = d := by
  unfold reachB' at h
  unfold reachS
  split
  · rw [nth_setI, if_pos ⟨by omega, hj⟩]
  · rename_i hz
    rw [if_neg hz] at h
    exact beq_iff_eq.1 h
theorem reachS_val (Dp : List Int) (a j : Nat) (d : Int) : nth (reachS Dp (a : Int) d) (j : Int) = nth Dp (j : Int) ∨ (a = j ∧ nth (reachS Dp (a : Int) d) (j : Int) = d) := by
  unfold reachS
  split
  · rw [nth_setI, Int.toNat_natCast]
    split
    · rename_i h; exact .inr ⟨h.1, rfl⟩
    · exact .inl rfl
  · exact .inl rfl

theorem targI_jmps {x : Instr} {t : Int} (h : Jmps x t) : targI x = t := by
  unfold targI
  rcases h with ⟨h1, rfl⟩ | ⟨h1, rfl⟩
  · rw [if_pos h1]
  · rw [if_neg (by omega), if_pos h1]
theorem jmps_targI {x : Instr} (h : 0 < targI x) : Jmps x (targI x) := by
  unfold targI at h ⊢
  split
  · rename_i h1; exact .inl ⟨h1, rfl⟩
  · rename_i h1
    rw [if_neg h1] at h
    split
    · rename_i h2; exact .inr ⟨h2, rfl⟩
    · rename_i h2; rw [if_neg h2] at h; omega

def Fits (sh : List Shape) (cd : List Instr) (D : Nat → Int) (q : Nat) : Prop :=
  (1 ≤ D q ∧ D q ≤ 8000) ∧ (stackedS sh (nth cd q) (D q)).2 = true ∧ (goesOn (nth cd q) = true → q + 1 < cd.length ∧ D (q + 1) = (stackedS sh (nth cd q) (D q)).1) ∧ ∀ j : Nat, Jmps (nth cd q) j → D j = (stackedS sh (nth cd q) (D q)).1

theorem depL_fits {ng : Int} {sh : List Shape} (hs : ShOk sh) {cd : List Instr} (hn : ∀ q : Nat, q < cd.length → numsS ng sh.length cd.length q (nth cd q) = 0) :
    ∀ (k i : Nat) (Dp : List Int), i + k = cd.length → Dp.length = cd.length → DpOk Dp → depL sh cd k i Dp = 0 →
      ∃ D : Nat → Int, (∀ j : Nat, nth Dp (j : Int) ≠ 0 → D j = nth Dp (j : Int)) ∧ ∀ q : Nat, i ≤ q → q < cd.length → Fits sh cd D q := by
  intro k
  induction k with
  | zero => intro i Dp hi hl _ _; exact ⟨fun j => nth Dp (j : Int), fun j _ => rfl, fun q h1 h2 => by omega⟩
  | succ k ih =>
    intro i Dp hi hl hok h
    have hlt : i < cd.length := by omega
    have hno := numsS_ok (hn i hlt)
    have hjr := ((nums_iff _ _ _ _ _).1 (hn i hlt)).2
    have hdi : 0 ≤ nth Dp (i : Int) ∧ nth Dp (i : Int) ≤ 8000 := hok _ (nth_mem (by omega) (by omega))
    simp only [depL] at h
    split at h
    · cases h
    rename_i d0
    split at h
    · cases h
    rename_i s0
    have s0 : (stackedS sh (nth cd i) (nth Dp i)).2 = true := by simpa using s0
    have hr := stacked_range hs hno (by omega) s0
    generalize hst : stackedS sh (nth cd i) (nth Dp i) = st at h s0 hr
    -- what is known with any depths that keep these
    have fin : ∀ D : Nat → Int, D i = nth Dp (i : Int) → (goesOn (nth cd i) = true → i + 1 < cd.length ∧ D (i + 1) = st.1) → (∀ j : Nat, Jmps (nth cd i) j → D j = st.1) → Fits sh cd D i := by
      intro D e1 e2 e3
      unfold Fits
      rw [e1, hst]
      exact ⟨by omega, s0, e2, e3⟩
    have more : ∀ (D : Nat → Int) (Dp' : List Int), (∀ j : Nat, nth Dp (j : Int) ≠ 0 → nth Dp' (j : Int) = nth Dp (j : Int)) → (∀ j : Nat, nth Dp' (j : Int) ≠ 0 → D j = nth Dp' (j : Int)) → (∀ j : Nat, nth Dp (j : Int) ≠ 0 → D j = nth Dp (j : Int)) := by
      intro D Dp' h1 h2 j hj
      rw [← h1 j hj]
      exact h2 j (by rw [h1 j hj]; exact hj)
    have stitch : ∀ (D : Nat → Int), Fits sh cd D i → (∀ q : Nat, i + 1 ≤ q → q < cd.length → Fits sh cd D q) → ∀ q : Nat, i ≤ q → q < cd.length → Fits sh cd D q := by
      intro D h1 h2 q hq hq2
      by_cases e : q = i
      · rw [e]; exact h1
      · exact h2 q (by omega) hq2
    have e1 : ((i : Int) + 1) = ((i + 1 : Nat) : Int) := by omega
    split at h
    · rename_i hg
      split at h
      · cases h
      rename_i hlast
      split at h
      · cases h
      rename_i hb1
      have hb1 : reachB' Dp ((i : Int) + 1) st.1 = true := by simpa using hb1
      rw [e1] at hb1 h
      have k1 : ∀ j : Nat, nth Dp (j : Int) ≠ 0 → nth (reachS Dp ((i + 1 : Nat) : Int) st.1) (j : Int) = nth Dp (j : Int) := fun j hj => reachS_keep (by omega) hj
      have a1 := reachS_at (by omega) hb1
      have l1 := reachS_len Dp ((i + 1 : Nat) : Int) st.1
      have o1 := reachS_ok (at_ := ((i + 1 : Nat) : Int)) hok (d := st.1) (by omega)
      split at h
      · rename_i ht
        split at h
        · cases h
        rename_i hb2
        have hb2 : reachB' (reachS Dp ((i + 1 : Nat) : Int) st.1) (targI (nth cd i)) st.1 = true := by simpa using hb2
        have hjm := jmps_targI ht
        have hjb := hjr _ hjm
        have et : targI (nth cd (i : Int)) = (((targI (nth cd (i : Int))).toNat : Nat) : Int) := by omega
        rw [et] at hb2 h
        obtain ⟨D, h1, h2⟩ := ih (i + 1) _ (by omega) (by rw [reachS_len, l1, hl]) (reachS_ok o1 (by omega)) h
        have k2 : ∀ j : Nat, nth (reachS Dp ((i + 1 : Nat) : Int) st.1) (j : Int) ≠ 0 → nth (reachS (reachS Dp ((i + 1 : Nat) : Int) st.1) (((targI (nth cd (i : Int))).toNat : Nat) : Int) st.1) (j : Int) = nth (reachS Dp ((i + 1 : Nat) : Int) st.1) (j : Int) := fun j hj => reachS_keep (by omega) hj
        have a2 := reachS_at (by rw [l1]; omega) hb2
        have h1' : ∀ j : Nat, nth (reachS Dp ((i + 1 : Nat) : Int) st.1) (j : Int) ≠ 0 → D j = _ := fun j hj => by rw [h1 j (by rw [k2 j hj]; exact hj), k2 j hj]
        have h1'' := more D _ k1 h1'
        refine ⟨D, h1'', stitch D (fin D (h1'' i d0) (fun _ => ⟨by omega, ?_⟩) fun j hj => ?_) h2⟩
        · rw [h1' (i + 1) (by rw [a1]; omega), a1]
        · have := targI_jmps hj
          rw [this, Int.toNat_natCast] at a2
          rw [h1 j (by rw [this, Int.toNat_natCast, a2]; omega), this, Int.toNat_natCast, a2]
      · rename_i ht
        obtain ⟨D, h1, h2⟩ := ih (i + 1) _ (by omega) (by rw [l1, hl]) o1 h
        have h1'' := more D _ k1 h1
        refine ⟨D, h1'', stitch D (fin D (h1'' i d0) (fun _ => ⟨by omega, ?_⟩) fun j hj => ?_) h2⟩
        · rw [h1 (i + 1) (by rw [a1]; omega), a1]
        · have := targI_jmps hj
          have := hjr _ hj
          omega
    · rename_i hg
      split at h
      · rename_i ht
        split at h
        · cases h
        rename_i hb2
        have hb2 : reachB' Dp (targI (nth cd i)) st.1 = true := by simpa using hb2
        have hjm := jmps_targI ht
        have hjb := hjr _ hjm
        have et : targI (nth cd (i : Int)) = (((targI (nth cd (i : Int))).toNat : Nat) : Int) := by omega
        rw [et] at hb2 h
        obtain ⟨D, h1, h2⟩ := ih (i + 1) _ (by omega) (by rw [reachS_len, hl]) (reachS_ok hok (by omega)) h
        have k2 : ∀ j : Nat, nth Dp (j : Int) ≠ 0 → nth (reachS Dp (((targI (nth cd (i : Int))).toNat : Nat) : Int) st.1) (j : Int) = nth Dp (j : Int) := fun j hj => reachS_keep (by omega) hj
        have a2 := reachS_at (by omega) hb2
        have h1'' := more D _ k2 h1
        refine ⟨D, h1'', stitch D (fin D (h1'' i d0) (fun hc => absurd hc hg) fun j hj => ?_) h2⟩
        have := targI_jmps hj
        rw [this, Int.toNat_natCast] at a2
        rw [h1 j (by rw [this, Int.toNat_natCast, a2]; omega), this, Int.toNat_natCast, a2]
      · rename_i ht
        obtain ⟨D, h1, h2⟩ := ih (i + 1) _ (by omega) hl hok h
        refine ⟨D, h1, stitch D (fin D (h1 i d0) (fun hc => absurd hc hg) fun j hj => ?_) h2⟩
        have := targI_jmps hj
        have := hjr _ hj
        omega

theorem check_ty {ng : Nat} {sh : List Shape} (hs : ShOk sh) {g : Glob} (har : 0 ≤ g.arity ∧ g.arity ≤ 24) (h : checkCodeS ng sh g = 0) : ∃ D, Ty ng sh g.arity g.code D fun i => i < g.code.length := by
  unfold checkCodeS at h
  by_cases c1 : numsL ng sh.length g.code.length g.code g.code.length 0 = 0
  · rw [if_pos c1] at h
    by_cases c2 : g.code.length = 0
    · rw [if_pos c2] at h; cases h
    · rw [if_neg c2] at h
      have hn : ∀ q : Nat, q < g.code.length → numsS ng sh.length g.code.length q (nth g.code q) = 0 := fun q hq => numsL_mem _ _ c1 q (by omega) (by omega)
      have hz : ∀ v ∈ (List.replicate g.code.length (0 : Int)).set 0 (g.arity + 1), 0 ≤ v ∧ v ≤ 8000 := by
        intro v hv
        rcases List.mem_or_eq_of_mem_set hv with h1 | h1
        · rw [List.mem_replicate] at h1; omega
        · omega
      obtain ⟨D, h1, h2⟩ := depL_fits hs hn _ 0 _ (by omega) (by simp) hz h
      have e0 : nth ((List.replicate g.code.length (0 : Int)).set 0 (g.arity + 1)) ((0 : Nat) : Int) = g.arity + 1 := by
        rw [nth_setI, if_pos (by simp; omega)]
      refine ⟨D, by omega, by rw [h1 0 (by rw [e0]; omega), e0], fun i hi _ => (h2 i (by omega) hi).1, fun i hi _ => ((nums_iff _ _ _ _ _).1 (hn i hi)).1, fun i hi _ => (h2 i (by omega) hi).2.1, fun i hi _ hg => (h2 i (by omega) hi).2.2.1 hg, fun i hi _ j hj => ⟨?_, (h2 i (by omega) hi).2.2.2 j hj⟩⟩
      have := ((nums_iff _ _ _ _ _).1 (hn i hi)).2 _ hj
      omega
  · rw [if_neg c1] at h; exact absurd h c1

theorem ty_depL {ng : Int} {sh : List Shape} {ar : Int} {l : List Instr} {D : Nat → Int} {R : Nat → Prop} (hG : Sane l) (T : Ty ng sh ar l D R) :
    ∀ (k i : Nat) (Dp : List Int) (B J : List Bool), i + k = l.length → Dp.length = l.length → (∀ j : Nat, nth Dp (j : Int) ≠ 0 → nth Dp (j : Int) = D j ∧ R j) → (∀ j : Nat, j < l.length → nth B (j : Int) = true → nth Dp (j : Int) ≠ 0) →
      (∀ q : Nat, i ≤ q → q < l.length → nth (lookL l k i J B).2 (q : Int) = true) → depL sh l k i Dp = 0 := by
  intro k
  induction k with
  | zero => intro i Dp B J _ _ _ _ _; rfl
  | succ k ih =>
    intro i Dp B J hi hl hD hB hq
    have hlt : i < l.length := by omega
    have hfit := hG.fit
    have b0 : nth B (i : Int) = true := by
      have := hq i (by omega) hlt
      rwa [lookL_old hfit _ _ _ _ _ (by omega) (by omega)] at this
    have d0 := hB i hlt b0
    obtain ⟨d1, r1⟩ := hD i d0
    have s0 := T.st i hlt r1
    have on := T.on i hlt r1
    have jm := T.jm i hlt r1
    rw [← d1] at s0 on jm
    obtain ⟨J1, e⟩ := lookL_row l k i J B
    rw [e] at hq
    have e1 : ((i : Int) + 1) = ((i + 1 : Nat) : Int) := by omega
    simp only [depL]
    rw [if_neg d0, if_neg (by rw [s0]; decide)]
    generalize hst : stackedS sh (nth l i) (nth Dp i) = st at s0 on jm
    -- a place that is reached with this depth
    have reach : ∀ (Dp' : List Int), Dp'.length = l.length → (∀ j : Nat, nth Dp' (j : Int) ≠ 0 → nth Dp' (j : Int) = D j ∧ R j) → ∀ a : Nat, a < l.length → R a → D a = st.1 →
        reachB' Dp' (a : Int) st.1 = true ∧ (reachS Dp' (a : Int) st.1).length = l.length ∧ (∀ j : Nat, nth (reachS Dp' (a : Int) st.1) (j : Int) ≠ 0 → nth (reachS Dp' (a : Int) st.1) (j : Int) = D j ∧ R j) ∧ nth (reachS Dp' (a : Int) st.1) (a : Int) ≠ 0 ∧ (∀ j : Nat, nth Dp' (j : Int) ≠ 0 → nth (reachS Dp' (a : Int) st.1) (j : Int) ≠ 0) := by
      intro Dp' hl' hD' a ha hR hDa
      have b : reachB' Dp' (a : Int) st.1 = true := by
        unfold reachB'
        split
        · rfl
        · rename_i hz
          rw [(hD' a hz).1, hDa]; simp
      refine ⟨b, by rw [reachS_len, hl'], fun j hj => ?_, ?_, fun j hj => by rw [reachS_keep (by omega) hj]; exact hj⟩
      · rcases reachS_val Dp' a j st.1 with h | ⟨h1, h2⟩
        · rw [h] at hj ⊢; exact hD' j hj
        · subst h1; exact ⟨by rw [h2, hDa], hR⟩
      · rw [reachS_at (by omega) b, ← hDa]
        have := T.rng a ha hR
        omega
    -- what is met behind this row
    have row : ∀ Dp' : List Int, (∀ j : Nat, nth Dp (j : Int) ≠ 0 → nth Dp' (j : Int) ≠ 0) → (∀ j : Nat, Jmps (nth l i) j → nth Dp' (j : Int) ≠ 0) → (goesOn (nth l i) = true → i + 1 < l.length → nth Dp' ((i + 1 : Nat) : Int) ≠ 0) →
        ∀ j : Nat, j < l.length → nth (rowR l i B) (j : Int) = true → nth Dp' (j : Int) ≠ 0 := by
      intro Dp' h1 h2 h3 j hj
      have := rowR_min (l := l) (R := fun j => j < l.length → nth Dp' (j : Int) ≠ 0) (i := i) (B := B) (fun j hj hl => h1 j (hB j hl hj)) (fun _ j hj _ => h2 j hj) (fun _ hg hl => h3 hg hl) (fun t ht => by have := hfit.jmps hlt ht; omega) j
      exact fun h => this h hj
    by_cases hg : goesOn (nth l i) = true
    · have hne : i + 1 < l.length := by
        rcases Nat.lt_or_ge (i + 1) l.length with h | h
        · exact h
        · have := hG.last
          rw [show (l.length : Int) - 1 = (i : Int) by omega, hg] at this
          cases this
      obtain ⟨on1, on2⟩ := on hg
      obtain ⟨p1, p2, p3, p4, p5⟩ := reach Dp hl hD (i + 1) hne on1 on2
      rw [if_pos hg, if_neg (by omega), e1, if_neg (by rw [p1]; decide)]
      by_cases ht : 0 < targI (nth l i)
      · have hjm := jmps_targI ht
        have hjb := hfit.jmps hlt hjm
        have et : targI (nth l (i : Int)) = (((targI (nth l (i : Int))).toNat : Nat) : Int) := by omega
        rw [et] at hjm hjb
        obtain ⟨j1, j2⟩ := jm _ hjm
        obtain ⟨q1, q2, q3, q4, q5⟩ := reach _ p2 p3 _ (by omega) j1 j2
        rw [if_pos ht, et, if_neg (by rw [q1]; decide)]
        refine ih (i + 1) _ (rowR l i B) J1 (by omega) q2 q3 (row _ (fun j hj => q5 j (p5 j hj)) (fun j hj => ?_) fun _ _ => q5 _ p4) fun q h1 h2 => hq q (by omega) h2
        have := targI_jmps hj
        rw [this, Int.toNat_natCast] at q4 ⊢
        exact q4
      · rw [if_neg ht]
        refine ih (i + 1) _ (rowR l i B) J1 (by omega) p2 p3 (row _ p5 (fun j hj => ?_) fun _ _ => p4) fun q h1 h2 => hq q (by omega) h2
        have := targI_jmps hj
        have := hfit.jmps hlt hj
        omega
    · rw [if_neg hg]
      by_cases ht : 0 < targI (nth l i)
      · have hjm := jmps_targI ht
        have hjb := hfit.jmps hlt hjm
        have et : targI (nth l (i : Int)) = (((targI (nth l (i : Int))).toNat : Nat) : Int) := by omega
        rw [et] at hjm hjb
        obtain ⟨j1, j2⟩ := jm _ hjm
        obtain ⟨q1, q2, q3, q4, q5⟩ := reach _ hl hD _ (by omega) j1 j2
        rw [if_pos ht, et, if_neg (by rw [q1]; decide)]
        refine ih (i + 1) _ (rowR l i B) J1 (by omega) q2 q3 (row _ q5 (fun j hj => ?_) fun h => absurd h hg) fun q h1 h2 => hq q (by omega) h2
        have := targI_jmps hj
        rw [this, Int.toNat_natCast] at q4 ⊢
        exact q4
      · rw [if_neg ht]
        refine ih (i + 1) _ (rowR l i B) J1 (by omega) hl hD (row _ (fun j hj => hj) (fun j hj => ?_) fun h => absurd h hg) fun q h1 h2 => hq q (by omega) h2
        have := targI_jmps hj
        have := hfit.jmps hlt hj
        omega

theorem numsL_all {ng ns nc : Int} {l : List Instr} : ∀ (k i : Nat), (∀ q : Nat, i ≤ q → q < i + k → numsS ng ns nc q (nth l q) = 0) → numsL ng ns nc l k i = 0 := by
  intro k
  induction k with
  | zero => intro i _; rfl
  | succ k ih =>
    intro i h
    simp only [numsL]
    rw [if_pos (h i (by omega) (by omega))]
    exact ih (i + 1) fun q h1 h2 => h q (by omega) (by omega)

theorem ty_check {ng : Nat} {sh : List Shape} {nm : List UInt8} {ar : Int} {l : List Instr} {D : Nat → Int} {R : Nat → Prop} (hG : Sane l) (T : Ty ng sh ar l D R) (hall : ∀ q : Nat, q < l.length → nth (lookS l).2 (q : Int) = true) :
    checkCodeS ng sh ⟨nm, ar, l⟩ = 0 := by
  have hne := hG.ne
  have hR : ∀ q : Nat, nth (lookS l).2 (q : Int) = true → R q := look_min hG.fit T.r0 fun i hi hr => ⟨fun j hj => (T.jm i hi hr j hj).1, fun hg => (T.on i hi hr hg).1⟩
  unfold checkCodeS
  simp only
  rw [if_pos (numsL_all _ _ fun q _ hq => (nums_iff _ _ _ _ _).2 ⟨T.stat q (by omega) (hR q (hall q (by omega))), fun t ht => hG.fit.jmps (by omega) ht⟩), if_neg (by omega)]
  have d00 : 0 < ar + 1 := by rw [← T.d0]; have := T.rng 0 hne T.r0; omega
  refine ty_depL hG T _ 0 _ _ _ (by omega) (by simp) (fun j hj => ?_) (fun j hjl hj => ?_) (fun q _ hq => hall q hq)
  · rw [nth_setI] at hj ⊢
    split
    · rename_i h; rw [← h.1]; exact ⟨T.d0.symm, T.r0⟩
    · rename_i h
      rw [if_neg h] at hj
      exfalso; apply hj
      rw [nth_nat, List.getD_eq_getElem?_getD, List.getElem?_replicate]
      split <;> rfl
  · rw [nth_setB] at hj
    rw [nth_setI]
    split at hj
    · rename_i h
      rw [if_pos ⟨h.1, by simpa using hjl⟩]
      omega
    · exfalso
      rw [nth_nat, List.getD_eq_getElem?_getD, List.getElem?_replicate] at hj
      split at hj <;> cases hj

end Go.Vm
end

section
namespace Go.Vm

theorem ty_met {ng ar : Int} {sh : List Shape} {l : List Instr} {D : Nat → Int} {R : Nat → Prop} (hG : Sane l) (T : Ty ng sh ar l D R) : Ty ng sh ar l D fun i => nth (lookS l).2 (i : Int) = true := by
  have hR : ∀ q : Nat, nth (lookS l).2 (q : Int) = true → R q := look_min hG.fit T.r0 fun i hi hr => ⟨fun j hj => (T.jm i hi hr j hj).1, fun hg => (T.on i hi hr hg).1⟩
  exact ⟨look_zero l, T.d0, fun i hi h => T.rng i hi (hR i h), fun i hi h => T.stat i hi (hR i h), fun i hi h => T.st i hi (hR i h), fun i hi h hg => ⟨(look_fact hG.fit hi h).2 hg, (T.on i hi (hR i h) hg).2⟩,
    fun i hi h j hj => ⟨(look_fact hG.fit hi h).1 j hj, (T.jm i hi (hR i h) j hj).2⟩⟩

section
variable {ng ar : Int} {sh : List Shape} {l : List Instr} {D : Nat → Int} {R : Nat → Prop}

theorem ty_del (hG : Sane l) (T : Ty ng sh ar l D R) (p g : Nat) (hp : p + g ≤ l.length) (hg : 0 < g) (hin : ∀ i : Nat, i < l.length → R i → ∀ j : Nat, Jmps (nth l i) j → ¬ (p < j ∧ j < p + g))
    (h : R p → R (p + g) ∧ D p = D (p + g)) : ∃ D' R', Ty ng sh ar (putS l (p : Int) (g : Int) []) D' R' :=
  ty_put hG T p g [] hp hg (by simp) hin (fun _ => D p) (fun _ => rfl) (fun hr _ => h hr) (fun _ k hk => by simp at hk) (fun _ k hk => by simp at hk) (fun _ k hk => by simp at hk) (fun _ k hk => by simp at hk) (fun _ k hk => by simp at hk) (fun _ => rfl)

theorem ty_one (hG : Sane l) (T : Ty ng sh ar l D R) (p g : Nat) (hp : p + g ≤ l.length) (hg : 0 < g) (hin : ∀ i : Nat, i < l.length → R i → ∀ j : Nat, Jmps (nth l i) j → ¬ (p < j ∧ j < p + g))
    (hr : R p) (y : Instr) (h1 : Stat ng sh.length y) (h2 : (stackedS sh y (D p)).2 = true) (h3 : goesOn y = true → R (p + g) ∧ D (p + g) = (stackedS sh y (D p)).1)
    (h4 : ∀ j : Nat, Jmps y j → p + g ≤ j ∧ R j ∧ D j = (stackedS sh y (D p)).1) : ∃ D' R', Ty ng sh ar (putS l (p : Int) (g : Int) [y]) D' R' := by
  have n0 : ∀ k : Nat, k < [y].length → k = 0 ∧ nth [y] (k : Int) = y := fun k hk => by
    simp at hk; subst hk; exact ⟨rfl, rfl⟩
  refine ty_put hG T p g [y] hp hg (by simp; omega) hin (fun k => if k = 0 then D p else D (p + g)) (fun _ => rfl) (fun _ hg => ?_) (fun _ k hk => ?_) (fun _ k hk => ?_) (fun _ k hk => ?_) (fun _ k hk => ?_) (fun _ k hk => ?_) (fun hn => absurd hr hn)
  · rcases hg with h | h
    · cases h
    · exact ⟨(h3 h).1, rfl⟩
  · obtain ⟨rfl, e⟩ := n0 k hk
    exact T.rng p (by omega) hr
  · obtain ⟨rfl, e⟩ := n0 k hk
    rw [e]; exact h1
  · obtain ⟨rfl, e⟩ := n0 k hk
    rw [e]; exact h2
  · obtain ⟨rfl, e⟩ := n0 k hk
    intro hgo
    rw [e] at hgo ⊢
    exact (h3 hgo).2
  · obtain ⟨rfl, e⟩ := n0 k hk
    intro j hj
    rw [e] at hj ⊢
    exact h4 j hj

theorem ty_alone {l' : List Instr} (hG : Sane l) (T : Ty ng sh ar l D R) (p : Nat) (hp : p < l.length) (hr : R p) (h : aloneS l p = some l') : ∃ D' R', Ty ng sh ar l' D' R' := by
  have hin : ∀ i : Nat, i < l.length → R i → ∀ j : Nat, Jmps (nth l i) j → ¬ (p < j ∧ j < p + 1) := fun i _ _ j _ => by omega
  have rng := T.rng p hp hr
  have stat := T.stat p hp hr
  have st := T.st p hp hr
  have on := T.on p hp hr
  have jm := T.jm p hp hr
  have del : R (p + 1) ∧ D p = D (p + 1) → ∃ D' R', Ty ng sh ar (putS l (p : Int) 1 []) D' R' := fun h => ty_del hG T p 1 (by omega) (by omega) hin fun _ => h
  have rep := ty_one hG T p 1 (by omega) (by omega) hin hr
  simp only [Int.natCast_one] at rep
  have fj := hG.fit.jmps hp (t := (nth l p).a)
  have ft := hG.fit.jmps hp (t := (nth l p).b)
  unfold aloneS at h
  simp only at h
  generalize hx : nth l (p : Int) = x at *
  by_cases c1 : x.op = 4 ∨ x.op = 5 ∨ x.op = 8
  · rw [if_pos c1] at h
    by_cases c2 : x.a = 0
    · rw [if_pos c2] at h
      simp only [Option.some.injEq] at h
      subst h
      have ho := on ((goesOn_iff _).2 (by omega))
      refine del ⟨ho.1, ?_⟩
      rw [ho.2]
      rcases c1 with c | c | c <;> simp [stackedS, c, c2]
    · rw [if_neg c2] at h; cases h
  rw [if_neg c1] at h
  by_cases c2 : x.op = 13
  · rw [if_pos c2] at h
    have jx : Jmps x x.a := .inl ⟨c2, rfl⟩
    have b := fj jx
    have ea : x.a = ((x.a.toNat : Nat) : Int) := by omega
    have j0 := jm x.a.toNat (by rw [← ea]; exact jx)
    have s0 : (stackedS sh x (D p)).1 = D p := by simp [stackedS, c2]
    rw [s0] at j0
    by_cases c3 : x.a = (p : Int) + 1
    · rw [if_pos c3] at h
      simp only [Option.some.injEq] at h
      subst h
      rw [show x.a.toNat = p + 1 by omega] at j0
      exact del ⟨j0.1, j0.2.symm⟩
    · rw [if_neg c3, ea] at h
      have q1 := T.stat x.a.toNat (by omega) j0.1
      have q2 := T.st x.a.toNat (by omega) j0.1
      have q4 := T.jm x.a.toNat (by omega) j0.1
      have q5 : ∀ t, Jmps (nth l ((x.a.toNat : Nat) : Int)) t → _ := fun t ht => hG.fit.jmps (i := x.a.toNat) (by omega) ht
      rw [j0.2] at q2 q4
      generalize nth l ((x.a.toNat : Nat) : Int) = y at h q1 q2 q4 q5
      by_cases c4 : y.op = 13 ∨ y.op = 16 ∨ y.op = 17
      · rw [if_pos c4] at h
        simp only [Option.some.injEq] at h
        subst h
        refine rep y q1 q2 (fun hg => ?_) fun j hj => ⟨by have := q5 _ hj; omega, q4 j hj⟩
        have := (goesOn_iff _).1 hg
        omega
      · rw [if_neg c4] at h; cases h
  · rw [if_neg c2] at h
    by_cases c3 : x.op = 14 ∨ x.op = 15
    · rw [if_pos c3] at h
      have jx : Jmps x x.b := .inr ⟨c3, rfl⟩
      have b := ft jx
      have eb : x.b = ((x.b.toNat : Nat) : Int) := by omega
      have j0 := jm x.b.toNat (by rw [← eb]; exact jx)
      have s0 : (stackedS sh x (D p)).1 = D p := by rcases c3 with c | c <;> simp [stackedS, c]
      rw [s0] at j0
      have ho := on ((goesOn_iff _).2 (by omega))
      rw [eb] at h
      have q2 := T.st x.b.toNat (by omega) j0.1
      have q4 := T.jm x.b.toNat (by omega) j0.1
      have q5 : ∀ t, Jmps (nth l ((x.b.toNat : Nat) : Int)) t → _ := fun t ht => hG.fit.jmps (i := x.b.toNat) (by omega) ht
      rw [j0.2] at q2 q4
      generalize nth l ((x.b.toNat : Nat) : Int) = y at h q2 q4 q5
      by_cases c4 : y.op = 13
      · rw [if_pos c4] at h
        simp only [Option.some.injEq] at h
        subst h
        have jy : Jmps y y.a := .inl ⟨c4, rfl⟩
        have by_ := q5 _ jy
        have ey : y.a = ((y.a.toNat : Nat) : Int) := by omega
        have j1 := q4 y.a.toNat (by rw [← ey]; exact jy)
        have s1 : (stackedS sh y (D p)).1 = D p := by simp [stackedS, c4]
        rw [s1] at j1
        have s2 : stackedS sh ⟨x.op, x.a, y.a⟩ (D p) = stackedS sh x (D p) := rfl
        refine rep ⟨x.op, x.a, y.a⟩ ?_ (by rw [s2]; exact st) (fun _ => by rw [s2]; exact ho) fun j hj => ?_
        · have e : clearT ⟨x.op, x.a, y.a⟩ = clearT x := by simp [clearT, c2, c3]
          unfold Stat at stat ⊢
          rw [e]; exact stat
        · rw [s2, s0]
          have : y.a = (j : Int) := by
            rcases hj with ⟨h1, _⟩ | ⟨_, h2⟩
            · exact absurd h1 c2
            · exact h2
          rw [show y.a.toNat = j by omega] at j1
          exact ⟨by omega, j1⟩
      · rw [if_neg c4] at h; cases h
    · rw [if_neg c3] at h; cases h

theorem wrap_id {n : Int} (h : -9223372036854775808 ≤ n ∧ n ≤ 9223372036854775807) : IntKind.i64.wrap n = n := wrap64 h.1 h.2

theorem stat_cnt {x : Instr} (h : Stat ng sh.length x) (ho : x.op = 1 ∨ x.op = 4 ∨ x.op = 5 ∨ x.op = 8) : 0 ≤ x.a ∧ x.b = 0 := by
  obtain ⟨op, a, b⟩ := x
  unfold Stat at h
  rw [nums_split] at h
  simp only at ho
  rcases ho with rfl | rfl | rfl | rfl <;> simp [formS, formT, nth, numberS, clearT] at h <;> exact h
theorem stat_pop {a : Int} (ha : 0 ≤ a) : Stat ng sh.length ⟨4, a, 0⟩ := by
  unfold Stat; rw [nums_split]; simp [formS, formT, nth, numberS, clearT]; exact ha
theorem stat_slide {a : Int} (ha : 0 ≤ a) : Stat ng sh.length ⟨5, a, 0⟩ := by
  unfold Stat; rw [nums_split]; simp [formS, formT, nth, numberS, clearT]; exact ha
theorem stat_jump {a : Int} : Stat ng sh.length ⟨13, a, 0⟩ := by
  unfold Stat; rw [nums_split]; simp [formS, formT, nth, numberS, clearT]

theorem ty_both {l' : List Instr} (hG : Sane l) (T : Ty ng sh ar l D R) (p : Nat) (hp : p + 1 < l.length) (hr : R p) (hJ : ∀ i : Nat, i < l.length → ¬ Jmps (nth l i) ((p : Int) + 1)) (h : bothS l p = some l') : ∃ D' R', Ty ng sh ar l' D' R' := by
  have hin : ∀ i : Nat, i < l.length → R i → ∀ j : Nat, Jmps (nth l i) j → ¬ (p < j ∧ j < p + 2) := fun i hi _ j hj hc => by
    have e : (j : Int) = (p : Int) + 1 := by omega
    rw [e] at hj
    exact hJ i hi hj
  have rx := T.rng p (by omega) hr
  have tx := T.stat p (by omega) hr
  have sx := T.st p (by omega) hr
  have ox := T.on p (by omega) hr
  have del : R (p + 2) ∧ D p = D (p + 2) → ∃ D' R', Ty ng sh ar (putS l (p : Int) 2 []) D' R' := fun h => ty_del hG T p 2 (by omega) (by omega) hin fun _ => h
  have rep := ty_one hG T p 2 (by omega) (by omega) hin hr
  have e1 : ((p + 1 : Nat) : Int) = (p : Int) + 1 := by omega
  have ry := T.rng (p + 1) hp
  have ty := T.stat (p + 1) hp
  have sy := T.st (p + 1) hp
  have oy : R (p + 1) → goesOn (nth l ((p + 1 : Nat) : Int)) = true → R (p + 2) ∧ D (p + 2) = (stackedS sh (nth l ((p + 1 : Nat) : Int)) (D (p + 1))).1 := T.on (p + 1) hp
  have jy := T.jm (p + 1) hp
  have fy := fun t ht => hG.fit.jmps (i := p + 1) (t := t) hp ht
  rw [e1] at ty sy oy jy fy
  unfold bothS at h
  simp only at h
  generalize hx : nth l (p : Int) = x at *
  generalize hy : nth l ((p : Int) + 1) = y at *
  clear hJ
  -- what stands behind an instruction that goes on
  have gx : goesOn x = true → _ := fun hg => (ox hg : R (p + 1) ∧ D (p + 1) = (stackedS sh x (D p)).1)
  by_cases k1 : x.op = y.op ∧ (x.op = 4 ∨ x.op = 5)
  · rw [if_pos k1] at h
    simp only [Option.some.injEq] at h
    subst h
    obtain ⟨kk, k1⟩ := k1
    obtain ⟨r1, d1⟩ := gx ((goesOn_iff _).2 (by omega))
    obtain ⟨r2, d2⟩ := oy r1 ((goesOn_iff _).2 (by omega))
    have sy := sy r1
    have ry := ry r1
    have a1 := (stat_cnt tx (by omega)).1
    have a2 := (stat_cnt (ty r1) (by omega)).1
    rcases k1 with c | c
    · rw [c] at kk
      simp only [stackedS, c, ← kk] at sx d1 sy d2
      simp at sx d1 sy d2
      rw [wrap_id (by omega), c]
      refine rep ⟨4, x.a + y.a, 0⟩ (stat_pop (by omega)) ?_ (fun _ => ⟨r2, ?_⟩) fun j hj => ?_
      · simp [stackedS]; omega
      · simp [stackedS]; omega
      · rcases hj with ⟨h1, _⟩ | ⟨h1, _⟩ <;> simp at h1
    · rw [c] at kk
      simp only [stackedS, c, ← kk] at sx d1 sy d2
      simp at sx d1 sy d2
      rw [wrap_id (by omega), c]
      refine rep ⟨5, x.a + y.a, 0⟩ (stat_slide (by omega)) ?_ (fun _ => ⟨r2, ?_⟩) fun j hj => ?_
      · simp [stackedS]; omega
      · simp [stackedS]; omega
      · rcases hj with ⟨h1, _⟩ | ⟨h1, _⟩ <;> simp at h1
  rw [if_neg k1] at h
  by_cases k2 : x.op = 5 ∧ y.op = 4 ∧ 0 < y.a
  · rw [if_pos k2] at h
    simp only [Option.some.injEq] at h
    subst h
    obtain ⟨c, kk, ya⟩ := k2
    obtain ⟨r1, d1⟩ := gx ((goesOn_iff _).2 (by omega))
    obtain ⟨r2, d2⟩ := oy r1 ((goesOn_iff _).2 (by omega))
    have sy := sy r1
    have ry := ry r1
    have a1 := (stat_cnt tx (by omega)).1
    simp only [stackedS, c, kk] at sx d1 sy d2
    simp at sx d1 sy d2
    rw [wrap_id (by omega)]
    refine rep ⟨4, x.a + y.a, 0⟩ (stat_pop (by omega)) ?_ (fun _ => ⟨r2, ?_⟩) fun j hj => ?_
    · simp [stackedS]; omega
    · simp [stackedS]; omega
    · rcases hj with ⟨h1, _⟩ | ⟨h1, _⟩ <;> simp at h1
  rw [if_neg k2] at h
  by_cases k3 : (x.op = 1 ∨ x.op = 2) ∧ y.op = 4 ∧ 0 < y.a
  · rw [if_pos k3] at h
    simp only [Option.some.injEq] at h
    subst h
    obtain ⟨c, kk, ya⟩ := k3
    obtain ⟨r1, d1⟩ := gx ((goesOn_iff _).2 (by omega))
    obtain ⟨r2, d2⟩ := oy r1 ((goesOn_iff _).2 (by omega))
    have sy := sy r1
    have ry := ry r1
    have d1 : D (p + 1) = D p + 1 := by rcases c with c | c <;> simpa [stackedS, c] using d1
    simp only [stackedS, kk] at sy d2
    simp at sy d2
    rw [wrap_id (by omega)]
    refine rep ⟨4, y.a - 1, 0⟩ (stat_pop (by omega)) ?_ (fun _ => ⟨r2, ?_⟩) fun j hj => ?_
    · simp [stackedS]; omega
    · simp [stackedS]; omega
    · rcases hj with ⟨h1, _⟩ | ⟨h1, _⟩ <;> simp at h1
  rw [if_neg k3] at h
  by_cases k4 : x.op = 1 ∧ x.a = 0 ∧ y.op = 5 ∧ y.a = 1
  · rw [if_pos k4] at h
    simp only [Option.some.injEq] at h
    subst h
    obtain ⟨c, _, kk, ya⟩ := k4
    obtain ⟨r1, d1⟩ := gx ((goesOn_iff _).2 (by omega))
    obtain ⟨r2, d2⟩ := oy r1 ((goesOn_iff _).2 (by omega))
    have d1 : D (p + 1) = D p + 1 := by simpa [stackedS, c] using d1
    simp only [stackedS, kk] at d2
    simp at d2
    exact del ⟨r2, by omega⟩
  rw [if_neg k4] at h
  by_cases k5 : y.op = 11 ∧ (x.op = 11 ∨ x.op = 3 ∨ x.op = 9 ∨ x.op = 12)
  · rw [if_pos k5] at h
    simp only [Option.some.injEq] at h
    subst h
    obtain ⟨kk, c⟩ := k5
    obtain ⟨r1, d1⟩ := gx ((goesOn_iff _).2 (by omega))
    obtain ⟨r2, d2⟩ := oy r1 ((goesOn_iff _).2 (by omega))
    have e : (stackedS sh y (D (p + 1))).1 = D (p + 1) := by simp [stackedS, kk]
    rw [e, d1] at d2
    refine rep x tx sx (fun _ => ⟨r2, d2⟩) fun j hj => ?_
    rcases hj with ⟨h1, _⟩ | ⟨h1, _⟩ <;> omega
  rw [if_neg k5] at h
  by_cases k6 : (x.op = 3 ∧ y.op = 15) ∨ (x.op = 9 ∧ y.op = 14)
  · rw [if_pos k6] at h
    obtain ⟨r1, d1⟩ := gx ((goesOn_iff _).2 (by omega))
    obtain ⟨r2, d2⟩ := oy r1 ((goesOn_iff _).2 (by omega))
    have e : (stackedS sh y (D (p + 1))).1 = D (p + 1) := by rcases k6 with ⟨_, k⟩ | ⟨_, k⟩ <;> simp [stackedS, k]
    have ry := ry r1
    have jb : Jmps y y.b := .inr ⟨by omega, rfl⟩
    have fb := fy _ jb
    have eb : y.b = ((y.b.toNat : Nat) : Int) := by omega
    have j0 := jy r1 y.b.toNat (by rw [← eb]; exact jb)
    rw [e] at d2 j0
    by_cases k7 : x.a = y.a
    · rw [if_pos k7] at h
      simp only [Option.some.injEq] at h
      subst h
      rw [d1] at d2
      refine rep x tx sx (fun _ => ⟨r2, d2⟩) fun j hj => ?_
      rcases hj with ⟨h1, _⟩ | ⟨h1, _⟩ <;> omega
    · rw [if_neg k7] at h
      simp only [Option.some.injEq] at h
      subst h
      have sj : stackedS sh ⟨13, y.b, 0⟩ (D (p + 1)) = (D (p + 1), true) := by simp [stackedS]; omega
      have n0 : nth [x, (⟨13, y.b, 0⟩ : Instr)] ((0 : Nat) : Int) = x := rfl
      have n1 : nth [x, (⟨13, y.b, 0⟩ : Instr)] ((1 : Nat) : Int) = ⟨13, y.b, 0⟩ := rfl
      have two : ∀ k : Nat, k < [x, (⟨13, y.b, 0⟩ : Instr)].length → k = 0 ∨ k = 1 := fun k hk => by simp at hk; omega
      refine ty_put hG T p 2 [x, ⟨13, y.b, 0⟩] (by omega) (by omega) (by simp) hin (fun k => D (p + k)) (fun _ => rfl) (fun _ hg => ?_) (fun _ k hk => ?_) (fun _ k hk => ?_) (fun _ k hk => ?_) (fun _ k hk => ?_) (fun _ k hk => ?_) (fun hn => absurd hr hn)
      · rcases hg with h | h
        · cases h
        · have : goesOn (⟨13, y.b, 0⟩ : Instr) = true := h
          simp [goesOn] at this
      · rcases two k hk with rfl | rfl
        · exact rx
        · exact ry
      · rcases two k hk with rfl | rfl
        · rw [n0]; exact tx
        · rw [n1]; exact stat_jump
      · rcases two k hk with rfl | rfl
        · rw [n0]; exact sx
        · rw [n1, sj]
      · rcases two k hk with rfl | rfl
        · rw [n0]; exact fun _ => d1
        · rw [n1]; intro hg; simp [goesOn] at hg
      · rcases two k hk with rfl | rfl
        · rw [n0]; intro j hj
          rcases hj with ⟨h1, _⟩ | ⟨h1, _⟩ <;> omega
        · rw [n1, sj]; intro j hj
          rcases hj with ⟨_, h1⟩ | ⟨h1, _⟩
          · simp only at h1
            rw [show y.b.toNat = j by omega] at j0
            exact ⟨by omega, j0⟩
          · simp at h1
  · rw [if_neg k6] at h; cases h
end

theorem ty_scan {ng ar : Int} {sh : List Shape} {l l' : List Instr} {D : Nat → Int} (hG : Sane l) (T : Ty ng sh ar l D fun i => nth (lookS l).2 (i : Int) = true) : ∀ (k p : Nat), p + k = l.length → scanS l (lookS l).1 (lookS l).2 k p = some l' → ∃ D' R', Ty ng sh ar l' D' R' := by
  intro k
  induction k with
  | zero => intro p _ h; cases h
  | succ k ih =>
    intro p hp h
    simp only [scanS] at h
    by_cases c1 : nth (lookS l).2 (p : Int) = false
    · rw [if_pos c1] at h
      simp only [Option.some.injEq] at h
      subst h
      exact ty_del hG T p 1 (by omega) (by omega) (fun i _ _ j _ => by omega) fun hr => absurd hr (by rw [c1]; decide)
    · rw [if_neg c1] at h
      have hr : nth (lookS l).2 (p : Int) = true := by simpa using c1
      cases ha : aloneS l p with
      | some r =>
        rw [ha] at h
        simp only [Option.some.injEq] at h
        subst h
        exact ty_alone hG T p (by omega) hr ha
      | none =>
        rw [ha] at h
        simp only at h
        by_cases c3 : (p : Int) + 1 = l.length ∨ nth (lookS l).1 ((p : Int) + 1) = true
        · rw [if_pos c3] at h
          exact ih (p + 1) (by omega) h
        · rw [if_neg c3] at h
          cases hb : bothS l p with
          | some r =>
            rw [hb] at h
            simp only [Option.some.injEq] at h
            subst h
            refine ty_both hG T p (by omega) hr (fun i hi hj => c3 (.inr ?_)) hb
            have e1 : ((p : Int) + 1) = ((p + 1 : Nat) : Int) := by omega
            rw [e1] at hj ⊢
            exact look_jumped hG.fit hi hj
          | none =>
            rw [hb] at h
            exact ih (p + 1) (by omega) h

theorem scan_none {l : List Instr} {J R : List Bool} : ∀ (k p : Nat), scanS l J R k p = none → ∀ q : Nat, p ≤ q → q < p + k → nth R (q : Int) = true := by
  intro k
  induction k with
  | zero => intro p _ q h1 h2; omega
  | succ k ih =>
    intro p h q h1 h2
    simp only [scanS] at h
    by_cases c1 : nth R (p : Int) = false
    · rw [if_pos c1] at h; cases h
    · rw [if_neg c1] at h
      by_cases hq : q = p
      · rw [hq]; simpa using c1
      · have hk : scanS l J R k (p + 1) = none := by
          cases ha : aloneS l p with
          | some r => rw [ha] at h; cases h
          | none =>
            rw [ha] at h
            simp only at h
            split at h
            · exact h
            · cases hb : bothS l p with
              | some r => rw [hb] at h; cases h
              | none => rw [hb] at h; exact h
        exact ih (p + 1) hk q (by omega) (by omega)

theorem run_ty {ng ar : Int} {sh : List Shape} : ∀ (n : Nat) (l r : List Instr) (D : Nat → Int) (R : Nat → Prop), Sane l → Ty ng sh ar l D R → runS n l = some r →
    Sane r ∧ r.length ≤ l.length ∧ stepS r = none ∧ ∃ D' R', Ty ng sh ar r D' R' := by
  intro n
  induction n with
  | zero => intro l r D R _ _ h; cases h
  | succ n ih =>
    intro l r D R hG T h
    simp only [runS] at h
    cases hs : stepS l with
    | none =>
      rw [hs] at h
      simp only [Option.some.injEq] at h
      subst h
      exact ⟨hG, Nat.le_refl _, hs, D, R, T⟩
    | some l' =>
      rw [hs] at h
      obtain ⟨D', R', T'⟩ := ty_scan hG (ty_met hG T) _ 0 (by omega) hs
      obtain ⟨g', le'⟩ := step_ok hG hs
      obtain ⟨h1, h2, h3⟩ := ih l' r D' R' g' T' h
      refine ⟨h1, ?_, h3⟩
      rcases le' with h | ⟨h, _⟩ <;> omega

theorem better_ok {ng : Nat} {sh : List Shape} (hs : ShOk sh) {g : Glob} (hl : g.code.length ≤ 8000) (har : 0 ≤ g.arity ∧ g.arity ≤ 24) (h : checkCodeS ng sh g = 0) :
    Sane (betterS g.code) ∧ (betterS g.code).length ≤ g.code.length ∧ stepS (betterS g.code) = none ∧ checkCodeS ng sh ⟨g.name, g.arity, betterS g.code⟩ = 0 := by
  have hG := check_sane hl h
  obtain ⟨D, T⟩ := check_ty hs har h
  obtain ⟨n, hn⟩ := betterS_run hG
  obtain ⟨h1, h2, h3, D', R', T'⟩ := run_ty n _ _ _ _ hG T hn
  exact ⟨h1, h2, h3, ty_check h1 T' fun q hq => scan_none _ 0 h3 q (by omega) (by omega)⟩

theorem better_stays {l : List Instr} (h : stepS l = none) : betterS l = l := by
  have key : ∀ n r, runS n l = some r → r = l := by
    intro n r hr
    cases n with
    | zero => cases hr
    | succ n => simp only [runS, h, Option.some.injEq] at hr; exact hr.symm
  unfold betterS
  split
  · rename_i hx
    obtain ⟨n, hn⟩ := hx.choose_spec
    exact key n _ hn
  · rfl

end Go.Vm
end

section
namespace Go.Vm

noncomputable def doneT (t : Table) : Table := ⟨t.shapes, t.globals.map (doneG betterS)⟩

theorem fine_sh {t : Table} (h : Fine t) : ShOk t.shapes := by
  intro s hs
  have := namesOk_mem _ _ _ h.names (s.name, s.fields) (List.mem_map.2 ⟨s, hs, rfl⟩)
  exact this.2
theorem fine_ar {t : Table} (h : Fine t) {g : Glob} (hg : g ∈ t.globals) : 0 ≤ g.arity ∧ g.arity ≤ 24 := by
  have := namesOk_mem _ _ _ h.gnames (g.name, g.arity) (List.mem_map.2 ⟨g, hg, rfl⟩)
  exact this.2
theorem fine_ok {t : Table} (h : Fine t) {g : Glob} (hg : g ∈ t.globals) : Sane (betterS g.code) ∧ (betterS g.code).length ≤ g.code.length ∧ stepS (betterS g.code) = none ∧ checkCodeS t.globals.length t.shapes ⟨g.name, g.arity, betterS g.code⟩ = 0 :=
  better_ok (fine_sh h) ((greatS_f h.great).2.2 g hg) (fine_ar h hg) (h.codes g hg)

theorem greatL_less {f : Glob → Glob} : ∀ (l : List Glob) (n n' m : Int), (∀ g ∈ l, (f g).code.length ≤ g.code.length) → n' ≤ n → greatL l n = some m → ∃ m', greatL (l.map f) n' = some m' ∧ m' ≤ m := by
  intro l
  induction l with
  | nil => intro n n' m _ h h2; simp only [greatL, Option.some.injEq] at h2; subst h2; exact ⟨n', rfl, h⟩
  | cons g l ih =>
    intro n n' m hf h h2
    have hg := hf g (by simp)
    simp only [greatL, List.map_cons] at h2 ⊢
    split at h2
    · cases h2
    · rename_i hc
      rw [if_neg (by omega)]
      exact ih _ _ _ (fun g hg => hf g (by simp [hg])) (by omega) h2

theorem fine_done {t : Table} (h : Fine t) : Fine (doneT t) := by
  refine ⟨?_, h.names, h.heads, ?_, ?_⟩
  · have hg := h.great
    unfold greatS at hg ⊢
    cases hm : greatL t.globals 0 with
    | none => rw [hm] at hg; cases hg
    | some m =>
      rw [hm] at hg
      obtain ⟨m', e, hle⟩ := greatL_less (f := doneG betterS) t.globals 0 0 m (fun g hg => (fine_ok h hg).2.1) (by omega) hm
      simp only [doneT] at *
      rw [e]
      simp only [List.length_map, Bool.or_eq_false_iff, decide_eq_false_iff_not] at hg ⊢
      exact ⟨⟨decide_eq_false hg.1.1, hg.1.2⟩, by omega⟩
  · have := h.gnames
    simp only [doneT, List.map_map]
    exact this
  · intro g hg
    simp only [doneT, List.length_map] at hg ⊢
    obtain ⟨g0, h1, rfl⟩ := List.mem_map.1 hg
    exact (fine_ok h h1).2.2.2

theorem done_done {t : Table} (h : Fine t) : (doneT t).globals.map (doneG betterS) = (doneT t).globals := by
  simp only [doneT, List.map_map]
  refine List.map_congr_left fun g hg => ?_
  simp only [Function.comp, doneG]
  rw [better_stays (fine_ok h hg).2.2.1]

theorem nums_small {ng ns nc i d : Int} {sh : List Shape} {x : Instr} (h : numsS ng ns nc i x = 0) (hg : ng ≤ 100000) (hs : ns ≤ 100000) (hc : nc ≤ 100000) (hd : d ≤ 8000) (hst : (stackedS sh x d).2 = true) : x.a ≤ 9223372036854775807 := by
  rw [nums_split] at h
  obtain ⟨op, a, b⟩ := x
  obtain ⟨h0, h1, h2⟩ := h
  simp only at h0
  have : op = 1 ∨ op = 2 ∨ op = 3 ∨ op = 4 ∨ op = 5 ∨ op = 6 ∨ op = 7 ∨ op = 8 ∨ op = 9 ∨ op = 10 ∨ op = 11 ∨ op = 12 ∨ op = 13 ∨ op = 14 ∨ op = 15 ∨ op = 16 ∨ op = 17 := by omega
  rcases this with rfl | rfl | rfl | rfl | rfl | rfl | rfl | rfl | rfl | rfl | rfl | rfl | rfl | rfl | rfl | rfl | rfl <;>
    simp [formS, formT, nth, numberS] at h1 <;> simp [stackedS] at hst ⊢ <;> omega

theorem check_small {ng : Nat} {sh : List Shape} (hs : ShOk sh) {g : Glob} (hl : g.code.length ≤ 8000) (hng : ng ≤ 100000) (hns : sh.length ≤ 100000) (har : 0 ≤ g.arity ∧ g.arity ≤ 24) (h : checkCodeS ng sh g = 0) : ∀ x ∈ g.code, x.a ≤ 9223372036854775807 := by
  intro x hx
  obtain ⟨D, T⟩ := check_ty hs har h
  obtain ⟨i, hi, rfl⟩ := mem_nth hx
  have hG := check_sane hl h
  exact nums_small ((nums_iff _ _ _ _ _).2 ⟨T.stat i hi hi, fun t ht => hG.fit.jmps hi ht⟩) (by omega) (by omega) (by omega) (T.rng i hi hi).2 (T.st i hi hi)

theorem ok_done {t : Table} (h : Fine t) (ht : TabOk t) : TabOk (doneT t) := by
  have hgr := greatS_f h.great
  refine ⟨ht.sh, by simp only [doneT, List.length_map]; exact ht.gl, fun g hg => ?_, ht.sn, fun g hg => ?_, fun g hg => ?_⟩
  all_goals
    simp only [doneT] at hg
    obtain ⟨g0, h1, rfl⟩ := List.mem_map.1 hg
    have ok := fine_ok h h1
    have := hgr.2.2 g0 h1
  · simp only [doneG]; omega
  · simp only [doneG]; exact ht.gn g0 h1
  · exact check_small (fine_sh h) (g := doneG betterS g0) (by simp only [doneG]; omega) (by omega : t.globals.length ≤ 100000) (by omega) (show 0 ≤ g0.arity ∧ g0.arity ≤ 24 from fine_ar h h1) ok.2.2.2

end Go.Vm
end
