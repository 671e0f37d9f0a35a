/-
  LexReads comes to true, whatever the input (of bulk at most 1048576); the input reads as it did.
  Conditions: the listed package-level tables read as the program's text lays them, and errors.errorType holds error's handle (tied by the card).
-/
import Derived.Test.YtmmbgofnllcaeaaGreatDoorLexReadsD
import Derived.Lib.LaidTab
import Derived.Below
import Derived.Test.YtmmbgofnllcaeaaGreatDoorProg
import Derived.WalkKit
import Derived.LaidEql
import Derived.Stop.Asserts
import Derived.RowKitTokens
import Derived.Test.YtmmbgofnllcaeaaGreatDoorChecked
import Derived.Handy
import Derived.Shelf.Strings.BuilderK
import Derived.Laws.Append
import Derived.Laws.AppendOwn
import Derived.Laws.OwnMore
import Derived.Deep.AppendLies
import Derived.Deep.Onto
import Derived.OwnWalk
import Derived.Deep.LoopGhost
import Derived.Deep.Light
import Derived.Deep.RegionHeld3
import Derived.Test.YtmmbgofnllcaeaaGreatDoorRows
import Derived.ProofKit
import Derived.OpenShut
import Derived.Deep.DeepHandedRow
import Derived.Lib.LaidIn
import Derived.ChangeMaps5
import Derived.LaidHandle
import Derived.Test.YtmmbgofnllcaeaaGreatDoorCards
import Derived.Test.YtmmbgofnllcaeaaGreatDoorTie
set_option linter.unusedVariables false
set_option linter.unusedSimpArgs false

section
namespace Go.Vm
set_option maxRecDepth 20000
/- 'sloth/slothref01.char' -/
def f534 : Fun := ⟨
 (.seq
  (.reg [⟨[(4, .box (.agg (.cons (.int .i64 0) (.cons (.str []) (.cons (.int .i64 0) (.cons (.int .i64 0) (.cons (.int .i64 0) (.cons (.int .i64 0) .nil))))))))], [], [], none, [0, 1, 4], 1, [], [], []⟩])
  (.seq
   (.reg [⟨[], [(5, (.ext 0 (.call 58 (.cons (.sl 0) (.cons (.bin .add (.sl 1) (.int .i64 1)) (.cons (.int .u8 39) .nil)))))), (6, (.ext 1 (.call 58 (.cons (.sl 0) (.cons (.bin .add (.sl 1) (.int .i64 1)) (.cons (.int .u8 39) .nil))))))], [], none, [0, 1, 4], 9, [], [], []⟩])
   (.seq
    (.seq
     (.reg [⟨[], [(27, (.or (.or (.bin .lss (.sl 5) (.int .i64 0)) (.bin .geq (.sl 6) (.len true (.sl 0)))) (.bin .neq (.ix (.sl 0) (.sl 6)) (.int .u8 39))))], [], none, [1, 4, 5, 6], 14, [], [], []⟩])
     (.cond (.sl 27)
      (.seq
       (.reg [⟨[], [], [], some (none, .store 6 (.sl 4) (.call 52 (.cons (.int .i64 12) .nil))), [4], 2, [], [], []⟩])
       (.seq
        (.tidy 0 [4])
        .ret))
      .skip))
    (.seq
     (.reg [⟨[], [], [], some (none, .store 6 (.sl 4) (.set 4 1 (.bin .add (.sl 6) (.int .i64 1)) (.set 0 4 (.set 3 1 (.sl 1) (.set 2 1 (.sl 5) (.set 0 1 (.int .i64 7) (.agg (.cons (.int .i64 0) (.cons (.str []) (.cons (.int .i64 0) (.cons (.int .i64 0) .nil)))))))) (.agg (.cons (.int .i64 0) (.cons (.str []) (.cons (.int .i64 0) (.cons (.int .i64 0) (.cons (.int .i64 0) (.cons (.int .i64 0) .nil)))))))))), [4], 7, [], [], []⟩])
     (.seq
      (.tidy 0 [4])
      .ret))))),
 [(.ld 6 true (.sl 4))], false⟩
theorem f534_ok : funOk Go.Proofs.Tryz.prog 34 0 2 f534 = true := by kernel_rfl

/- 'sloth/slothref01.quoted' -/
def f558 : Fun := ⟨
 (.seq
  (.reg [⟨[], [], [(.int .i64 0)], none, [0, 1, 2], 2, [], [], []⟩])
  (.seq
   (.seq
    (.reg [⟨[], [(30, (.or (.or (.or (.bin .geq (.sl 1) (.len true (.sl 0))) (.bin .eql (.ix (.sl 0) (.sl 1)) (.sl 2))) (.bin .lss (.ix (.sl 0) (.sl 1)) (.int .u8 32))) (.bin .gtr (.ix (.sl 0) (.sl 1)) (.int .u8 126))))], [], none, [0, 1], 23, [], [], []⟩])
    (.cond (.sl 30)
     (.seq
      (.reg [⟨[], [(6, (.int .i64 (-1))), (7, (.int .i64 0))], [], none, [], 2, [], [], []⟩])
      (.seq
       (.tidy 0 [6, 7])
       .ret))
     .skip))
   (.seq
    (.seq
     (.reg [⟨[], [(34, (.bin .eql (.ix (.sl 0) (.sl 1)) (.int .u8 92)))], [], none, [0, 1], 4, [], [], []⟩])
     (.cond (.sl 34)
      (.seq
       (.reg [⟨[], [(6, (.ext 0 (.call 78 (.cons (.sl 0) (.cons (.sl 1) .nil))))), (7, (.ext 1 (.call 78 (.cons (.sl 0) (.cons (.sl 1) .nil)))))], [], none, [], 7, [], [], []⟩])
       (.seq
        (.tidy 0 [6, 7])
        .ret))
      .skip))
    (.seq
     (.reg [⟨[], [(6, (.conv .i64 (.ix (.sl 0) (.sl 1)))), (7, (.bin .add (.sl 1) (.int .i64 1)))], [], none, [], 8, [], [], []⟩])
     (.seq
      (.tidy 0 [6, 7])
      .ret))))),
 [(.sl 6), (.sl 7)], false⟩
theorem f558_ok : funOk Go.Proofs.Tryz.prog 58 0 3 f558 = true := by kernel_rfl

/- 'sloth/slothref01.escape' -/
def f578_L0 : C :=
 (.seq
  (.seq
   (.reg [⟨[], [(47, (.bin .lss (.sl 7) (.bin .add (.sl 1) (.int .i64 4))))], [], none, [0, 1, 6, 7], 4, [], [], []⟩])
   (.cond (.sl 47)
    .skip
    (.seq
     (.tidy 0 [1, 6])
     (.exit 1))))
  (.seq
   (.block 2
    (.seq
     (.reg [⟨[], [(8, (.call 27 (.cons (.ix (.sl 0) (.sl 7)) .nil)))], [], none, [0, 1, 6, 7], 5, [], [], []⟩])
     (.seq
      (.seq
       (.reg [⟨[], [(55, (.un .not (.sl 8)))], [], none, [0, 1, 6, 7], 2, [], [], []⟩])
       (.cond (.sl 55)
        (.seq
         (.reg [⟨[], [(4, (.int .i64 (-1))), (5, (.int .i64 0))], [], none, [], 2, [], [], []⟩])
         (.seq
          (.tidy 0 [4, 5])
          .ret))
        .skip))
      (.reg [⟨[], [(6, (.bin .add (.bin .mul (.int .i64 10) (.sl 6)) (.conv .i64 (.bin .sub (.ix (.sl 0) (.sl 7)) (.int .u8 48)))))], [], none, [0, 1, 7], 9, [], [], []⟩]))))
   (.reg [⟨[], [(7, (.bin .add (.sl 7) (.int .i64 1)))], [], none, [0, 1, 6], 3, [], [], []⟩])))
def f578 : Fun := ⟨
 (.seq
  (.reg [⟨[], [], [(.int .i64 0)], none, [0, 1], 2, [], [], []⟩])
  (.seq
   (.seq
    (.reg [⟨[], [(13, (.bin .geq (.bin .add (.sl 1) (.int .i64 1)) (.len true (.sl 0))))], [], none, [0, 1], 5, [], [], []⟩])
    (.cond (.sl 13)
     (.seq
      (.reg [⟨[], [(4, (.int .i64 (-1))), (5, (.int .i64 0))], [], none, [], 2, [], [], []⟩])
      (.seq
       (.tidy 0 [4, 5])
       .ret))
     .skip))
   (.seq
    (.seq
     (.reg [⟨[], [(17, (.ix (.sl 0) (.bin .add (.sl 1) (.int .i64 1))))], [], none, [0, 1], 4, [], [], []⟩])
     (.block 0
      (.seq
       (.reg [⟨[], [(18, (.bin .eql (.sl 17) (.int .u8 110)))], [], none, [0, 1, 17], 2, [], [], []⟩])
       (.cond (.sl 18)
        (.seq
         (.reg [⟨[], [(4, (.int .i64 10)), (5, (.bin .add (.sl 1) (.int .i64 2)))], [], none, [], 4, [], [], []⟩])
         (.seq
          (.tidy 0 [4, 5])
          .ret))
        (.seq
         (.reg [⟨[], [(22, (.bin .eql (.sl 17) (.int .u8 116)))], [], none, [0, 1, 17], 2, [], [], []⟩])
         (.cond (.sl 22)
          (.seq
           (.reg [⟨[], [(4, (.int .i64 9)), (5, (.bin .add (.sl 1) (.int .i64 2)))], [], none, [], 4, [], [], []⟩])
           (.seq
            (.tidy 0 [4, 5])
            .ret))
          (.seq
           (.seq
            (.reg [⟨[], [(26, (.bin .eql (.sl 17) (.int .u8 92)))], [], none, [0, 1, 17], 2, [], [], []⟩])
            (.cond (.sl 26)
             .skip
             (.seq
              (.reg [⟨[], [(26, (.bin .eql (.sl 17) (.int .u8 39)))], [], none, [0, 1, 17], 2, [], [], []⟩])
              (.cond (.sl 26)
               .skip
               (.reg [⟨[], [(26, (.bin .eql (.sl 17) (.int .u8 34)))], [], none, [0, 1], 2, [], [], []⟩])))))
           (.cond (.sl 26)
            (.seq
             (.reg [⟨[], [(4, (.conv .i64 (.ix (.sl 0) (.bin .add (.sl 1) (.int .i64 1))))), (5, (.bin .add (.sl 1) (.int .i64 2)))], [], none, [], 9, [], [], []⟩])
             (.seq
              (.tidy 0 [4, 5])
              .ret))
            .skip))))))))
    (.seq
     (.seq
      (.reg [⟨[], [(41, (.bin .geq (.bin .add (.sl 1) (.int .i64 3)) (.len true (.sl 0))))], [], none, [0, 1], 5, [], [], []⟩])
      (.cond (.sl 41)
       (.seq
        (.reg [⟨[], [(4, (.int .i64 (-1))), (5, (.int .i64 0))], [], none, [], 2, [], [], []⟩])
        (.seq
         (.tidy 0 [4, 5])
         .ret))
       .skip))
     (.seq
      (.reg [⟨[], [(6, (.int .i64 0))], [], none, [0, 1], 1, [], [], []⟩])
      (.seq
       (.seq
        (.reg [⟨[], [(7, (.bin .add (.sl 1) (.int .i64 1)))], [], none, [0, 1, 6], 3, [], [], []⟩])
        (.block 1
         (.seq (.tidy 0 [0, 1, 6, 7]) (.loop (.seq (.tidy 0 [0, 1, 6, 7]) f578_L0)))))
       (.seq
        (.seq
         (.reg [⟨[], [(65, (.bin .gtr (.sl 6) (.int .i64 255)))], [], none, [1, 6], 2, [], [], []⟩])
         (.cond (.sl 65)
          (.seq
           (.reg [⟨[], [(4, (.int .i64 (-1))), (5, (.int .i64 0))], [], none, [], 2, [], [], []⟩])
           (.seq
            (.tidy 0 [4, 5])
            .ret))
          .skip))
        (.seq
         (.reg [⟨[], [(4, (.sl 6)), (5, (.bin .add (.sl 1) (.int .i64 4)))], [], none, [], 5, [], [], []⟩])
         (.seq
          (.tidy 0 [4, 5])
          .ret))))))))),
 [(.sl 4), (.sl 5)], false⟩
theorem f578_ok : funOk Go.Proofs.Tryz.prog 78 0 2 f578 = true := by kernel_rfl

def vEsc (i : Nat) : Option (UInt8 × Nat) → V
  | none => .tup [vI (-1), vI 0]
  | some y => .tup [vI y.1.toNat, vI ((i + y.2 : Nat))]
theorem vEsc_none (i : Nat) : vEsc i none = .tup [vI (-1), vI 0] := rfl
theorem vEsc_some (i : Nat) (c : UInt8) (n : Nat) : vEsc i (some (c, n)) = .tup [vI c.toNat, vI ((i + n : Nat))] := rfl
def escA (r : BS) : Option (UInt8 × Nat) :=
  if bAt (r.drop 1) = 110 then some (10, 2)
  else if bAt (r.drop 1) = 116 then some (9, 2)
  else if bAt (r.drop 1) = 92 ∨ bAt (r.drop 1) = 39 ∨ bAt (r.drop 1) = 34 then some (bAt (r.drop 1), 2)
  else escD r
def K578 (K : Cx) : Prop := ∀ (s : BS) (i : Nat), i < s.length → s.length ≤ 2000000 → K.call 78 [vS s, vI i] = some (vEsc i (escA (s.drop i)), [])
def K558 (K : Cx) : Prop := ∀ (s : BS) (i : Nat) (q : UInt8), i ≤ s.length → s.length ≤ 2000000 → q ≠ 92 → q ≠ 0 → K.call 58 [vS s, vI i, vB q] = some (vEsc i (soundS (s.drop i) q), [])
def K534 (K : Cx) : Prop := ∀ (s : BS) (i : Nat), i < s.length → s.length ≤ 2000000 → K.call 34 [vS s, vI i] = some (stR i (charR (s.drop i)), [])

theorem escR_step (K : Cx) (h27 : K95 K) (s : BS) (i j : Nat) (n : Int) (hj : i < j ∧ j < i + 4) (hs : s.length ≤ 2000000) (hi : j < s.length) (hn : 0 ≤ n ∧ n ≤ 1000) :
    lp K 0 [0, 1, 6, 7] f578_L0 ⟨[(0, vS s), (1, vI i), (6, vI n), (7, vI j)], [], 0, []⟩ =
      if cls (s.drop j) = 3 then lp K 0 [0, 1, 6, 7] f578_L0 ⟨[(0, vS s), (1, vI i), (6, vI (10 * n + digv s j)), (7, vI ((j + 1 : Nat) : Int))], [], 0, []⟩
      else some (.ret, ⟨[(4, vI (-1)), (5, vI 0)], [], 0, []⟩) := by
  have h := h27 (bAt (s.drop j))
  rw [clsC rfl (drop_ne hi)] at h
  obtain ⟨j1, j2⟩ := hj
  obtain ⟨n1, n2⟩ := hn
  have hb := nth_bAt hi
  rw [lp_un f578_L0.eq_1]
  by_cases g : cls (s.drop j) = 3
  · rw [if_pos g]
    have hd := dig_of (r := s) (k := j) g
    rw [decide_eq_true g] at h
    have hw : IntKind.u8.wrap (((bAt (s.drop j)).toNat : Int) - 48) = digv s j := by
      unfold digv at hd ⊢
      exact u8wrap (by omega) (by omega)
    generalize digv s j = v at hd hw ⊢
    obtain ⟨d1, d2⟩ := hd
    simp (disch := first | decide | omega | (simp only [LN]; omega) | (simp only [LN]; done) | fail) only [SV, SW, Int.reduceNeg, Nat.reduceBEq, hb, viewD, h, hw, evConv, cast1]
  · rw [if_neg g]
    rw [decide_eq_false g] at h
    simp (disch := first | decide | omega | (simp only [LN]; omega) | (simp only [LN]; done) | fail) only [SV, SW, Int.reduceNeg, Nat.reduceBEq, hb, viewD, h]
theorem escR_end (K : Cx) (s : BS) (i : Nat) (n : Int) (hi : i ≤ 2000000) :
    lp K 0 [0, 1, 6, 7] f578_L0 ⟨[(0, vS s), (1, vI i), (6, vI n), (7, vI ((i + 4 : Nat) : Int))], [], 0, []⟩ =
      some (.exit 1, ⟨[(1, vI i), (6, vI n)], [], 0, []⟩) := by
  rw [lp_un f578_L0.eq_1]
  simp (disch := first | decide | omega | (simp only [LN]; omega) | (simp only [LN]; done) | fail) only [SV, SW, Int.reduceNeg, Nat.reduceBEq]
def escOutR (i : Nat) (r : BS) : Ex × S :=
  if cls (r.drop 1) = 3 ∧ cls (r.drop 2) = 3 ∧ cls (r.drop 3) = 3 then (.exit 1, ⟨[(1, vI i), (6, vI (100 * digv r 1 + 10 * digv r 2 + digv r 3))], [], 0, []⟩)
  else (.ret, ⟨[(4, vI (-1)), (5, vI 0)], [], 0, []⟩)
theorem escR_loop (K : Cx) (h27 : K95 K) (s : BS) (i : Nat) (hs : s.length ≤ 2000000) (hi : i + 3 < s.length) :
    lp K 0 [0, 1, 6, 7] f578_L0 ⟨[(0, vS s), (1, vI i), (6, vI 0), (7, vI ((i + 1 : Nat) : Int))], [], 0, []⟩ = some (escOutR i (s.drop i)) := by
  unfold escOutR
  rw [escR_step K h27 s i (i + 1) 0 (by omega) hs (by omega) (by omega), dd s i 1]
  by_cases g1 : cls ((s.drop i).drop 1) = 3
  · have d1 := dig_of g1
    rw [if_pos g1, digv_dd, escR_step K h27 s i (i + 1 + 1) _ (by omega) hs (by omega) (by omega), show i + 1 + 1 = i + 2 from rfl, dd s i 2]
    by_cases g2 : cls ((s.drop i).drop 2) = 3
    · have d2 := dig_of g2
      rw [if_pos g2, digv_dd, escR_step K h27 s i (i + 2 + 1) _ (by omega) hs (by omega) (by omega), show i + 2 + 1 = i + 3 from rfl, dd s i 3]
      by_cases g3 : cls ((s.drop i).drop 3) = 3
      · rw [if_pos g3, if_pos ⟨g1, g2, g3⟩, digv_dd, show i + 3 + 1 = i + 4 from rfl, escR_end K s i _ (by omega)]
        have e : 10 * (10 * (10 * (0 : Int) + digv (s.drop i) 1) + digv (s.drop i) 2) + digv (s.drop i) 3 = 100 * digv (s.drop i) 1 + 10 * digv (s.drop i) 2 + digv (s.drop i) 3 := by omega
        rw [e]
      · rw [if_neg g3, if_neg (fun h => g3 h.2.2)]
    · rw [if_neg g2, if_neg (fun h => g2 h.2.1)]
  · rw [if_neg g1, if_neg (fun h => g1 h.1)]

set_option maxHeartbeats 1000000 in
theorem ev_escape (K : Cx) (h27 : K95 K) (s : BS) (i : Nat) (hi : i < s.length) (hs : s.length ≤ 2000000) :
    runFun K f578 [vS s, vI i] [] = some (vEsc i (escA (s.drop i)), [], []) := by
  have hlen : (s.drop i).length = s.length - i := List.length_drop ..
  have hl := escR_loop K h27 s i hs
  by_cases l1 : i + 1 < s.length
  · have h1 := nth_bAt l1
    rw [dd] at h1
    unfold escA
    generalize s.drop i = r at h1 hl hlen ⊢
    by_cases g2 : bAt (r.drop 1) = 110
    · rw [if_pos g2, vEsc_some]
      have g2' := u8y 110 rfl g2
      have e10 : ((10 : UInt8).toNat : Int) = 10 := rfl
      clear g2 hl
      simp (disch := first | decide | omega | (simp only [LN]; omega) | (simp only [LN]; done) | fail) only [SV, SW, f578, Int.reduceNeg, Nat.reduceAdd, Nat.reduceBEq, cast1, h1, cast2, oneOr, e10]
    · rw [if_neg g2]
      have g2' := u8n 110 rfl g2
      clear g2
      by_cases g3 : bAt (r.drop 1) = 116
      · rw [if_pos g3, vEsc_some]
        have g3' := u8y 116 rfl g3
        have e9 : ((9 : UInt8).toNat : Int) = 9 := rfl
        clear g3 hl
        simp (disch := first | decide | omega | (simp only [LN]; omega) | (simp only [LN]; done) | fail) only [SV, SW, f578, Int.reduceNeg, Nat.reduceAdd, Nat.reduceBEq, cast1, h1, cast2, oneOr, e9]
      · rw [if_neg g3]
        have g3' := u8n 116 rfl g3
        clear g3
        by_cases g4 : bAt (r.drop 1) = 92 ∨ bAt (r.drop 1) = 39 ∨ bAt (r.drop 1) = 34
        · rw [if_pos g4, vEsc_some]
          clear hl
          rcases g4 with g4 | g4 | g4
          · have g4' := u8y 92 rfl g4
            clear g4
            simp (disch := first | decide | omega | (simp only [LN]; omega) | (simp only [LN]; done) | fail) only [SV, SW, f578, Int.reduceNeg, Nat.reduceAdd, Nat.reduceBEq, cast1, h1, evConv, cast2, oneOr]
          · have g4' := u8y 39 rfl g4
            clear g4
            simp (disch := first | decide | omega | (simp only [LN]; omega) | (simp only [LN]; done) | fail) only [SV, SW, f578, Int.reduceNeg, Nat.reduceAdd, Nat.reduceBEq, cast1, h1, evConv, cast2, oneOr]
          · have g4' := u8y 34 rfl g4
            clear g4
            simp (disch := first | decide | omega | (simp only [LN]; omega) | (simp only [LN]; done) | fail) only [SV, SW, f578, Int.reduceNeg, Nat.reduceAdd, Nat.reduceBEq, cast1, h1, evConv, cast2, oneOr]
        · rw [if_neg g4]
          simp only [not_or] at g4
          have g5' := u8n 92 rfl g4.1
          have g6' := u8n 39 rfl g4.2.1
          have g7' := u8n 34 rfl g4.2.2
          clear g4
          unfold escD
          unfold escOutR at hl
          by_cases l3 : i + 3 < s.length
          · have hl := hl l3
            by_cases g8 : cls (r.drop 1) = 3 ∧ cls (r.drop 2) = 3 ∧ cls (r.drop 3) = 3
            · rw [if_pos g8] at hl ⊢
              have d1 := dig_of g8.1
              have d2 := dig_of g8.2.1
              have d3 := dig_of g8.2.2
              have ev : 100 * digv r 1 + 10 * digv r 2 + digv r 3 = ((100 * ((bAt (r.drop 1)).toNat - 48) + 10 * ((bAt (r.drop 2)).toNat - 48) + ((bAt (r.drop 3)).toNat - 48) : Nat) : Int) := by
                unfold digv at d1 d2 d3 ⊢
                omega
              rw [ev] at hl
              have hb : 100 * ((bAt (r.drop 1)).toNat - 48) + 10 * ((bAt (r.drop 2)).toNat - 48) + ((bAt (r.drop 3)).toNat - 48) ≤ 999 := by
                unfold digv at d1 d2 d3
                omega
              generalize 100 * ((bAt (r.drop 1)).toNat - 48) + 10 * ((bAt (r.drop 2)).toNat - 48) + ((bAt (r.drop 3)).toNat - 48) = n at hl hb ⊢
              clear g8 d1 d2 d3 ev
              by_cases g9 : 255 < n
              · rw [if_pos g9, vEsc_none]
                simp (disch := first | decide | omega | (simp only [LN]; omega) | (simp only [LN]; done) | fail) only [SV, SW, f578, Int.reduceNeg, Nat.reduceAdd, Nat.reduceBEq, cast1, h1, hl, oneOr]
              · rw [if_neg g9, vEsc_some]
                have hz : ((UInt8.ofNat n).toNat : Int) = n := by
                  rw [UInt8.toNat_ofNat']; omega
                simp (disch := first | decide | omega | (simp only [LN]; omega) | (simp only [LN]; done) | fail) only [SV, SW, f578, Int.reduceNeg, Nat.reduceAdd, Nat.reduceBEq, cast1, h1, hl, cast4, oneOr, hz]
            · rw [if_neg g8] at hl ⊢
              rw [vEsc_none]
              clear g8
              simp (disch := first | decide | omega | (simp only [LN]; omega) | (simp only [LN]; done) | fail) only [SV, SW, f578, Int.reduceNeg, Nat.reduceAdd, Nat.reduceBEq, cast1, h1, hl, oneOr]
          · have : ¬ (cls (r.drop 1) = 3 ∧ cls (r.drop 2) = 3 ∧ cls (r.drop 3) = 3) := by
              intro hc
              have := cls3_len hc.2.2
              omega
            rw [if_neg this, vEsc_none]
            clear this hl
            simp (disch := first | decide | omega | (simp only [LN]; omega) | (simp only [LN]; done) | fail) only [SV, SW, f578, Int.reduceNeg, Nat.reduceAdd, Nat.reduceBEq, cast1, h1, oneOr]
  · have e : (s.drop i).drop 1 = [] := by rw [List.drop_drop, List.drop_eq_nil_iff]; omega
    have ea : escA (s.drop i) = none := by
      unfold escA escD
      rw [e, if_neg (by decide), if_neg (by decide), if_neg (by decide), if_neg (fun h => absurd h.1 (by decide))]
    rw [ea, vEsc_none]
    clear ea e hl hlen
    simp (disch := first | decide | omega | (simp only [LN]; omega) | (simp only [LN]; done) | fail) only [SV, SW, f578, Int.reduceNeg, Nat.reduceAdd, Nat.reduceBEq, oneOr]

theorem ev_quotedR (K : Cx) (h78 : K578 K) (s : BS) (i : Nat) (q : UInt8) (hi : i ≤ s.length) (hs : s.length ≤ 2000000) (hq : q ≠ 92) (hq0 : q ≠ 0) :
    runFun K f558 [vS s, vI i, vB q] [] = some (vEsc i (soundS (s.drop i) q), [], []) := by
  by_cases l : i < s.length
  · have hn := nth_bAt l
    have h := h78 s i l hs
    unfold soundS
    unfold escA at h
    generalize s.drop i = r at hn h ⊢
    have cq := u8eq (bAt r) q
    by_cases g1 : bAt r = 92
    · rw [if_neg (by simpa using g1)]
      have g1' := u8y 92 rfl g1
      have g4' : ((92 : Int) == (q.toNat : Int)) = false := by
        rw [beq_eq_false_iff_ne, ne_eq, ← g1', cq, g1]
        exact fun h => hq h.symm
      clear cq g1
      generalize (if bAt (r.drop 1) = 110 then some ((10 : UInt8), 2) else if bAt (r.drop 1) = 116 then some (9, 2) else if bAt (r.drop 1) = 92 ∨ bAt (r.drop 1) = 39 ∨ bAt (r.drop 1) = 34 then some (bAt (r.drop 1), 2) else escD r) = x at h ⊢
      cases x with
      | none =>
        rw [vEsc_none] at h ⊢
        simp (disch := first | decide | omega | (simp only [LN]; omega) | (simp only [LN]; done) | fail) only [SV, SW, f558, Int.reduceNeg, Nat.reduceAdd, Nat.reduceBEq, hn, g1', g4', viewD, h, oneOr]
      | some y =>
        obtain ⟨a, b⟩ := y
        rw [vEsc_some] at h ⊢
        simp (disch := first | decide | omega | (simp only [LN]; omega) | (simp only [LN]; done) | fail) only [SV, SW, f558, Int.reduceNeg, Nat.reduceAdd, Nat.reduceBEq, hn, g1', g4', viewD, h, oneOr]
    · rw [if_pos g1]
      have g1' := u8n 92 rfl g1
      clear h g1
      by_cases g4 : bAt r = q
      · rw [if_pos (Or.inr (Or.inr g4)), vEsc_none]
        have g4' : (((bAt r).toNat : Int) == (q.toNat : Int)) = true := by rw [g4]; exact beq_self_eq_true _
        clear g4 cq
        simp (disch := first | decide | omega | (simp only [LN]; omega) | (simp only [LN]; done) | fail) only [SV, SW, f558, Int.reduceNeg, Nat.reduceAdd, Nat.reduceBEq, hn, g4', oneOr]
      · have g4' : (((bAt r).toNat : Int) == (q.toNat : Int)) = false := by rw [beq_eq_false_iff_ne, ne_eq, cq]; exact g4
        clear cq
        by_cases g2 : (bAt r).toNat < 32
        · rw [if_pos (Or.inl g2), vEsc_none]
          clear g4
          simp (disch := first | decide | omega | (simp only [LN]; omega) | (simp only [LN]; done) | fail) only [SV, SW, f558, Int.reduceNeg, Nat.reduceAdd, Nat.reduceBEq, hn, g4', oneOr]
        · by_cases g3 : 126 < (bAt r).toNat
          · rw [if_pos (Or.inr (Or.inl g3)), vEsc_none]
            clear g4
            simp (disch := first | decide | omega | (simp only [LN]; omega) | (simp only [LN]; done) | fail) only [SV, SW, f558, Int.reduceNeg, Nat.reduceAdd, Nat.reduceBEq, hn, g4', oneOr]
          · rw [if_neg (by rintro (h | h | h); exact g2 h; exact g3 h; exact g4 h), vEsc_some]
            clear g4
            simp (disch := first | decide | omega | (simp only [LN]; omega) | (simp only [LN]; done) | fail) only [SV, SW, f558, Int.reduceNeg, Nat.reduceAdd, Nat.reduceBEq, hn, g4', evConv, cast1, oneOr]
  · have e : s.drop i = [] := by rw [List.drop_eq_nil_iff]; omega
    have ea : soundS (s.drop i) q = none := by
      unfold soundS
      rw [e, if_pos (by decide), if_pos (Or.inl (by decide))]
    rw [ea, vEsc_none]
    clear ea e
    simp (disch := first | decide | omega | (simp only [LN]; omega) | (simp only [LN]; done) | fail) only [SV, SW, f558, Int.reduceNeg, Nat.reduceAdd, Nat.reduceBEq, oneOr]

theorem ev_char (K : Cx) (h58 : K558 K) (h52 : K552 K) (s : BS) (i : Nat) (hi : i < s.length) (hs : s.length ≤ 2000000) :
    runFun K f534 [vS s, vI i] [] = some (stR i (charR (s.drop i)), [], []) := by
  have h := h58 s (i + 1) 39 (by omega) hs (by decide) (by decide)
  have h52 := h52 12
  have e39 : ((39 : UInt8).toNat : Int) = 39 := rfl
  rw [show vB 39 = .d false (.int .u8 39) from rfl] at h
  unfold charR
  have hd : ∀ k, (s.drop i).drop (1 + k) = s.drop (i + 1 + k) := fun k => by rw [List.drop_drop]; congr 1; omega
  have hd1 : (s.drop i).drop 1 = s.drop (i + 1) := hd 0
  rw [hd1]
  cases hx : soundS (s.drop (i + 1)) 39 with
  | none =>
    rw [hx, vEsc_none] at h
    simp only [stR_bad]
    clear hx hd hd1
    simp (disch := first | decide | omega | (simp only [LN]; omega) | (simp only [LN]; done) | fail) only [SV, SW, f534, Nat.reduceAdd, Nat.reduceBEq, cast1, viewD, h, Int.reduceNeg, h52, lose, oneOr, nc]
  | some y =>
    obtain ⟨c, k⟩ := y
    rw [hx, vEsc_some] at h
    simp only [hd]
    by_cases l : i + 1 + k < s.length
    · have hn := nth_bAt l
      generalize s.drop (i + 1 + k) = r at hn ⊢
      by_cases g : bAt r = 39
      · rw [if_pos g, stR_tok]
        have g' := u8y 39 rfl g
        rw [show i + (1 + k + 1) = i + 1 + k + 1 from by omega]
        clear hx hd hd1 g
        simp (disch := first | decide | omega | (simp only [LN]; omega) | (simp only [LN]; done) | fail) only [SV, SW, f534, Nat.reduceAdd, Nat.reduceBEq, cast1, viewD, h, hn, g', lose, oneOr, nc]
      · rw [if_neg g, stR_bad]
        have g' := u8n 39 rfl g
        clear hx hd hd1 g
        simp (disch := first | decide | omega | (simp only [LN]; omega) | (simp only [LN]; done) | fail) only [SV, SW, f534, Nat.reduceAdd, Nat.reduceBEq, cast1, viewD, h, hn, h52, lose, oneOr, nc]
    · have e : s.drop (i + 1 + k) = [] := by rw [List.drop_eq_nil_iff]; omega
      rw [e, if_neg (by decide), stR_bad]
      have hk := soundS_len hx
      simp only [List.length_drop] at hk
      clear hx hd hd1 e
      simp (disch := first | decide | omega | (simp only [LN]; omega) | (simp only [LN]; done) | fail) only [SV, SW, f534, Nat.reduceAdd, Nat.reduceBEq, cast1, viewD, h, h52, lose, oneOr, nc]
end Go.Vm
end

section
namespace Go.Vm
set_option maxRecDepth 20000
/- 'sloth/slothref01.text' -/
def f535_L0 : C :=
 (.seq
  (.seq
   (.reg [⟨[], [(20, (.and (.bin .lss (.sl 6) (.len true (.sl 0))) (.bin .neq (.ix (.sl 0) (.sl 6)) (.int .u8 34))))], [], none, [0, 1, 4, 5, 6], 10, [], [], []⟩])
   (.cond (.sl 20)
    .skip
    (.seq
     (.tidy 0 [0, 1, 4, 5, 6])
     (.exit 0))))
  (.block 1
   (.seq
    (.reg [⟨[], [(7, (.ext 0 (.call 58 (.cons (.sl 0) (.cons (.sl 6) (.cons (.int .u8 34) .nil)))))), (8, (.ext 1 (.call 58 (.cons (.sl 0) (.cons (.sl 6) (.cons (.int .u8 34) .nil))))))], [], none, [0, 1, 4, 5], 8, [], [], []⟩])
    (.seq
     (.seq
      (.reg [⟨[], [(28, (.bin .lss (.sl 7) (.int .i64 0)))], [], none, [0, 1, 4, 5, 7, 8], 2, [], [], []⟩])
      (.cond (.sl 28)
       (.seq
        (.reg [⟨[], [], [], some (none, .store 6 (.sl 4) (.call 52 (.cons (.int .i64 12) .nil))), [4], 2, [], [], []⟩])
        (.seq
         (.tidy 0 [4])
         .ret))
       .skip))
     (.seq
      (.reg [⟨[(33, .lits 1 (.cons (.conv .u8 (.sl 7)) .nil))], [], [], some (some 34, .app 1 (.sl 5) (.sl 33)), [0, 1, 4, 8], 5, [], [], []⟩, ⟨[], [(5, (.sl 34))], [], none, [0, 1, 4, 8], 1, [], [], []⟩])
      (.reg [⟨[], [(6, (.sl 8))], [], none, [0, 1, 4, 5], 2, [], [], []⟩]))))))
def f535 : Fun := ⟨
 (.seq
  (.reg [⟨[(4, .box (.agg (.cons (.int .i64 0) (.cons (.str []) (.cons (.int .i64 0) (.cons (.int .i64 0) (.cons (.int .i64 0) (.cons (.int .i64 0) .nil))))))))], [], [], none, [0, 1, 4], 1, [], [], []⟩])
  (.seq
   (.reg [⟨[], [(5, (.nilsl 1))], [], none, [0, 1, 4], 1, [], [], []⟩])
   (.seq
    (.reg [⟨[], [(6, (.bin .add (.sl 1) (.int .i64 1)))], [], none, [0, 1, 4, 5], 3, [], [], []⟩])
    (.seq
     (.block 0
      (.seq (.tidy 0 [0, 1, 4, 5, 6]) (.loop (.seq (.tidy 0 [0, 1, 4, 5, 6]) f535_L0))))
     (.seq
      (.seq
       (.reg [⟨[], [(39, (.bin .geq (.sl 6) (.len true (.sl 0))))], [], none, [1, 4, 5, 6], 4, [], [], []⟩])
       (.cond (.sl 39)
        (.seq
         (.reg [⟨[], [], [], some (none, .store 6 (.sl 4) (.call 52 (.cons (.int .i64 12) .nil))), [4], 2, [], [], []⟩])
         (.seq
          (.tidy 0 [4])
          .ret))
        .skip))
      (.seq
       (.reg [⟨[], [], [], some (none, .store 6 (.sl 4) (.set 4 1 (.bin .add (.sl 6) (.int .i64 1)) (.set 0 4 (.set 3 1 (.sl 1) (.set 1 1 (.b2s (.sl 5)) (.set 0 1 (.int .i64 8) (.agg (.cons (.int .i64 0) (.cons (.str []) (.cons (.int .i64 0) (.cons (.int .i64 0) .nil)))))))) (.agg (.cons (.int .i64 0) (.cons (.str []) (.cons (.int .i64 0) (.cons (.int .i64 0) (.cons (.int .i64 0) (.cons (.int .i64 0) .nil)))))))))), [4], 8, [], [], []⟩])
       (.seq
        (.tidy 0 [4])
        .ret))))))),
 [(.ld 6 true (.sl 4))], false⟩
theorem f535_ok : funOk Go.Proofs.Tryz.prog 35 0 2 f535 = true := by kernel_rfl

/- 'sloth/slothref01.signsOf' -/
def f536_L0 : C :=
 (.seq
  (.seq
   (.reg [⟨[], [(29, (.and (.bin .lss (.sl 5) (.len true (.sl 0))) (.bin .neq (.ix (.sl 0) (.sl 5)) (.int .u8 10))))], [], none, [0, 4, 5], 10, [], [], []⟩])
   (.cond (.sl 29)
    .skip
    (.seq
     (.tidy 0 [4, 5])
     (.exit 0))))
  (.block 1
   (.reg [⟨[], [(5, (.bin .add (.sl 5) (.int .i64 1)))], [], none, [0, 4], 3, [], [], []⟩])))
def f536 : Fun := ⟨
 (.seq
  (.reg [⟨[(4, .box (.agg (.cons (.int .i64 0) (.cons (.str []) (.cons (.int .i64 0) (.cons (.int .i64 0) (.cons (.int .i64 0) (.cons (.int .i64 0) .nil))))))))], [], [], none, [0, 1, 4], 1, [], [], []⟩])
  (.seq
   (.reg [⟨[], [(5, (.call 59 (.cons (.sl 0) (.cons (.sl 1) .nil))))], [], none, [0, 1, 4], 4, [], [], []⟩])
   (.seq
    (.reg [⟨[], [(6, (.call 60 (.cons (.cut true true true false 0 (.sl 0) (.sl 1) (.sl 5) .nil) .nil)))], [], none, [0, 1, 4, 5], 6, [], [], []⟩])
    (.seq
     (.seq
      (.reg [⟨[], [(16, (.bin .lss (.sl 6) (.int .i64 0)))], [], none, [0, 1, 4, 5, 6], 2, [], [], []⟩])
      (.cond (.sl 16)
       (.seq
        (.reg [⟨[], [], [], some (none, .store 6 (.sl 4) (.call 52 (.cons (.int .i64 14) .nil))), [4], 2, [], [], []⟩])
        (.seq
         (.tidy 0 [4])
         .ret))
       .skip))
     (.seq
      (.seq
       (.reg [⟨[], [(19, (.bin .eql (.sl 6) (.int .i64 0)))], [], none, [0, 1, 4, 5, 6], 2, [], [], []⟩])
       (.cond (.sl 19)
        (.seq
         (.block 0
          (.seq (.tidy 0 [0, 4, 5]) (.loop (.seq (.tidy 0 [0, 4, 5]) f536_L0))))
         (.seq
          (.reg [⟨[], [], [], some (none, .store 6 (.sl 4) (.call 29 (.cons (.sl 5) .nil))), [4], 3, [], [], []⟩])
          (.seq
           (.tidy 0 [4])
           .ret)))
        .skip))
      (.seq
       (.reg [⟨[], [], [], some (none, .store 6 (.sl 4) (.set 4 1 (.sl 5) (.set 0 4 (.set 3 1 (.sl 1) (.set 1 1 (.cut true true true false 0 (.sl 0) (.sl 1) (.sl 5) .nil) (.set 0 1 (.sl 6) (.agg (.cons (.int .i64 0) (.cons (.str []) (.cons (.int .i64 0) (.cons (.int .i64 0) .nil)))))))) (.agg (.cons (.int .i64 0) (.cons (.str []) (.cons (.int .i64 0) (.cons (.int .i64 0) (.cons (.int .i64 0) (.cons (.int .i64 0) .nil)))))))))), [4], 10, [], [], []⟩])
       (.seq
        (.tidy 0 [4])
        .ret))))))),
 [(.ld 6 true (.sl 4))], false⟩
theorem f536_ok : funOk Go.Proofs.Tryz.prog 36 0 2 f536 = true := by kernel_rfl

/- 'sloth/slothref01.single' -/
def f537 : Fun := ⟨
 (.seq
  (.reg [⟨[(4, .box (.agg (.cons (.int .i64 0) (.cons (.str []) (.cons (.int .i64 0) (.cons (.int .i64 0) (.cons (.int .i64 0) (.cons (.int .i64 0) .nil))))))))], [], [], none, [0, 1, 4], 1, [], [], []⟩])
  (.seq
   (.reg [⟨[], [(5, (.call 61 (.cons (.ix (.sl 0) (.sl 1)) .nil)))], [], none, [0, 1, 4], 5, [], [], []⟩])
   (.seq
    (.seq
     (.reg [⟨[], [(14, (.bin .eql (.ix (.sl 0) (.sl 1)) (.int .u8 95)))], [], none, [0, 1, 4, 5], 4, [], [], []⟩])
     (.cond (.sl 14)
      (.seq
       (.reg [⟨[], [(6, (.bool false))], [], none, [0, 1, 4], 1, [], [], []⟩])
       (.seq
        (.seq
         (.reg [⟨[], [(19, (.bin .lss (.bin .add (.sl 1) (.int .i64 1)) (.len true (.sl 0))))], [], none, [0, 1, 4, 6], 5, [], [], []⟩])
         (.cond (.sl 19)
          (.reg [⟨[], [(6, (.call 57 (.cons (.ix (.sl 0) (.bin .add (.sl 1) (.int .i64 1))) .nil)))], [], none, [0, 1, 4], 6, [], [], []⟩])
          .skip))
        (.reg [⟨[], [(5, (.un .not (.sl 6)))], [], none, [0, 1, 4], 3, [], [], []⟩])))
      .skip))
    (.seq
     (.seq
      (.reg [⟨[], [(28, (.un .not (.sl 5)))], [], none, [0, 1, 4], 2, [], [], []⟩])
      (.cond (.sl 28)
       (.seq
        (.reg [⟨[], [], [], some (none, .store 6 (.sl 4) (.call 52 (.cons (.int .i64 10) .nil))), [4], 2, [], [], []⟩])
        (.seq
         (.tidy 0 [4])
         .ret))
       .skip))
     (.seq
      (.reg [⟨[], [], [], some (none, .store 6 (.sl 4) (.set 4 1 (.bin .add (.sl 1) (.int .i64 1)) (.set 0 4 (.set 3 1 (.sl 1) (.set 1 1 (.cut true true true false 0 (.sl 0) (.sl 1) (.bin .add (.sl 1) (.int .i64 1)) .nil) (.set 0 1 (.int .i64 9) (.agg (.cons (.int .i64 0) (.cons (.str []) (.cons (.int .i64 0) (.cons (.int .i64 0) .nil)))))))) (.agg (.cons (.int .i64 0) (.cons (.str []) (.cons (.int .i64 0) (.cons (.int .i64 0) (.cons (.int .i64 0) (.cons (.int .i64 0) .nil)))))))))), [4], 11, [], [], []⟩])
      (.seq
       (.tidy 0 [4])
       .ret)))))),
 [(.ld 6 true (.sl 4))], false⟩
theorem f537_ok : funOk Go.Proofs.Tryz.prog 37 0 2 f537 = true := by kernel_rfl

def K535 (K : Cx) : Prop := ∀ (s : BS) (i : Nat), i < s.length → s.length ≤ 2000000 → bAt (s.drop i) = 34 → K.call 35 [vS s, vI i] = some (stR i (textR (s.drop i)), [])
def K536 (K : Cx) : Prop := ∀ (s : BS) (i : Nat), i < s.length → s.length ≤ 2000000 → cls (s.drop i) = 5 → K.call 36 [vS s, vI i] = some (stR i (signR (s.drop i)), [])
def K537 (K : Cx) : Prop := ∀ (s : BS) (i : Nat), i < s.length → s.length ≤ 2000000 → K.call 37 [vS s, vI i] = some (stR i (oneR (s.drop i)), [])

def tSt (s : BS) (i : Int) (e : Nat) : BS → S
  | [] => ⟨[(0, vS s), (1, vI i), (4, .ptr 0 0 0), (5, .fs true 1 []), (6, vI e)], [(0, .mix 6 [[vI 0, vS [], vI 0, vI 0, vI 0, vI 0]])], 1, []⟩
  | l => ⟨[(0, vS s), (1, vI i), (4, .ptr 0 0 0), (5, .bsl 1 0 l.length), (6, vI e)], [(0, .mix 6 [[vI 0, vS [], vI 0, vI 0, vI 0, vI 0]]), (1, .dat true 1 (l.map eU8))], 2, []⟩
theorem tSt_nil (s i e) : tSt s i e [] = ⟨[(0, vS s), (1, vI i), (4, .ptr 0 0 0), (5, .fs true 1 []), (6, vI e)], [(0, .mix 6 [[vI 0, vS [], vI 0, vI 0, vI 0, vI 0]])], 1, []⟩ := rfl
theorem tSt_app (s i e) (l : BS) (x : UInt8) : tSt s i e (l ++ [x]) = ⟨[(0, vS s), (1, vI i), (4, .ptr 0 0 0), (5, .bsl 1 0 (l.length + 1)), (6, vI e)], [(0, .mix 6 [[vI 0, vS [], vI 0, vI 0, vI 0, vI 0]]), (1, .dat true 1 (l.map eU8 ++ [[.int .u8 x.toNat]]))], 2, []⟩ := by
  cases l with
  | nil => rfl
  | cons a l => simp [tSt, eU8]
theorem tSt_ne (s i e) {l : BS} (h : l ≠ []) : tSt s i e l = ⟨[(0, vS s), (1, vI i), (4, .ptr 0 0 0), (5, .bsl 1 0 l.length), (6, vI e)], [(0, .mix 6 [[vI 0, vS [], vI 0, vI 0, vI 0, vI 0]]), (1, .dat true 1 (l.map eU8))], 2, []⟩ := by
  cases l with
  | nil => exact absurd rfl h
  | cons a l => rfl
def tBad : Ex × S := (.ret, ⟨[(4, .ptr 0 0 0)], [(0, .mix 6 [[vI 0, vS [], vI 0, vI 0, vI 0, vI 12]])], 1, []⟩)
def tOut (s : BS) (i : Int) (e : Nat) (l : BS) (o : Ex × S) : Option (BS × Nat) → Prop
  | none => o = tBad ∨ ∃ l', o = (.exit 0, tSt s i s.length l')
  | some (bs, k) => o = (.exit 0, tSt s i (e + k) (l ++ bs)) ∧ e + k < s.length
theorem text_loop (K : Cx) (h58 : K558 K) (h52 : K552 K) (s : BS) (hs : s.length ≤ 2000000) (i : Int) : ∀ (n : Nat) (r : BS), r.length = n → ∀ (e : Nat) (l : BS), s.drop e = r → e ≤ s.length → l.length ≤ e →
    ∃ o, lp K 0 [0, 1, 4, 5, 6] f535_L0 (tSt s i e l) = some o ∧ tOut s i e l o (quotL 34 r) := by
  intro n
  induction n using Nat.strongRecOn with
  | ind n ih =>
    intro r hr e l hd he hle
    subst hr
    have h2 := h58 s e 34 he hs (by decide) (by decide)
    have h52 := h52 12
    rw [show vB 34 = .d false (.int .u8 34) from rfl] at h2
    rw [hd] at h2
    match r, ih, hd, h2 with
    | [], ih, hd, h2 =>
      have hx : quotL 34 [] = none := by rw [quotL]
      have hl := congrArg List.length hd
      rw [List.length_drop, List.length_nil] at hl
      have : e = s.length := by omega
      subst this
      rw [hx]
      refine ⟨_, ?_, .inr ⟨l, rfl⟩⟩
      clear ih h2
      by_cases hl0 : l = []
      · subst hl0
        rw [tSt_nil, lp_un f535_L0.eq_1]
        simp (disch := first | decide | omega | (simp only [LN]; omega) | (simp only [LN]; done) | fail) only [SV, SW, Nat.reduceBEq]
      · rw [tSt_ne _ _ _ hl0, lp_un f535_L0.eq_1]
        clear hl0
        simp (disch := first | decide | omega | (simp only [LN]; omega) | (simp only [LN]; done) | fail) only [SV, SW, Nat.reduceBEq, reduceCtorEq, Nat.reduceAdd]
    | c :: r', ih, hd, h2 =>
      have hlt : e + 1 ≤ s.length := by
        have := congrArg List.length hd
        rw [List.length_drop, List.length_cons] at this
        omega
      have hn := nth_bAt (s := s) (i := e) (by omega)
      rw [hd] at hn
      have hb : bAt (c :: r') = c := rfl
      rw [hb] at hn
      rw [quotL]
      by_cases g : c = 34
      · subst g
        rw [if_pos rfl]
        refine ⟨_, ?_, ⟨by simp only [Nat.add_zero, List.append_nil]; rfl, by omega⟩⟩
        have q34 : ((34 : UInt8).toNat : Int) = 34 := rfl
        clear ih h2
        by_cases hl0 : l = []
        · subst hl0
          rw [tSt_nil, lp_un f535_L0.eq_1]
          simp (disch := first | decide | omega | (simp only [LN]; omega) | (simp only [LN]; done) | fail) only [SV, SW, Nat.reduceBEq, hn, q34]
        · rw [tSt_ne _ _ _ hl0, lp_un f535_L0.eq_1]
          clear hl0
          simp (disch := first | decide | omega | (simp only [LN]; omega) | (simp only [LN]; done) | fail) only [SV, SW, Nat.reduceBEq, hn, q34, reduceCtorEq, Nat.reduceAdd]
      · rw [if_neg g]
        have hq1 : ¬ (c.toNat : Int) = 34 := u8n 34 rfl g
        cases hsd : soundS (c :: r') 34 with
        | none =>
          rw [hsd, vEsc_none] at h2
          refine ⟨tBad, ?_, .inl rfl⟩
          unfold tBad
          clear ih g
          by_cases hl0 : l = []
          · subst hl0
            rw [tSt_nil, lp_un f535_L0.eq_1]
            simp (disch := first | decide | omega | (simp only [LN]; omega) | (simp only [LN]; done) | fail) only [SV, SW, Nat.reduceBEq, hn, viewD, h2, Int.reduceNeg, h52, Nat.reduceAdd, lose]
          · rw [tSt_ne _ _ _ hl0, lp_un f535_L0.eq_1]
            clear hl0
            simp (disch := first | decide | omega | (simp only [LN]; omega) | (simp only [LN]; done) | fail) only [SV, SW, Nat.reduceBEq, hn, viewD, h2, Int.reduceNeg, h52, Nat.reduceAdd, lose]
        | some y =>
          obtain ⟨x, k⟩ := y
          have hk := soundS_len hsd
          simp only [List.length_cons] at hk
          have hlr : r'.length + 1 + e = s.length := by
            have := congrArg List.length hd
            rw [List.length_drop, List.length_cons] at this
            omega
          rw [hsd, vEsc_some] at h2
          obtain ⟨o, ho1, ho2⟩ := ih (r'.drop (k - 1)).length (by rw [List.length_drop, List.length_cons]; omega) (r'.drop (k - 1)) rfl (e + k) (l ++ [x]) (by rw [dd, hd, drop_pred hk.1]) (by omega) (by simp; omega)
          rw [tSt_app] at ho1
          refine ⟨o, ?_, ?_⟩
          · rw [← ho1]
            have hw : IntKind.u8.wrap (x.toNat : Int) = x.toNat := u8wrap (by omega) (by have := x.toNat_lt; omega)
            have hx0 : ¬ ((x.toNat : Int) < 0) := by omega
            clear ho1 ho2 ih g hsd hd hb h52
            by_cases hl0 : l = []
            · subst hl0
              rw [tSt_nil, lp_un f535_L0.eq_1]
              simp (disch := first | decide | omega | (simp only [LN]; omega) | (simp only [LN]; done) | fail) only [SV, SW, Nat.reduceBEq, hn, viewD, h2, evConv, hw, Nat.reduceAdd, lose, reduceCtorEq]
            · rw [tSt_ne _ _ _ hl0, lp_un f535_L0.eq_1]
              clear hl0
              simp (disch := first | decide | omega | (simp only [LN]; omega) | (simp only [LN]; done) | fail) only [SV, SW, Nat.reduceBEq, hn, viewD, h2, evConv, hw, Nat.reduceAdd, lose, V.forget, V.drop1, V.ref0, reduceCtorEq]
          · simp only
            cases hz : quotL 34 (r'.drop (k - 1)) with
            | none => rw [hz] at ho2; exact ho2
            | some z =>
              rw [hz] at ho2
              obtain ⟨bs, m⟩ := z
              simp only [tOut, Option.map_some] at ho2 ⊢
              rw [← Nat.add_assoc, show l ++ x :: bs = l ++ [x] ++ bs from by simp]
              exact ho2
theorem ev_text (K : Cx) (h58 : K558 K) (h52 : K552 K) (s : BS) (i : Nat) (hi : i < s.length) (hs : s.length ≤ 2000000) :
    runFun K f535 [vS s, vI i] [] = some (stR i (textR (s.drop i)), [], []) := by
  have hd1 : (s.drop i).drop 1 = s.drop (i + 1) := (dd s i 1).symm
  obtain ⟨o, h1, h2⟩ := text_loop K h58 h52 s hs i _ (s.drop (i + 1)) rfl (i + 1) [] rfl (by omega) (by simp)
  have h52 := h52 12
  unfold textR
  rw [hd1]
  rw [tSt_nil] at h1
  cases hq : quotL 34 (s.drop (i + 1)) with
  | none =>
    rw [hq] at h2
    simp only [stR_bad]
    rcases h2 with rfl | ⟨l', rfl⟩
    · unfold tBad at h1
      clear hq hd1
      simp (disch := first | decide | omega | (simp only [LN]; omega) | (simp only [LN]; done) | fail) only [SV, SW, f535, Nat.reduceAdd, Nat.reduceBEq, cast1, h1, oneOr, nc]
    · by_cases hl0 : l' = []
      · subst hl0
        rw [tSt_nil] at h1
        clear hq hd1
        simp (disch := first | decide | omega | (simp only [LN]; omega) | (simp only [LN]; done) | fail) only [SV, SW, f535, Nat.reduceAdd, Nat.reduceBEq, cast1, h1, viewD, h52, lose, oneOr, nc]
      · rw [tSt_ne _ _ _ hl0] at h1
        clear hq hd1 hl0
        simp (disch := first | decide | omega | (simp only [LN]; omega) | (simp only [LN]; done) | fail) only [SV, SW, f535, Nat.reduceAdd, Nat.reduceBEq, cast1, h1, viewD, h52, lose, oneOr, nc]
  | some y =>
    obtain ⟨bs, k⟩ := y
    rw [hq] at h2
    obtain ⟨rfl, h2⟩ := h2
    simp only [stR_tok]
    rw [List.nil_append] at h1
    rw [show i + (1 + k + 1) = i + 1 + k + 1 from by omega]
    by_cases hl0 : bs = []
    · subst hl0
      rw [tSt_nil] at h1
      clear hq hd1 h52
      simp (disch := first | decide | omega | (simp only [LN]; omega) | (simp only [LN]; done) | fail) only [SV, SW, f535, Nat.reduceAdd, Nat.reduceBEq, cast1, h1, e_b2s, b2s_nil, lose, oneOr, nc]
    · rw [tSt_ne _ _ _ hl0] at h1
      have hb2 := b2s_bsl ([(0, .mix 6 [[vI 0, vS [], vI 0, vI 0, vI 0, vI 0]]), (1, .dat true 1 (bs.map eU8))]) 1 bs.length true bs rfl rfl
      clear hq hd1 h52 hl0
      simp (disch := first | decide | omega | (simp only [LN]; omega) | (simp only [LN]; done) | fail) only [SV, SW, f535, Nat.reduceAdd, Nat.reduceBEq, cast1, h1, e_b2s, hb2, lose, oneOr, nc]

theorem nl_loop (K : Cx) (s : BS) (hs : s.length ≤ 2000000) (H : List (Nat × Blk)) (hH : H = [(0, .mix 6 [[vI 0, vS [], vI 0, vI 0, vI 0, vI 0]])]) : ∀ (r : BS) (e : Nat), s.drop e = r → e ≤ s.length →
    lp K 0 [0, 4, 5] f536_L0 ⟨[(0, vS s), (4, .ptr 0 0 0), (5, vI e)], H, 1, []⟩ = some (.exit 0, ⟨[(4, .ptr 0 0 0), (5, vI ((e + nlL r : Nat)))], H, 1, []⟩) := by
  subst hH
  intro r
  induction r with
  | nil =>
    intro e hd he
    have hl := congrArg List.length hd
    rw [List.length_drop, List.length_nil] at hl
    have : e = s.length := by omega
    subst this
    simp only [nlL, Nat.add_zero]
    rw [lp_un f536_L0.eq_1]
    simp (disch := first | decide | omega | (simp only [LN]; omega) | (simp only [LN]; done) | fail) only [SV, SW, Nat.reduceBEq]
  | cons c r ih =>
    intro e hd he
    have hlt : e < s.length := by
      have := congrArg List.length hd
      rw [List.length_drop, List.length_cons] at this
      omega
    have hn := nth_bAt hlt
    rw [hd] at hn
    have hb : bAt (c :: r) = c := rfl
    rw [hb] at hn
    have ih := ih (e + 1) (by rw [dd, hd]; rfl) (by omega)
    simp only [nlL]
    rw [lp_un f536_L0.eq_1]
    by_cases g : c = 10
    · rw [if_pos g, Nat.add_zero]
      have g' := u8y 10 rfl g
      clear ih g
      simp (disch := first | decide | omega | (simp only [LN]; omega) | (simp only [LN]; done) | fail) only [SV, SW, Nat.reduceBEq, hn, g']
    · rw [if_neg g]
      have g' := u8n 10 rfl g
      rw [show e + (nlL r + 1) = e + 1 + nlL r from by omega, ← ih]
      clear ih g
      simp (disch := first | decide | omega | (simp only [LN]; omega) | (simp only [LN]; done) | fail) only [SV, SW, Nat.reduceBEq, hn, cast1]
theorem runL_le' (r : BS) : runL 5 r ≤ r.length := by
  induction r with
  | nil => exact Nat.le_refl _
  | cons c r ih =>
    simp only [runL]
    split
    · simp only [List.length_cons]; omega
    · exact Nat.zero_le _
theorem ev_signsOf (K : Cx) (h59 : K55 K) (h60 : K56 K) (h52 : K552 K) (h29 : K529 K) (s : BS) (i : Nat) (hi : i < s.length) (hs : s.length ≤ 2000000) (hc5 : cls (s.drop i) = 5) :
    runFun K f536 [vS s, vI i] [] = some (stR i (signR (s.drop i)), [], []) := by
  have h1 := h59 s i (by omega) (by omega)
  have hle := runL_le' (s.drop i)
  rw [List.length_drop] at hle
  have hc := fun H => cut_slh H s i (i + runL 5 (s.drop i)) (by omega) (by omega)
  rw [Nat.add_sub_cancel_left] at hc
  have hne : (s.drop i).take (runL 5 (s.drop i)) ≠ [] := by
    cases hr : s.drop i with
    | nil => rw [hr] at hc5; cases hc5
    | cons c r =>
      rw [hr] at hc5
      have : runL 5 (c :: r) = runL 5 r + 1 := by simp only [runL]; rw [if_pos (show clB c = 5 from hc5)]
      rw [this]; simp
  have h2 := h60 _ hne (by rw [List.length_take, List.length_drop]; omega)
  have hl := nl_loop K s hs _ rfl (s.drop (i + runL 5 (s.drop i))) (i + runL 5 (s.drop i)) rfl (by omega)
  rw [dd] at hl
  have h29 := h29 ((i + runL 5 (s.drop i) + nlL ((s.drop i).drop (runL 5 (s.drop i))) : Nat))
  have h52 := h52 14
  unfold signR
  generalize hkk : kindS ((s.drop i).take (runL 5 (s.drop i))) = kk at h2 ⊢
  have hk11 : kk < 0 ∨ kk = 0 ∨ kk = 11 ∨ kk = 5 := by
    rw [← hkk]; unfold kindS
    split
    · omega
    · split
      · omega
      · split <;> omega
  clear hkk hne hc5
  by_cases k1 : kk < 0
  · rw [if_pos k1, stR_bad]
    clear hl h29 hk11
    simp (disch := first | decide | omega | (simp only [LN]; omega) | (simp only [LN]; done) | fail) only [SV, SW, f536, Nat.reduceAdd, Nat.reduceBEq, viewD, h1, hc, h2, h52, lose, oneOr, nc]
  · rw [if_neg k1]
    by_cases k2 : kk = 0
    · subst k2
      rw [if_pos rfl, stR_skip, ← Nat.add_assoc]
      clear h52 hk11
      simp (disch := first | decide | omega | (simp only [LN]; omega) | (simp only [LN]; done) | fail) only [SV, SW, f536, Nat.reduceAdd, Nat.reduceBEq, viewD, h1, hc, h2, hl, h29, lose, oneOr]
    · rw [if_neg k2, stR_tok]
      have : ((kk.toNat : Nat) : Int) = kk := by omega
      rw [this]
      clear hl h29 h52
      have hk : (kk == 0) = false := beq_false_of_ne k2
      clear hk11
      simp (disch := first | decide | omega | (simp only [LN]; omega) | (simp only [LN]; done) | fail) only [SV, SW, f536, Nat.reduceAdd, Nat.reduceBEq, viewD, h1, hc, h2, hk, lose, oneOr]
theorem ev_single (K : Cx) (h61 : K57 K) (h57 : K86 K) (h52 : K552 K) (s : BS) (i : Nat) (hi : i < s.length) (hs : s.length ≤ 2000000) :
    runFun K f537 [vS s, vI i] [] = some (stR i (oneR (s.drop i)), [], []) := by
  have hn := nth_bAt hi
  have h1 := h61 (bAt (s.drop i))
  have h52 := h52 10
  have hc := fun H => cut_slh H s i (i + 1) (by omega) (by omega)
  rw [Nat.add_sub_cancel_left] at hc
  have hend := num_end K h57 s i 0 1 (by omega)
  rw [Nat.zero_add] at hend
  unfold oneR
  generalize s.drop i = r at *
  generalize inNm (r.drop 1) = nm at hend ⊢
  generalize spcB (bAt r) = sp at h1 ⊢
  by_cases g : bAt r = 95
  · have g' := u8y 95 rfl g
    rw [if_pos g]
    rw [show vB (bAt r) = .d false (.int .u8 95) from by show V.d false (.int .u8 ((bAt r).toNat : Int)) = _; rw [g']] at h1
    clear g
    rcases hend with ⟨c1, c2⟩ | ⟨c1, rfl⟩
    · cases nm with
      | true =>
        rw [if_neg (by simp), stR_bad]
        simp (disch := first | decide | omega | (simp only [LN]; omega) | (simp only [LN]; done) | fail) only [SV, SW, f537, Nat.reduceAdd, Nat.reduceBEq, hn, g', viewD, h1, cast1, c2, h52, lose, oneOr, nc]
      | false =>
        rw [if_pos (by simp), stR_tok]
        simp (disch := first | decide | omega | (simp only [LN]; omega) | (simp only [LN]; done) | fail) only [SV, SW, f537, Nat.reduceAdd, Nat.reduceBEq, hn, g', viewD, h1, cast1, c2, hc, lose, oneOr, nc]
    · rw [if_pos (by simp), stR_tok]
      simp (disch := first | decide | omega | (simp only [LN]; omega) | (simp only [LN]; done) | fail) only [SV, SW, f537, Nat.reduceAdd, Nat.reduceBEq, hn, g', viewD, h1, cast1, hc, lose, oneOr, nc]
  · have g' := u8n 95 rfl g
    rw [if_neg g]
    clear g hend
    cases sp with
    | true =>
      rw [if_pos rfl, stR_tok]
      simp (disch := first | decide | omega | (simp only [LN]; omega) | (simp only [LN]; done) | fail) only [SV, SW, f537, Nat.reduceAdd, Nat.reduceBEq, hn, viewD, h1, cast1, hc, lose, oneOr, nc]
    | false =>
      rw [if_neg (by simp), stR_bad]
      simp (disch := first | decide | omega | (simp only [LN]; omega) | (simp only [LN]; done) | fail) only [SV, SW, f537, Nat.reduceAdd, Nat.reduceBEq, hn, viewD, h1, h52, lose, oneOr, nc]
end Go.Vm
end

section
namespace Go.Vm
open Go.RowKit Go.Shelf Go.Proofs Go.Sort

def GT : Nat → Option (List D)
  | 0 => some (clTab.map fun n => .int .u8 (n : Nat))
  | 1 => some [.nilfn, .int .i64 108, .int .i64 8, .int .i64 30]
  | 4 => some (Lib.pow10Tab.map fun z => .int .u64 z)
  | _ => none

theorem gP10 : Tryz.prog.globalNamed "internal/strconv.uint64pow10" = some 4 := by kernel_rfl

theorem repD_int {w : World} {F : Nat → Prop} {v : Value} {k : IntKind} {n : Int} (h : RepD w F v (.int k n)) : v = .int k n := by
  cases h with | int k n => rfl

theorem tab_of_glob {w : World} {F : Nat → Prop} (h : GlobRel w F GT) : Lib.TabIs Tryz.prog w "internal/strconv.uint64pow10" .u64 Lib.pow10Tab := by
  have hx := h 4 _ rfl
  rw [if_neg (show ¬ isHandle (Lib.pow10Tab.map fun z => D.int .u64 z) = true from fun e => Bool.noConfusion (show false = true from e))] at hx
  obtain ⟨h1, cs, t, fz, h2, h3⟩ := hx
  unfold Lib.TabIs World.var?
  rw [gP10]
  show (match w.heap[4]? with | some (.cells cs _ _) => some cs | _ => none) = _
  rw [h2]
  show some cs = _
  congr 1
  apply Array.ext
  · rw [h3]; simp
  · intro j hj1 hj2
    cases h1 with
    | ptr b o cells g hf hc hr =>
      have hj : j < Lib.pow10Tab.length := by simpa using hj2
      have e : (Lib.pow10Tab.map fun z => D.int .u64 z)[j]? = some (.int .u64 Lib.pow10Tab[j]) := by simp [hj]
      have hv := hr j _ e
      have hg := repD_int hv
      have hcell := hc j _ e
      rw [hg, Nat.zero_add] at hcell
      have : w.cell? ⟨4, j, none⟩ = some cs[j] := by
        rw [Lib.cell_of_heap h2]
        simp [hj1]
      rw [this] at hcell
      simpa using Option.some.inj hcell

theorem hand_of_glob {w : World} {F : Nat → Prop} (h : GlobRel w F GT) : w.cell? ⟨1, 0, none⟩ = some (.iface 108 (.agg #[.pointer (some ⟨8, 30, none⟩)])) := by
  have hx := h 1 _ rfl
  rw [if_pos (show isHandle [D.nilfn, .int .i64 108, .int .i64 8, .int .i64 30] = true from rfl)] at hx
  exact hx.2

theorem nothing_new {w : World} {F : Nat → Prop} {base : Nat} (hF : ∀ b, F b → b < w.heap.size) : HeapRel w F (fun _ _ => False) base (fun _ => none) 0 (indexed []) :=
  ⟨fun b blk h => absurd (show look [] b = some blk from h) (by simp [look]), fun b b' l l' h => (by cases h), fun b l h => (by cases h), hF⟩

def hexd : BS := [48, 49, 50, 51, 52, 53, 54, 55, 56, 57, 97, 98, 99, 100, 101, 102]
theorem ix_hex : ∀ c : UInt8, Lib.indexByte hexd c = hexB c := u8all (by decide +kernel)

theorem pure_index (c : UInt8) : PureCall Tryz.prog GT 84 [vS hexd, .d false (.int .u8 c.toNat)] (vI (hexB c)) [] := by
  intro w F vals hF hG hR
  obtain ⟨hsz, hval⟩ := hR
  obtain ⟨l⟩ := vals
  match l, hsz, hval with
  | [v0, v1], hsz, hval =>
    obtain ⟨t, e0, e0'⟩ := (hval 0 v0 (vS hexd) rfl rfl).str_inv
    have e1 := (hval 1 v1 (.d false (.int .u8 c.toNat)) rfl rfl).int_inv
    subst e0; subst e1
    refine (Tryz.strings_IndexByte t c.toNat w).mono ?_
    rintro e w' ⟨rfl, rfl⟩
    refine ⟨_, F, fun _ => none, rfl, .refl _ _, fun b h => .inl h, ?_, nothing_new hF⟩
    have : (c.toNat : Int).toNat.toUInt8 = c := by simp
    rw [← e0', this, ix_hex]
    exact .d _ _ _ (.int _ _)
  | [], hsz, _ => simp at hsz
  | [_], hsz, _ => simp at hsz
  | _ :: _ :: _ :: _, hsz, _ => simp at hsz

theorem pure_itoa (n : Int) (h0 : -9223372036854775808 ≤ n) (h1 : n ≤ 9223372036854775807) : PureCall Tryz.prog GT 49 [vI n] (vS (Lib.itoa n)) [] := by
  intro w F vals hF hG hR
  obtain ⟨hsz, hval⟩ := hR
  obtain ⟨l⟩ := vals
  match l, hsz, hval with
  | [v0], hsz, hval =>
    have e0 := (hval 0 v0 (vI n) rfl rfl).int_inv
    subst e0
    refine (Tryz.strconv_Itoa n h0 h1 w (tab_of_glob hG)).mono ?_
    rintro e w' ⟨rfl, k, os, rfl⟩
    have hsz : (grow (w.drewN k) os).heap.size = w.heap.size + os.size := by
      show ((w.drewN k).heap ++ os).size = _
      simp
    refine ⟨_, F, fun _ => none, rfl, ⟨rfl, rfl, rfl, by rw [hsz]; omega, fun j hj => ?_⟩, fun b h => .inl h, ?_, nothing_new (fun b h => by rw [hsz]; have := hF b h; omega)⟩
    · show ((w.drewN k).heap ++ os)[j]? = _
      rw [Array.getElem?_append_left (by simpa using hj)]
      simp
    · exact .d _ _ _ (.str ⟨(Lib.itoa n).toArray⟩)
  | [], hsz, _ => simp at hsz
  | _ :: _ :: _, hsz, _ => simp at hsz
end Go.Vm
end

section
namespace Go.Vm
open Go.Shelf Go.Proofs

theorem eTok_inj (a b : Tok) (h : eTok a = eTok b) : a = b := by
  cases a; cases b
  simp only [eTok, List.cons.injEq, D.int.injEq, D.str.injEq, true_and, and_true] at h
  simp only [Tok.mk.injEq]
  exact h
theorem mapT_inj : ∀ l l' : List Tok, l.map eTok = l'.map eTok → l = l'
  | [], [], _ => rfl
  | [], _ :: _, h => by simp at h
  | _ :: _, [], h => by simp at h
  | a :: l, b :: l', h => by
    simp only [List.map_cons, List.cons.injEq] at h
    rw [eTok_inj a b h.1, mapT_inj l l' h.2]
theorem mT (l l' : List Tok) : l.map eTok = l'.map eTok ↔ l = l' := ⟨mapT_inj l l', fun h => by rw [h]⟩
theorem vT_inj (t u : Tok) : vT t = vT u ↔ t = u := by
  constructor
  · intro h
    cases t; cases u
    simp only [vT, V.agg.injEq, List.cons.injEq, V.d.injEq, D.int.injEq, D.str.injEq, true_and, and_true] at h
    simp only [Tok.mk.injEq]
    exact h
  · intro h; rw [h]
theorem lexV_ease (s : BS) : (lexV0 s).ease = lexV s := by
  unfold lexV0 lexV
  split
  · rfl
  · split
    · rename_i h; rw [h]; rfl
    · rename_i h; rw [h]; rfl
    · rename_i h; rw [h]; rfl

noncomputable def z85 : Sp where
  α := UInt8
  f := 84
  ok := fun c => True
  args := fun c => [vS hexd, .d false (.int .u8 (c : UInt8).toNat)]
  res := fun c => (vI (hexB c), [])
  inj := by
    rintro c c' _ _ h
    simp only [vS, vI, slT, vT_inj, List.cons.injEq, V.agg.injEq, V.d.injEq, D.sl.injEq, D.int.injEq, D.str.injEq, D.ptr.injEq, Int.natCast_inj, UInt8.toNat_inj, mT, true_and, and_true] at h
    rw [h]
noncomputable def z38 : Sp where
  α := Int
  f := 49
  ok := fun n => (-9223372036854775808 ≤ n) ∧ (n ≤ 9223372036854775807)
  args := fun n => [vI n]
  res := fun n => (vS (Lib.itoa n), [])
  inj := by
    rintro n n' _ _ h
    simp only [vS, vI, slT, vT_inj, List.cons.injEq, V.agg.injEq, V.d.injEq, D.sl.injEq, D.int.injEq, D.str.injEq, D.ptr.injEq, Int.natCast_inj, UInt8.toNat_inj, mT, true_and, and_true] at h
    rw [h]
noncomputable def z27 : Sp where
  α := BS × Nat
  f := 12
  ok := fun (s, i) => (i ≤ s.length)
  args := fun (s, i) => [vS s, vI i]
  res := fun (s, i) => (.d false (.int .u8 (cls (s.drop i))), [])
  inj := by
    rintro ⟨s, i⟩ ⟨s', i'⟩ _ _ h
    simp only [vS, vI, slT, vT_inj, List.cons.injEq, V.agg.injEq, V.d.injEq, D.sl.injEq, D.int.injEq, D.str.injEq, D.ptr.injEq, Int.natCast_inj, UInt8.toNat_inj, mT, true_and, and_true] at h
    simp only [h]
noncomputable def z30 : Sp where
  α := BS × Nat × Nat
  f := 15
  ok := fun (s, i, k) => (i ≤ s.length) ∧ (s.length ≤ 2000000) ∧ (k ≠ 0)
  args := fun (s, i, k) => [vS s, vI i, .d false (.int .u8 k)]
  res := fun (s, i, k) => (vI ((i + runL k (s.drop i) : Nat)), [])
  inj := by
    rintro ⟨s, i, k⟩ ⟨s', i', k'⟩ _ _ h
    simp only [vS, vI, slT, vT_inj, List.cons.injEq, V.agg.injEq, V.d.injEq, D.sl.injEq, D.int.injEq, D.str.injEq, D.ptr.injEq, Int.natCast_inj, UInt8.toNat_inj, mT, true_and, and_true] at h
    simp only [h]
noncomputable def z48 : Sp where
  α := BS × Nat
  f := 46
  ok := fun (s, i) => (i ≤ s.length)
  args := fun (s, i) => [vS s, vI i]
  res := fun (s, i) => (.d false (.bool (inNm (s.drop i))), [])
  inj := by
    rintro ⟨s, i⟩ ⟨s', i'⟩ _ _ h
    simp only [vS, vI, slT, vT_inj, List.cons.injEq, V.agg.injEq, V.d.injEq, D.sl.injEq, D.int.injEq, D.str.injEq, D.ptr.injEq, Int.natCast_inj, UInt8.toNat_inj, mT, true_and, and_true] at h
    simp only [h]
noncomputable def z42 : Sp where
  α := BS × Nat
  f := 40
  ok := fun (s, i) => (i ≤ s.length) ∧ (s.length ≤ 2000000)
  args := fun (s, i) => [vS s, vI i]
  res := fun (s, i) => (vI ((i + nameL (s.drop i) : Nat)), [])
  inj := by
    rintro ⟨s, i⟩ ⟨s', i'⟩ _ _ h
    simp only [vS, vI, slT, vT_inj, List.cons.injEq, V.agg.injEq, V.d.injEq, D.sl.injEq, D.int.injEq, D.str.injEq, D.ptr.injEq, Int.natCast_inj, UInt8.toNat_inj, mT, true_and, and_true] at h
    simp only [h]
noncomputable def z40 : Sp where
  α := BS × BS
  f := 38
  ok := fun (p, s) => (s.length ≤ 2000000) ∧ (p.length ≤ 2000000)
  args := fun (p, s) => [vS s, vS p]
  res := fun (p, s) => (.d false (.bool (pre p s)), [])
  inj := by
    rintro ⟨p, s⟩ ⟨p', s'⟩ _ _ h
    simp only [vS, vI, slT, vT_inj, List.cons.injEq, V.agg.injEq, V.d.injEq, D.sl.injEq, D.int.injEq, D.str.injEq, D.ptr.injEq, Int.natCast_inj, UInt8.toNat_inj, mT, true_and, and_true] at h
    simp only [h]
noncomputable def z28 : Sp where
  α := BS × BS
  f := 13
  ok := fun (p, s) => (s.length ≤ 2000000) ∧ (p.length ≤ 2000000)
  args := fun (p, s) => [vS s, vS p]
  res := fun (p, s) => (.d false (.bool (pre p s)), [])
  inj := by
    rintro ⟨p, s⟩ ⟨p', s'⟩ _ _ h
    simp only [vS, vI, slT, vT_inj, List.cons.injEq, V.agg.injEq, V.d.injEq, D.sl.injEq, D.int.injEq, D.str.injEq, D.ptr.injEq, Int.natCast_inj, UInt8.toNat_inj, mT, true_and, and_true] at h
    simp only [h]
noncomputable def z43 : Sp where
  α := BS
  f := 41
  ok := fun s => True
  args := fun s => [vS s]
  res := fun s => (.d false (.bool (resv s)), [])
  inj := by
    rintro s s' _ _ h
    simp only [vS, vI, slT, vT_inj, List.cons.injEq, V.agg.injEq, V.d.injEq, D.sl.injEq, D.int.injEq, D.str.injEq, D.ptr.injEq, Int.natCast_inj, UInt8.toNat_inj, mT, true_and, and_true] at h
    rw [h]
noncomputable def z46 : Sp where
  α := BS
  f := 44
  ok := fun s => True
  args := fun s => [vS s]
  res := fun s => (.d false (.bool (isSg s)), [])
  inj := by
    rintro s s' _ _ h
    simp only [vS, vI, slT, vT_inj, List.cons.injEq, V.agg.injEq, V.d.injEq, D.sl.injEq, D.int.injEq, D.str.injEq, D.ptr.injEq, Int.natCast_inj, UInt8.toNat_inj, mT, true_and, and_true] at h
    rw [h]
noncomputable def z61 : Sp where
  α := BS × UInt8
  f := 62
  ok := fun (s, c) => (s.length ≤ 2000000)
  args := fun (s, c) => [vS s, .d false (.int .u8 (c : UInt8).toNat)]
  res := fun (s, c) => (vS (trL c s), [])
  inj := by
    rintro ⟨s, c⟩ ⟨s', c'⟩ _ _ h
    simp only [vS, vI, slT, vT_inj, List.cons.injEq, V.agg.injEq, V.d.injEq, D.sl.injEq, D.int.injEq, D.str.injEq, D.ptr.injEq, Int.natCast_inj, UInt8.toNat_inj, mT, true_and, and_true] at h
    simp only [h]
noncomputable def z62 : Sp where
  α := BS × UInt8
  f := 63
  ok := fun (s, c) => (s.length ≤ 2000000)
  args := fun (s, c) => [vS s, .d false (.int .u8 (c : UInt8).toNat)]
  res := fun (s, c) => (vS (trR c s), [])
  inj := by
    rintro ⟨s, c⟩ ⟨s', c'⟩ _ _ h
    simp only [vS, vI, slT, vT_inj, List.cons.injEq, V.agg.injEq, V.d.injEq, D.sl.injEq, D.int.injEq, D.str.injEq, D.ptr.injEq, Int.natCast_inj, UInt8.toNat_inj, mT, true_and, and_true] at h
    simp only [h]
noncomputable def z41 : Sp where
  α := BS
  f := 39
  ok := fun s => (s ≠ []) ∧ (s.length ≤ 2000000)
  args := fun s => [vS s, vS [45]]
  res := fun s => (vS (trL 45 (trR 45 s)), [])
  inj := by
    rintro s s' _ _ h
    simp only [vS, vI, slT, vT_inj, List.cons.injEq, V.agg.injEq, V.d.injEq, D.sl.injEq, D.int.injEq, D.str.injEq, D.ptr.injEq, Int.natCast_inj, UInt8.toNat_inj, mT, true_and, and_true] at h
    rw [h]
noncomputable def z31 : Sp where
  α := BS
  f := 16
  ok := fun s => (s.length ≤ 2000000)
  args := fun s => [vS s]
  res := fun s => (.d false (.bool (dsh s)), [])
  inj := by
    rintro s s' _ _ h
    simp only [vS, vI, slT, vT_inj, List.cons.injEq, V.agg.injEq, V.d.injEq, D.sl.injEq, D.int.injEq, D.str.injEq, D.ptr.injEq, Int.natCast_inj, UInt8.toNat_inj, mT, true_and, and_true] at h
    rw [h]
noncomputable def z29 : Sp where
  α := BS × Nat
  f := 14
  ok := fun (s, i) => (i ≤ s.length) ∧ (s.length ≤ 2000000)
  args := fun (s, i) => [vS s, vI i]
  res := fun (s, i) => (vI (match comL 0 (s.drop i) with | some n => ((i + n : Nat) : Int) | none => -1), [])
  inj := by
    rintro ⟨s, i⟩ ⟨s', i'⟩ _ _ h
    simp only [vS, vI, slT, vT_inj, List.cons.injEq, V.agg.injEq, V.d.injEq, D.sl.injEq, D.int.injEq, D.str.injEq, D.ptr.injEq, Int.natCast_inj, UInt8.toNat_inj, mT, true_and, and_true] at h
    simp only [h]
noncomputable def z68 : Sp where
  α := BS × Nat
  f := 69
  ok := fun (s, i) => (s.length ≤ 2000000)
  args := fun (s, i) => [vS s, vI i]
  res := fun (s, i) => (.d false (.int .u8 (bAt (s.drop i)).toNat), [])
  inj := by
    rintro ⟨s, i⟩ ⟨s', i'⟩ _ _ h
    simp only [vS, vI, slT, vT_inj, List.cons.injEq, V.agg.injEq, V.d.injEq, D.sl.injEq, D.int.injEq, D.str.injEq, D.ptr.injEq, Int.natCast_inj, UInt8.toNat_inj, mT, true_and, and_true] at h
    simp only [h]
noncomputable def z69 : Sp where
  α := BS × Nat
  f := 70
  ok := fun (s, i) => (s.length ≤ 2000000)
  args := fun (s, i) => [vS s, vI i]
  res := fun (s, i) => (vI (hexL (s.drop i)), [])
  inj := by
    rintro ⟨s, i⟩ ⟨s', i'⟩ _ _ h
    simp only [vS, vI, slT, vT_inj, List.cons.injEq, V.agg.injEq, V.d.injEq, D.sl.injEq, D.int.injEq, D.str.injEq, D.ptr.injEq, Int.natCast_inj, UInt8.toNat_inj, mT, true_and, and_true] at h
    simp only [h]
noncomputable def z44 : Sp where
  α := BS × Nat
  f := 42
  ok := fun (s, i) => (i ≤ s.length) ∧ (s.length ≤ 2000000)
  args := fun (s, i) => [vS s, vI i]
  res := fun (s, i) => (.tup [vI (upS (s.drop i)).1, vI ((i + (upS (s.drop i)).2 : Nat))], [])
  inj := by
    rintro ⟨s, i⟩ ⟨s', i'⟩ _ _ h
    simp only [vS, vI, slT, vT_inj, List.cons.injEq, V.agg.injEq, V.d.injEq, D.sl.injEq, D.int.injEq, D.str.injEq, D.ptr.injEq, Int.natCast_inj, UInt8.toNat_inj, mT, true_and, and_true] at h
    simp only [h]
noncomputable def z70 : Sp where
  α := BS × Nat × UInt8
  f := 71
  ok := fun (s, i, q) => (s.length ≤ 2000000) ∧ (i ≤ s.length)
  args := fun (s, i, q) => [vS s, vI i, .d false (.int .u8 (q : UInt8).toNat)]
  res := fun (s, i, q) => (vSound i (soundS (s.drop i) q), [])
  inj := by
    rintro ⟨s, i, q⟩ ⟨s', i', q'⟩ _ _ h
    simp only [vS, vI, slT, vT_inj, List.cons.injEq, V.agg.injEq, V.d.injEq, D.sl.injEq, D.int.injEq, D.str.injEq, D.ptr.injEq, Int.natCast_inj, UInt8.toNat_inj, mT, true_and, and_true] at h
    simp only [h]
noncomputable def z45 : Sp where
  α := BS × Nat
  f := 43
  ok := fun (s, i) => (i < s.length) ∧ (s.length ≤ 2000000)
  args := fun (s, i) => [vS s, vI i]
  res := fun (s, i) => (stV i (numS (s.drop i)), [])
  inj := by
    rintro ⟨s, i⟩ ⟨s', i'⟩ _ _ h
    simp only [vS, vI, slT, vT_inj, List.cons.injEq, V.agg.injEq, V.d.injEq, D.sl.injEq, D.int.injEq, D.str.injEq, D.ptr.injEq, Int.natCast_inj, UInt8.toNat_inj, mT, true_and, and_true] at h
    simp only [h]
noncomputable def z47 : Sp where
  α := BS × Nat
  f := 45
  ok := fun (s, i) => (i < s.length) ∧ (s.length ≤ 2000000) ∧ ((bAt (s.drop i) = 34 ∨ bAt (s.drop i) = 39))
  args := fun (s, i) => [vS s, vI i]
  res := fun (s, i) => (stV i (quotS (s.drop i)), [])
  inj := by
    rintro ⟨s, i⟩ ⟨s', i'⟩ _ _ h
    simp only [vS, vI, slT, vT_inj, List.cons.injEq, V.agg.injEq, V.d.injEq, D.sl.injEq, D.int.injEq, D.str.injEq, D.ptr.injEq, Int.natCast_inj, UInt8.toNat_inj, mT, true_and, and_true] at h
    simp only [h]
noncomputable def z32 : Sp where
  α := BS × Nat
  f := 17
  ok := fun (s, i) => (i < s.length) ∧ (s.length ≤ 2000000)
  args := fun (s, i) => [vS s, vI i]
  res := fun (s, i) => (stV i (tokS (s.drop i)), [])
  inj := by
    rintro ⟨s, i⟩ ⟨s', i'⟩ _ _ h
    simp only [vS, vI, slT, vT_inj, List.cons.injEq, V.agg.injEq, V.d.injEq, D.sl.injEq, D.int.injEq, D.str.injEq, D.ptr.injEq, Int.natCast_inj, UInt8.toNat_inj, mT, true_and, and_true] at h
    simp only [h]
noncomputable def z13 : Sp where
  α := BS
  f := 6
  ok := fun s => (s.length ≤ 2000000)
  args := fun s => [vS s]
  res := fun s => (lexV s, [])
  inj := by
    rintro s s' _ _ h
    simp only [vS, vI, slT, vT_inj, List.cons.injEq, V.agg.injEq, V.d.injEq, D.sl.injEq, D.int.injEq, D.str.injEq, D.ptr.injEq, Int.natCast_inj, UInt8.toNat_inj, mT, true_and, and_true] at h
    rw [h]
noncomputable def z39 : Sp where
  α := BS × UInt8
  f := 50
  ok := fun (s, q) => (s.length ≤ 2000000) ∧ ((q = 39 ∨ q = 34))
  args := fun (s, q) => [vS s, .d false (.int .u8 (q : UInt8).toNat)]
  res := fun (s, q) => (vS (escS s q), [])
  inj := by
    rintro ⟨s, q⟩ ⟨s', q'⟩ _ _ h
    simp only [vS, vI, slT, vT_inj, List.cons.injEq, V.agg.injEq, V.d.injEq, D.sl.injEq, D.int.injEq, D.str.injEq, D.ptr.injEq, Int.natCast_inj, UInt8.toNat_inj, mT, true_and, and_true] at h
    simp only [h]
noncomputable def z25 : Sp where
  α := Tok
  f := 23
  ok := fun t => (TokI t)
  args := fun t => [vT t]
  res := fun t => (vS (writS t), [])
  inj := by
    rintro t t' _ _ h
    simp only [vS, vI, slT, vT_inj, List.cons.injEq, V.agg.injEq, V.d.injEq, D.sl.injEq, D.int.injEq, D.str.injEq, D.ptr.injEq, Int.natCast_inj, UInt8.toNat_inj, mT, true_and, and_true] at h
    rw [h]
noncomputable def z21 : Sp where
  α := Tok
  f := 19
  ok := fun t => (TokI t)
  args := fun t => [vT t]
  res := fun t => (.d false (.bool (escTokS t)), [])
  inj := by
    rintro t t' _ _ h
    simp only [vS, vI, slT, vT_inj, List.cons.injEq, V.agg.injEq, V.d.injEq, D.sl.injEq, D.int.injEq, D.str.injEq, D.ptr.injEq, Int.natCast_inj, UInt8.toNat_inj, mT, true_and, and_true] at h
    rw [h]
noncomputable def z11 : Sp where
  α := List Tok
  f := 10
  ok := fun l => (TokL l)
  args := fun l => [slT l]
  res := fun l => (printV l, [])
  inj := by
    rintro l l' _ _ h
    simp only [vS, vI, slT, vT_inj, List.cons.injEq, V.agg.injEq, V.d.injEq, D.sl.injEq, D.int.injEq, D.str.injEq, D.ptr.injEq, Int.natCast_inj, UInt8.toNat_inj, mT, true_and, and_true] at h
    rw [h]
noncomputable def z12 : Sp where
  α := List Tok × List Tok
  f := 8
  ok := fun (a, b) => (a.length ≤ 4611686018427387903) ∧ (b.length ≤ 4611686018427387903)
  args := fun (a, b) => [slT a, slT b]
  res := fun (a, b) => (.d false (.bool (decide (a = b))), [])
  inj := by
    rintro ⟨a, b⟩ ⟨a', b'⟩ _ _ h
    simp only [vS, vI, slT, vT_inj, List.cons.injEq, V.agg.injEq, V.d.injEq, D.sl.injEq, D.int.injEq, D.str.injEq, D.ptr.injEq, Int.natCast_inj, UInt8.toNat_inj, mT, true_and, and_true] at h
    simp only [h]
noncomputable def z9 : Sp where
  α := Unit
  f := 4
  ok := fun u => True
  args := fun u => []
  res := fun u => (.d false (.bool true), [])
  inj := by
    rintro u u' _ _ h
    rfl
noncomputable def y22 : Se where
  α := BS × UInt8
  f := 20
  ok := fun (b, c) => b.length ≤ 100000000
  args := fun (b, c) => [.ptr 0 0 0, .d false (.int .u8 (c : UInt8).toNat)]
  blks := fun (b, c) => [bldB 58 1 b.length, bufB 5 b]
  res := fun (b, c) => (.d false .nilif, [bldB 58 1 (b ++ [c]).length, bufB 5 (b ++ [c])], [1])
  inj := by
    rintro ⟨b, c⟩ ⟨b', c'⟩ _ _ h g
    simp only [vS, vI, bldB, bufB, List.cons.injEq, V.d.injEq, D.int.injEq, D.str.injEq, Blk.map.injEq, Prod.mk.injEq, Int.natCast_inj, UInt8.toNat_inj, true_and, and_true] at h g
    simp only [h, g]
noncomputable def y24 : Se where
  α := BS × BS
  f := 22
  ok := fun (b, s) => b.length ≤ 100000000 ∧ s.length ≤ 100000000
  args := fun (b, s) => [.ptr 0 0 0, vS s]
  blks := fun (b, s) => [bldB 58 1 b.length, bufB 5 b]
  res := fun (b, s) => (.tup [vI s.length, .d false .nilif], [bldB 58 1 (b ++ s).length, bufB 5 (b ++ s)], [1])
  inj := by
    rintro ⟨b, s⟩ ⟨b', s'⟩ _ _ h g
    simp only [vS, vI, bldB, bufB, List.cons.injEq, V.d.injEq, D.int.injEq, D.str.injEq, Blk.map.injEq, Prod.mk.injEq, Int.natCast_inj, UInt8.toNat_inj, true_and, and_true] at h g
    simp only [h, g]
noncomputable def y23 : Se where
  α := BS
  f := 21
  ok := fun b => True
  args := fun b => [.ptr 0 0 0]
  blks := fun b => [bldB 58 1 b.length, bufB 5 b]
  res := fun b => (vI b.length, [bldB 58 1 b.length, bufB 5 b], [])
  inj := by
    rintro b b' _ _ h g
    simp only [vS, vI, bldB, bufB, List.cons.injEq, V.d.injEq, D.int.injEq, D.str.injEq, Blk.map.injEq, Prod.mk.injEq, Int.natCast_inj, UInt8.toNat_inj, true_and, and_true] at h g
    simp only [g]
noncomputable def y26 : Se where
  α := BS
  f := 24
  ok := fun b => True
  args := fun b => [.ptr 0 0 0]
  blks := fun b => [bldB 58 1 b.length, bufB 5 b]
  res := fun b => (vS b, [bldB 58 1 b.length, bufB 5 b], [1])
  inj := by
    rintro b b' _ _ h g
    simp only [vS, vI, bldB, bufB, List.cons.injEq, V.d.injEq, D.int.injEq, D.str.injEq, Blk.map.injEq, Prod.mk.injEq, Int.natCast_inj, UInt8.toNat_inj, true_and, and_true] at h g
    simp only [g]
theorem e22_of {L E} (h : HasE E y22) : E22 (cx GT L E) := fun b c h1 => h (b, c) h1
theorem e24_of {L E} (h : HasE E y24) : E24 (cx GT L E) := fun b s h1 h2 => h (b, s) ⟨h1, h2⟩
theorem e23_of {L E} (h : HasE E y23) : E23 (cx GT L E) := fun b => h b trivial
theorem e26_of {L E} (h : HasE E y26) : E26 (cx GT L E) := fun b => h b trivial
theorem k85_of {L E} (h : Has L z85) : K85 (cx GT L E) := fun c => h c trivial
theorem k38_of {L E} (h : Has L z38) : K38 (cx GT L E) := fun n h1 h2 => h n ⟨h1, h2⟩
theorem k27_of {L E} (h : Has L z27) : K27 (cx GT L E) := fun s i h1 => h (s, i) h1
theorem k30_of {L E} (h : Has L z30) : K30 (cx GT L E) := fun s i k h1 h2 h3 => h (s, i, k) ⟨h1, h2, h3⟩
theorem k48_of {L E} (h : Has L z48) : K48 (cx GT L E) := fun s i h1 => h (s, i) h1
theorem k42_of {L E} (h : Has L z42) : K42 (cx GT L E) := fun s i h1 h2 => h (s, i) ⟨h1, h2⟩
theorem k40_of {L E} (h : Has L z40) : K40 (cx GT L E) := fun p s h1 h2 => h (p, s) ⟨h1, h2⟩
theorem k28_of {L E} (h : Has L z28) : K28 (cx GT L E) := fun p s h1 h2 => h (p, s) ⟨h1, h2⟩
theorem k43_of {L E} (h : Has L z43) : K43 (cx GT L E) := fun s => h s trivial
theorem k46_of {L E} (h : Has L z46) : K46 (cx GT L E) := fun s => h s trivial
theorem k61_of {L E} (h : Has L z61) : K61 (cx GT L E) := fun s c h1 => h (s, c) h1
theorem k62_of {L E} (h : Has L z62) : K62 (cx GT L E) := fun s c h1 => h (s, c) h1
theorem k41_of {L E} (h : Has L z41) : K41 (cx GT L E) := fun s h1 h2 => h s ⟨h1, h2⟩
theorem k31_of {L E} (h : Has L z31) : K31 (cx GT L E) := fun s h1 => h s h1
theorem k29_of {L E} (h : Has L z29) : K29 (cx GT L E) := fun s i h1 h2 => h (s, i) ⟨h1, h2⟩
theorem k68_of {L E} (h : Has L z68) : K68 (cx GT L E) := fun s i h1 => h (s, i) h1
theorem k69_of {L E} (h : Has L z69) : K69 (cx GT L E) := fun s i h1 => h (s, i) h1
theorem k44_of {L E} (h : Has L z44) : K44 (cx GT L E) := fun s i h1 h2 => h (s, i) ⟨h1, h2⟩
theorem k70_of {L E} (h : Has L z70) : K70 (cx GT L E) := fun s i q h1 h2 => h (s, i, q) ⟨h1, h2⟩
theorem k45_of {L E} (h : Has L z45) : K45 (cx GT L E) := fun s i h1 h2 => h (s, i) ⟨h1, h2⟩
theorem k47_of {L E} (h : Has L z47) : K47 (cx GT L E) := fun s i h1 h2 h3 => h (s, i) ⟨h1, h2, h3⟩
theorem k32_of {L E} (h : Has L z32) : K32 (cx GT L E) := fun s i h1 h2 => h (s, i) ⟨h1, h2⟩
theorem k13_of {L E} (h : Has L z13) : K13 (cx GT L E) := fun s h1 => h s h1
theorem k39_of {L E} (h : Has L z39) : K39 (cx GT L E) := fun s q h1 h2 => h (s, q) ⟨h1, h2⟩
theorem k25_of {L E} (h : Has L z25) : K25 (cx GT L E) := fun t h1 => h t h1
theorem k21_of {L E} (h : Has L z21) : K21 (cx GT L E) := fun t h1 => h t h1
theorem k11_of {L E} (h : Has L z11) : K11 (cx GT L E) := fun l h1 => h l h1
theorem k12_of {L E} (h : Has L z12) : K12 (cx GT L E) := fun a b h1 h2 => h (a, b) ⟨h1, h2⟩
theorem mixedD : Tryz.prog.follows .mixedOrders = true := by kernel_rfl
noncomputable def EE : List Se := [y22, y23, y24, y26]
theorem he22 : HasE EE y22 := hasE_head _ _
theorem he23 : HasE EE y23 := hasE_tail (hasE_head _ _) (by decide)
theorem he24 : HasE EE y24 := hasE_tail (hasE_tail (hasE_head _ _) (by decide)) (by decide)
theorem he26 : HasE EE y26 := hasE_tail (hasE_tail (hasE_tail (hasE_head _ _) (by decide)) (by decide)) (by decide)
theorem y22h : y22.Holds Tryz.prog GT := fun ⟨b, c⟩ h => ⟨by kernel_rfl, eff_WriteByte tB_wb b c (by have h : b.length ≤ 100000000 := h; omega)⟩
theorem y24h : y24.Holds Tryz.prog GT := fun ⟨b, s⟩ h => ⟨by kernel_rfl, eff_WriteString tB_ws b s (by have h : b.length ≤ 100000000 ∧ s.length ≤ 100000000 := h; omega)⟩
theorem y23h : y23.Holds Tryz.prog GT := fun b _ => ⟨by kernel_rfl, eff_Len Tryz.lays170 b⟩
theorem y26h : y26.Holds Tryz.prog GT := fun b _ => ⟨by kernel_rfl, eff_String Tryz.lays169 Tryz.Builder_Extra_169 b⟩
noncomputable def N0 : List Sp := []
theorem zn0 : Known Tryz.prog GT N0 EE := (((Known.nil.putE y26h).putE y24h).putE y23h).putE y22h
noncomputable def N1 : List Sp := z85 :: N0
theorem zn1 : Known Tryz.prog GT N1 EE := by
  exact zn0.put (fun c _ => ⟨by kernel_rfl, pure_index c⟩)
noncomputable def N2 : List Sp := z38 :: N1
theorem zn2 : Known Tryz.prog GT N2 EE := by
  exact zn1.put (fun n ⟨h1, h2⟩ => ⟨by kernel_rfl, pure_itoa n h1 h2⟩)
noncomputable def N3 : List Sp := z27 :: N2
theorem zn3 : Known Tryz.prog GT N3 EE := by
  exact zn2.add mixedD (fun ⟨s, i⟩ _ => f27_ok) (fun ⟨s, i⟩ h1 => ⟨_, ev_class (cx GT N2 EE) (show (cx GT N2 EE).glob 0 = _ from rfl) s i h1⟩)
noncomputable def N4 : List Sp := z30 :: N3
theorem zn4 : Known Tryz.prog GT N4 EE := by
  have k27 := k27_of (E := EE) (show Has N3 z27 by repeat (first | exact has_head _ _ | refine has_tail ?_ (by decide)))
  exact zn3.add mixedD (fun ⟨s, i, k⟩ _ => f30_ok) (fun ⟨s, i, k⟩ ⟨h1, h2, h3⟩ => ⟨_, ev_run _ k27 s i k h1 h2 h3⟩)
noncomputable def N5 : List Sp := z48 :: N4
theorem zn5 : Known Tryz.prog GT N5 EE := by
  have k27 := k27_of (E := EE) (show Has N4 z27 by repeat (first | exact has_head _ _ | refine has_tail ?_ (by decide)))
  exact zn4.add mixedD (fun ⟨s, i⟩ _ => f48_ok) (fun ⟨s, i⟩ h1 => ⟨_, ev_inName _ k27 s i h1⟩)
noncomputable def N6 : List Sp := z42 :: N5
theorem zn6 : Known Tryz.prog GT N6 EE := by
  have k48 := k48_of (E := EE) (show Has N5 z48 by repeat (first | exact has_head _ _ | refine has_tail ?_ (by decide)))
  exact zn5.add mixedD (fun ⟨s, i⟩ _ => f42_ok) (fun ⟨s, i⟩ ⟨h1, h2⟩ => ⟨_, ev_name _ k48 s i h1 h2⟩)
noncomputable def N7 : List Sp := z40 :: N6
theorem zn7 : Known Tryz.prog GT N7 EE := by
  exact zn6.add mixedD (fun ⟨p, s⟩ _ => f40_ok) (fun ⟨p, s⟩ ⟨h1, h2⟩ => ⟨_, ev_pre _ p s h1 h2⟩)
noncomputable def N8 : List Sp := z28 :: N7
theorem zn8 : Known Tryz.prog GT N8 EE := by
  have k40 := k40_of (E := EE) (show Has N7 z40 by repeat (first | exact has_head _ _ | refine has_tail ?_ (by decide)))
  exact zn7.add mixedD (fun ⟨p, s⟩ _ => f28_ok) (fun ⟨p, s⟩ ⟨h1, h2⟩ => ⟨_, ev_hasPrefix _ k40 p s h1 h2⟩)
noncomputable def N9 : List Sp := z43 :: N8
theorem zn9 : Known Tryz.prog GT N9 EE := by
  exact zn8.add mixedD (fun s _ => f43_ok) (fun s _ => ⟨_, ev_reserved _ s⟩)
noncomputable def N10 : List Sp := z46 :: N9
theorem zn10 : Known Tryz.prog GT N10 EE := by
  exact zn9.add mixedD (fun s _ => f46_ok) (fun s _ => ⟨_, ev_isSign _ s⟩)
noncomputable def N11 : List Sp := z61 :: N10
theorem zn11 : Known Tryz.prog GT N11 EE := by
  exact zn10.add mixedD (fun ⟨s, c⟩ _ => f61_ok) (fun ⟨s, c⟩ h1 => ⟨_, ev_trimLeft _ s c h1⟩)
noncomputable def N12 : List Sp := z62 :: N11
theorem zn12 : Known Tryz.prog GT N12 EE := by
  exact zn11.add mixedD (fun ⟨s, c⟩ _ => f62_ok) (fun ⟨s, c⟩ h1 => ⟨_, ev_trimRight _ s c h1⟩)
noncomputable def N13 : List Sp := z41 :: N12
theorem zn13 : Known Tryz.prog GT N13 EE := by
  have k61 := k61_of (E := EE) (show Has N12 z61 by repeat (first | exact has_head _ _ | refine has_tail ?_ (by decide)))
  have k62 := k62_of (E := EE) (show Has N12 z62 by repeat (first | exact has_head _ _ | refine has_tail ?_ (by decide)))
  exact zn12.add mixedD (fun s _ => f41_ok) (fun s ⟨h1, h2⟩ => ⟨_, ev_trim _ k61 k62 s h1 h2⟩)
noncomputable def N14 : List Sp := z31 :: N13
theorem zn14 : Known Tryz.prog GT N14 EE := by
  have k41 := k41_of (E := EE) (show Has N13 z41 by repeat (first | exact has_head _ _ | refine has_tail ?_ (by decide)))
  exact zn13.add mixedD (fun s _ => f31_ok) (fun s h1 => ⟨_, ev_dashes _ k41 s h1⟩)
noncomputable def N15 : List Sp := z29 :: N14
theorem zn15 : Known Tryz.prog GT N15 EE := by
  exact zn14.add mixedD (fun ⟨s, i⟩ _ => f29_ok) (fun ⟨s, i⟩ ⟨h1, h2⟩ => ⟨_, ev_comment _ s i h1 h2⟩)
noncomputable def N16 : List Sp := z68 :: N15
theorem zn16 : Known Tryz.prog GT N16 EE := by
  exact zn15.add mixedD (fun ⟨s, i⟩ _ => f68_ok) (fun ⟨s, i⟩ h1 => ⟨_, ev_byteAt _ s i h1⟩)
noncomputable def N17 : List Sp := z69 :: N16
theorem zn17 : Known Tryz.prog GT N17 EE := by
  have k68 := k68_of (E := EE) (show Has N16 z68 by repeat (first | exact has_head _ _ | refine has_tail ?_ (by decide)))
  have k85 := k85_of (E := EE) (show Has N16 z85 by repeat (first | exact has_head _ _ | refine has_tail ?_ (by decide)))
  exact zn16.add mixedD (fun ⟨s, i⟩ _ => f69_ok) (fun ⟨s, i⟩ h1 => ⟨_, ev_hex _ k68 k85 s i h1⟩)
noncomputable def N18 : List Sp := z44 :: N17
theorem zn18 : Known Tryz.prog GT N18 EE := by
  have k42 := k42_of (E := EE) (show Has N17 z42 by repeat (first | exact has_head _ _ | refine has_tail ?_ (by decide)))
  have k27 := k27_of (E := EE) (show Has N17 z27 by repeat (first | exact has_head _ _ | refine has_tail ?_ (by decide)))
  have k43 := k43_of (E := EE) (show Has N17 z43 by repeat (first | exact has_head _ _ | refine has_tail ?_ (by decide)))
  exact zn17.add mixedD (fun ⟨s, i⟩ _ => f44_ok) (fun ⟨s, i⟩ ⟨h1, h2⟩ => ⟨_, ev_upper _ k42 k27 k43 s i h1 h2⟩)
noncomputable def N19 : List Sp := z70 :: N18
theorem zn19 : Known Tryz.prog GT N19 EE := by
  have k68 := k68_of (E := EE) (show Has N18 z68 by repeat (first | exact has_head _ _ | refine has_tail ?_ (by decide)))
  have k27 := k27_of (E := EE) (show Has N18 z27 by repeat (first | exact has_head _ _ | refine has_tail ?_ (by decide)))
  exact zn18.add mixedD (fun ⟨s, i, q⟩ _ => f70_ok) (fun ⟨s, i, q⟩ ⟨h1, h2⟩ => ⟨_, ev_sound _ k68 k27 s i q h1 h2⟩)
noncomputable def N20 : List Sp := z45 :: N19
theorem zn20 : Known Tryz.prog GT N20 EE := by
  have k68 := k68_of (E := EE) (show Has N19 z68 by repeat (first | exact has_head _ _ | refine has_tail ?_ (by decide)))
  have k69 := k69_of (E := EE) (show Has N19 z69 by repeat (first | exact has_head _ _ | refine has_tail ?_ (by decide)))
  have k48 := k48_of (E := EE) (show Has N19 z48 by repeat (first | exact has_head _ _ | refine has_tail ?_ (by decide)))
  exact zn19.add mixedD (fun ⟨s, i⟩ _ => f45_ok) (fun ⟨s, i⟩ ⟨h1, h2⟩ => ⟨_, ev_number _ k68 k69 k48 s i h1 h2⟩)
noncomputable def N21 : List Sp := z47 :: N20
theorem zn21 : Known Tryz.prog GT N21 EE := by
  have k68 := k68_of (E := EE) (show Has N20 z68 by repeat (first | exact has_head _ _ | refine has_tail ?_ (by decide)))
  have k70 := k70_of (E := EE) (show Has N20 z70 by repeat (first | exact has_head _ _ | refine has_tail ?_ (by decide)))
  exact zn20.add mixedD (fun ⟨s, i⟩ _ => f47_ok) (fun ⟨s, i⟩ ⟨h1, h2, h3⟩ => ⟨_, ev_quoted _ k68 k70 s i h1 h2 h3⟩)
noncomputable def N22 : List Sp := z32 :: N21
theorem zn22 : Known Tryz.prog GT N22 EE := by
  have k27 := k27_of (E := EE) (show Has N21 z27 by repeat (first | exact has_head _ _ | refine has_tail ?_ (by decide)))
  have k42 := k42_of (E := EE) (show Has N21 z42 by repeat (first | exact has_head _ _ | refine has_tail ?_ (by decide)))
  have k43 := k43_of (E := EE) (show Has N21 z43 by repeat (first | exact has_head _ _ | refine has_tail ?_ (by decide)))
  have k44 := k44_of (E := EE) (show Has N21 z44 by repeat (first | exact has_head _ _ | refine has_tail ?_ (by decide)))
  have k45 := k45_of (E := EE) (show Has N21 z45 by repeat (first | exact has_head _ _ | refine has_tail ?_ (by decide)))
  have k30 := k30_of (E := EE) (show Has N21 z30 by repeat (first | exact has_head _ _ | refine has_tail ?_ (by decide)))
  have k46 := k46_of (E := EE) (show Has N21 z46 by repeat (first | exact has_head _ _ | refine has_tail ?_ (by decide)))
  have k47 := k47_of (E := EE) (show Has N21 z47 by repeat (first | exact has_head _ _ | refine has_tail ?_ (by decide)))
  have k48 := k48_of (E := EE) (show Has N21 z48 by repeat (first | exact has_head _ _ | refine has_tail ?_ (by decide)))
  exact zn21.add mixedD (fun ⟨s, i⟩ _ => f32_ok) (fun ⟨s, i⟩ ⟨h1, h2⟩ => ⟨_, ev_token _ k27 k42 k43 k44 k45 k30 k46 k47 k48 s i h1 h2⟩)
noncomputable def N23 : List Sp := z13 :: N22
theorem zn23 : Known Tryz.prog GT N23 EE := by
  have k27 := k27_of (E := EE) (show Has N22 z27 by repeat (first | exact has_head _ _ | refine has_tail ?_ (by decide)))
  have k28 := k28_of (E := EE) (show Has N22 z28 by repeat (first | exact has_head _ _ | refine has_tail ?_ (by decide)))
  have k29 := k29_of (E := EE) (show Has N22 z29 by repeat (first | exact has_head _ _ | refine has_tail ?_ (by decide)))
  have k30 := k30_of (E := EE) (show Has N22 z30 by repeat (first | exact has_head _ _ | refine has_tail ?_ (by decide)))
  have k31 := k31_of (E := EE) (show Has N22 z31 by repeat (first | exact has_head _ _ | refine has_tail ?_ (by decide)))
  have k32 := k32_of (E := EE) (show Has N22 z32 by repeat (first | exact has_head _ _ | refine has_tail ?_ (by decide)))
  exact zn22.addEase mixedD (fun s _ => f13_ok) (fun s h1 => ⟨_, _, ev_Lex _ k27 k28 k29 k30 k31 k32 s h1, lexV_ease s⟩)
noncomputable def N24 : List Sp := z39 :: N23
theorem zn24 : Known Tryz.prog GT N24 EE := by
  have k38 := k38_of (E := EE) (show Has N23 z38 by repeat (first | exact has_head _ _ | refine has_tail ?_ (by decide)))
  have e22 := e22_of (L := N23) he22
  have e24 := e24_of (L := N23) he24
  have e26 := e26_of (L := N23) he26
  exact zn23.add mixedD (fun ⟨s, q⟩ _ => f39_ok) (fun ⟨s, q⟩ ⟨h1, h2⟩ => ⟨_, ev_escaped _ e22 e24 e26 k38 s h1 q h2⟩)
noncomputable def N25 : List Sp := z25 :: N24
theorem zn25 : Known Tryz.prog GT N25 EE := by
  have k38 := k38_of (E := EE) (show Has N24 z38 by repeat (first | exact has_head _ _ | refine has_tail ?_ (by decide)))
  have k39 := k39_of (E := EE) (show Has N24 z39 by repeat (first | exact has_head _ _ | refine has_tail ?_ (by decide)))
  exact zn24.add mixedD (fun t _ => f25_ok) (fun t h1 => ⟨_, ev_written _ k38 k39 t h1⟩)
noncomputable def N26 : List Sp := z21 :: N25
theorem zn26 : Known Tryz.prog GT N26 EE := by
  have k27 := k27_of (E := EE) (show Has N25 z27 by repeat (first | exact has_head _ _ | refine has_tail ?_ (by decide)))
  have k31 := k31_of (E := EE) (show Has N25 z31 by repeat (first | exact has_head _ _ | refine has_tail ?_ (by decide)))
  have k32 := k32_of (E := EE) (show Has N25 z32 by repeat (first | exact has_head _ _ | refine has_tail ?_ (by decide)))
  exact zn25.add mixedD (fun t _ => f21_ok) (fun t h1 => ⟨_, ev_isToken _ k27 k31 k32 t h1⟩)
noncomputable def N27 : List Sp := z11 :: N26
theorem zn27 : Known Tryz.prog GT N27 EE := by
  have k21 := k21_of (E := EE) (show Has N26 z21 by repeat (first | exact has_head _ _ | refine has_tail ?_ (by decide)))
  have k25 := k25_of (E := EE) (show Has N26 z25 by repeat (first | exact has_head _ _ | refine has_tail ?_ (by decide)))
  have e22 := e22_of (L := N26) he22
  have e23 := e23_of (L := N26) he23
  have e24 := e24_of (L := N26) he24
  have e26 := e26_of (L := N26) he26
  exact zn26.add mixedD (fun l _ => f11_ok) (fun l h1 => ⟨_, ev_Print _ k21 e22 e23 e24 k25 e26 l h1⟩)
noncomputable def N28 : List Sp := z12 :: N27
theorem zn28 : Known Tryz.prog GT N28 EE := by
  exact zn27.add mixedD (fun ⟨a, b⟩ _ => f12_ok) (fun ⟨a, b⟩ ⟨h1, h2⟩ => ⟨_, ev_same _ a b h1 h2⟩)
noncomputable def N29 : List Sp := z9 :: N28
theorem zn29 : Known Tryz.prog GT N29 EE := by
  have k13 := k13_of (E := EE) (show Has N28 z13 by repeat (first | exact has_head _ _ | refine has_tail ?_ (by decide)))
  have k12 := k12_of (E := EE) (show Has N28 z12 by repeat (first | exact has_head _ _ | refine has_tail ?_ (by decide)))
  have k11 := k11_of (E := EE) (show Has N28 z11 by repeat (first | exact has_head _ _ | refine has_tail ?_ (by decide)))
  exact zn28.add mixedD (fun u _ => f9_ok) (fun u _ => ⟨_, ev_awake _ k13 k12 k11⟩)
end Go.Vm
end

section
namespace Go.Vm
open Go.Proofs Go.RowKit Go.Extern.Stop Go.Stop Go.Extern
theorem As.valueOf27 (t : Addr) (w : World) : (ReflectliteValue.unpack (.iface 73 (.pointer (some t)))).run Tryz.prog w
    = .ok (.agg #[.pointer (some ⟨8, 73, none⟩), .pointer (some ⟨w.heap.size, 0, none⟩), .int .u64 150]) (w.alloc (.cells #[.pointer (some t)] 73)) := by kernel_rfl
theorem As.type27 (a : Addr) (w : World) : (ReflectliteValue.methodAny (ReflectliteValue.valueError "reflectlite.Value.Type" 0) (fun t _ _ _ => ReflectliteType.toType t) #[.agg #[.pointer (some ⟨8, 73, none⟩), .pointer (some a), .int .u64 150]]).run Tryz.prog w
    = .ok (.iface 108 (.agg #[.pointer (some ⟨8, 73, none⟩)])) w := by kernel_rfl
theorem As.methodKind (h : Value) (w : World) : (Go.method 272 108 (.agg #[h]) "Kind").run Tryz.prog w = .ok (122, h) w := by kernel_rfl
theorem As.kind27 (w : World) : ((ReflectliteType.abiMethod fun t => (fun a : Nat => Value.int IntKind.u8 (a : Int)) <$> Rtype.kind t) #[.pointer (some ⟨8, 73, none⟩)]).run Tryz.prog w = .ok (.int .u8 22) w := by kernel_rfl
theorem As.kind25 (w : World) : ((ReflectliteType.abiMethod fun t => (fun a : Nat => Value.int IntKind.u8 (a : Int)) <$> Rtype.kind t) #[.pointer (some ⟨8, 45, none⟩)]).run Tryz.prog w = .ok (.int .u8 22) w := by kernel_rfl

theorem rlm (z : Sem Value) (f : TypeId → Addr → Nat → Nat → Sem Value) (v : Value) :
    ReflectliteValue.method z f #[v] = (do match ← ReflectliteValue.parts v with | none => z | some (t, a, fl) => f t a fl (fl % 32)) := rfl
theorem As.parts27 (a : Addr) (w : World) : (ReflectliteValue.parts (.agg #[.pointer (some ⟨8, 73, none⟩), .pointer (some a), .int .u64 150])).run Tryz.prog w = .ok (some (73, a, 150)) w := by kernel_rfl
theorem As.isNil27 (a p : Addr) (W : World) (ha : W.cell? a = some (.pointer (some p))) :
    (ReflectliteValue.method (ReflectliteValue.valueError "reflectlite.Value.IsNil" 0) ReflectliteValue.isNil #[.agg #[.pointer (some ⟨8, 73, none⟩), .pointer (some a), .int .u64 150]]).run Tryz.prog W = .ok (.bool false) W := by
  rw [rlm]
  simp only [Sem.run_bind, As.parts27, Result.andThen]
  simp [ReflectliteValue.isNil, loadVar, isAgg, underlying, Tryz.underlying73, ha, Result.andThen]

theorem As.methodElem (h : Value) (w : World) : (Go.method 272 108 (.agg #[h]) "Elem").run Tryz.prog w = .ok (135, .agg #[h]) w := by kernel_rfl
theorem As.methodImplements (h : Value) (w : World) : (Go.method 272 108 (.agg #[h]) "Implements").run Tryz.prog w = .ok (136, .agg #[h]) w := by kernel_rfl
theorem As.methodAssignableTo (h : Value) (w : World) : (Go.method 272 108 (.agg #[h]) "AssignableTo").run Tryz.prog w = .ok (133, .agg #[h]) w := by kernel_rfl
theorem As.elem27 (w : World) : (ReflectliteType.method ReflectliteType.elem #[.agg #[.pointer (some ⟨8, 73, none⟩)]]).run Tryz.prog w = .ok (.iface 108 (.agg #[.pointer (some ⟨8, 45, none⟩)])) w := by kernel_rfl
theorem As.implements25 (w : World) : (ReflectliteType.relation "Implements" ReflectliteType.implements_ #[.agg #[.pointer (some ⟨8, 45, none⟩)], .iface 108 (.agg #[.pointer (some ⟨8, 30, none⟩)])]).run Tryz.prog w = .ok (.bool true) w := by kernel_rfl
theorem As.typeOf25 (v : Value) (w : World) : (ReflectliteType.typeOf #[.iface 45 v]).run Tryz.prog w = .ok (.iface 108 (.agg #[.pointer (some ⟨8, 45, none⟩)])) w := by kernel_rfl
theorem As.assignable25 (w : World) : (ReflectliteType.relation "AssignableTo" ReflectliteType.assignableTo #[.agg #[.pointer (some ⟨8, 45, none⟩)], .iface 108 (.agg #[.pointer (some ⟨8, 45, none⟩)])]).run Tryz.prog w = .ok (.bool true) w := by kernel_rfl
theorem As.valueOf25 (e : Addr) (w : World) : (ReflectliteValue.unpack (.iface 45 (.pointer (some e)))).run Tryz.prog w
    = .ok (.agg #[.pointer (some ⟨8, 45, none⟩), .pointer (some ⟨w.heap.size, 0, none⟩), .int .u64 150]) (w.alloc (.cells #[.pointer (some e)] 45)) := by kernel_rfl

theorem As.elemOf27 (w : World) : (Rtype.elem? 73).run Tryz.prog w = .ok (some 45) w := by kernel_rfl
theorem As.mk25 (p : Addr) (w : World) : (ReflectliteValue.mk 45 p ReflectliteValue.flagAddr).run Tryz.prog w = .ok (.agg #[.pointer (some ⟨8, 45, none⟩), .pointer (some p), .int .u64 406]) w := by kernel_rfl
theorem As.elemV27 (a p : Addr) (W : World) (ha : W.cell? a = some (.pointer (some p))) :
    (ReflectliteValue.method (ReflectliteValue.valueError "reflectlite.Value.Elem" 0) ReflectliteValue.elem #[.agg #[.pointer (some ⟨8, 73, none⟩), .pointer (some a), .int .u64 150]]).run Tryz.prog W
      = .ok (.agg #[.pointer (some ⟨8, 45, none⟩), .pointer (some p), .int .u64 406]) W := by
  rw [rlm]
  simp only [Sem.run_bind, As.parts27, Result.andThen]
  simp [ReflectliteValue.elem, loadVar, isAgg, underlying, Tryz.underlying73, ha, Result.andThen, As.elemOf27, As.mk25]
theorem rls (v x : Value) : ReflectliteValue.set #[v, x] = (do
    let (some (dst, a, fl), some (src, b, _)) := (← ReflectliteValue.parts v, ← ReflectliteValue.parts x)
      | unsupported (.noEntry "extern/(internal/reflectlite.Value).Set.zeroValue")
    if fl / ReflectliteValue.flagAddr % 2 == 0 then unsupported (.noEntry "extern/(internal/reflectlite.Value).Set.unaddressable")
    let val ← loadVar src b
    if ← Rtype.directlyAssignable dst src then storeVar dst a val
    else if ← Rtype.implements dst src then
      if (← Rtype.kind src) == 20 then
        match val with
        | .nilIface => unsupported (.noEntry "extern/reflectlite: a nil value of one interface type handed on as a value of another")
        | _ => storeVar dst a val
      else storeVar dst a (.iface src val)
    else panicString ("reflectlite.Set: value of type " ++ (← Rtype.spelt src) ++ " is not assignable to type " ++ (← Rtype.spelt dst))
    pure (.tuple #[])) := rfl
theorem As.parts25a (a : Addr) (w : World) : (ReflectliteValue.parts (.agg #[.pointer (some ⟨8, 45, none⟩), .pointer (some a), .int .u64 406])).run Tryz.prog w = .ok (some (45, a, 406)) w := by kernel_rfl
theorem As.parts25 (a : Addr) (w : World) : (ReflectliteValue.parts (.agg #[.pointer (some ⟨8, 45, none⟩), .pointer (some a), .int .u64 150])).run Tryz.prog w = .ok (some (45, a, 150)) w := by kernel_rfl
theorem As.direct25 (w : World) : (Rtype.directlyAssignable 45 45).run Tryz.prog w = .ok true w := by kernel_rfl
theorem As.set25 (ta b e : Addr) (old : Value) (W : World) (hb : W.cell? b = some (.pointer (some e))) (ht : W.cell? ta = some old) (hf : W.frozen? ta = false) :
    (ReflectliteValue.set #[.agg #[.pointer (some ⟨8, 45, none⟩), .pointer (some ta), .int .u64 406], .agg #[.pointer (some ⟨8, 45, none⟩), .pointer (some b), .int .u64 150]]).run Tryz.prog W
      = .ok (.tuple #[]) (W.setCell ta (.pointer (some e))) := by
  rw [rls]
  simp only [Sem.run_bind, As.parts25a, As.parts25, Result.andThen]
  simp [ReflectliteValue.flagAddr, loadVar, isAgg, underlying, Tryz.underlying45, hb, Result.andThen, As.direct25, storeVar, Value.cells, storeCells, Addr.add]
  rw [run_store Tryz.prog W ta _ _ (by rfl)]
  simp [ht, hf]

set_option maxHeartbeats 4000000 in
theorem as_hit (e t : Addr) (old : Value) (w : World) (hg : w.cell? ⟨1, 0, none⟩ = some (.iface 108 (.agg #[.pointer (some ⟨8, 30, none⟩)]))) (ht0 : w.cell? t = some old) (hf0 : w.frozen? t = false) :
    Calls Tryz.prog 47 #[.iface 45 (.pointer (some e)), .iface 73 (.pointer (some t))] w fun ev w' => ev = .returned (.bool true) ∧ w' = ((((w.alloc (.cells #[.pointer (some t)] 73)).alloc (.cells #[.pointer (some ⟨8, 73, none⟩), .pointer (some ⟨w.heap.size, 0, none⟩), .int .u64 150] 92)).alloc (.cells #[.pointer (some ⟨8, 73, none⟩), .pointer (some ⟨w.heap.size, 0, none⟩), .int .u64 150] 92)).alloc (.cells #[.pointer (some e)] 45)).setCell t (.pointer (some e)) := by
  have h6 := @run_callFunc_extern Tryz.prog 72 _ (fun args => ReflectliteValue.unpack (args.getD 0 (.tuple #[]))) Tryz.func72 (by kernel_rfl) (by kernel_rfl) (by kernel_rfl) (by kernel_rfl)
  have h7 := @run_callFunc_extern Tryz.prog 73 _ (ReflectliteValue.methodAny (ReflectliteValue.valueError "reflectlite.Value.Type" 0) (fun t _ _ _ => ReflectliteType.toType t)) Tryz.func73 (by kernel_rfl) (by kernel_rfl) (by kernel_rfl) (by kernel_rfl)
  have h8 := @run_callFunc_extern Tryz.prog 74 _ (ReflectliteValue.method (ReflectliteValue.valueError "reflectlite.Value.IsNil" 0) ReflectliteValue.isNil) Tryz.func74 (by kernel_rfl) (by kernel_rfl) (by kernel_rfl) (by kernel_rfl)
  have h27 := @run_callFunc_extern Tryz.prog 122 _ (ReflectliteType.abiMethod fun t => do pure (.int .u8 (← Rtype.kind t))) Tryz.func122 (by kernel_rfl) (by kernel_rfl) (by kernel_rfl) (by kernel_rfl)
  have h37 := @run_callFunc_extern Tryz.prog 135 _ (ReflectliteType.method ReflectliteType.elem) Tryz.func135 (by kernel_rfl) (by kernel_rfl) (by kernel_rfl) (by kernel_rfl)
  have h38 := @run_callFunc_extern Tryz.prog 136 _ (ReflectliteType.relation "Implements" ReflectliteType.implements_) Tryz.func136 (by kernel_rfl) (by kernel_rfl) (by kernel_rfl) (by kernel_rfl)
  have h10 := @run_callFunc_extern Tryz.prog 85 _ ReflectliteType.typeOf Tryz.func85 (by kernel_rfl) (by kernel_rfl) (by kernel_rfl) (by kernel_rfl)
  have h35 := @run_callFunc_extern Tryz.prog 133 _ (ReflectliteType.relation "AssignableTo" ReflectliteType.assignableTo) Tryz.func133 (by kernel_rfl) (by kernel_rfl) (by kernel_rfl) (by kernel_rfl)
  have h11 := @run_callFunc_extern Tryz.prog 86 _ (ReflectliteValue.method (ReflectliteValue.valueError "reflectlite.Value.Elem" 0) ReflectliteValue.elem) Tryz.func86 (by kernel_rfl) (by kernel_rfl) (by kernel_rfl) (by kernel_rfl)
  have h12 := @run_callFunc_extern Tryz.prog 87 _ ReflectliteValue.set Tryz.func87 (by kernel_rfl) (by kernel_rfl) (by kernel_rfl) (by kernel_rfl)
  have tO := As.typeOf25
  have mA := As.methodAssignableTo
  have a25 := As.assignable25
  have v25 := As.valueOf25
  have f6 := As.valueOf27
  have f7 := As.type27
  have mK := As.methodKind
  have mE := As.methodElem
  have mI := As.methodImplements
  have k27 := As.kind27
  have k25 := As.kind25
  have e27 := As.elem27
  have i25 := As.implements25
  have n8 := As.isNil27 ⟨w.heap.size, 0, none⟩ t ((w.alloc (.cells #[.pointer (some t)] 73)).alloc (.cells #[.pointer (some ⟨8, 73, none⟩), .pointer (some ⟨w.heap.size, 0, none⟩), .int .u64 150] 92)) (by simp)
  have hlt : 1 < w.heap.size := by
    rcases Nat.lt_or_ge 1 w.heap.size with h | h
    · exact h
    · simp [World.cell?, Array.getElem?_eq_none h] at hg
  have hg2 : ((w.alloc (.cells #[.pointer (some t)] 73)).alloc (.cells #[.pointer (some ⟨8, 73, none⟩), .pointer (some ⟨w.heap.size, 0, none⟩), .int .u64 150] 92)).cell? ⟨1, 0, none⟩ = some (.iface 108 (.agg #[.pointer (some ⟨8, 30, none⟩)])) := by
    rw [World.cell?_alloc_lt _ _ ⟨1, 0, none⟩ (by simp; omega), World.cell?_alloc_lt _ _ ⟨1, 0, none⟩ hlt]; exact hg
  have htl : t.block < w.heap.size := by
    rcases Nat.lt_or_ge t.block w.heap.size with h | h
    · exact h
    · simp [World.cell?, Array.getElem?_eq_none h] at ht0
  have el := As.elemV27 ⟨w.heap.size, 0, none⟩ t (((w.alloc (.cells #[.pointer (some t)] 73)).alloc (.cells #[.pointer (some ⟨8, 73, none⟩), .pointer (some ⟨w.heap.size, 0, none⟩), .int .u64 150] 92)).alloc (.cells #[.pointer (some ⟨8, 73, none⟩), .pointer (some ⟨w.heap.size, 0, none⟩), .int .u64 150] 92)) (by rw [World.cell?_alloc_lt _ _ ⟨w.heap.size, 0, none⟩ (by simp; omega)]; simp)
  have st := As.set25 t ⟨w.heap.size + 1 + 1 + 1, 0, none⟩ e old ((((w.alloc (.cells #[.pointer (some t)] 73)).alloc (.cells #[.pointer (some ⟨8, 73, none⟩), .pointer (some ⟨w.heap.size, 0, none⟩), .int .u64 150] 92)).alloc (.cells #[.pointer (some ⟨8, 73, none⟩), .pointer (some ⟨w.heap.size, 0, none⟩), .int .u64 150] 92)).alloc (.cells #[.pointer (some e)] 45))
    (by rw [World.cell?_alloc_at _ _ _ _ (by simp)]; rfl)
    (by rw [World.cell?_alloc_lt _ _ t (by simp; omega), World.cell?_alloc_lt _ _ t (by simp; omega), World.cell?_alloc_lt _ _ t (by simp; omega), World.cell?_alloc_lt _ _ t htl]; exact ht0)
    (by rw [World.frozen?_alloc_old _ _ t (by simp; omega), World.frozen?_alloc_old _ _ t (by simp; omega), World.frozen?_alloc_old _ _ t (by simp; omega), World.frozen?_alloc_old _ _ t (Nat.ne_of_lt htl)]; exact hf0)
  go_enter Tryz.func47, Tryz.ntmps47
  go_wp2
  refine Go.wp_loop_rounds 1 ?_
  rw [rounds_succ]
  go_wp2
  go_ret
  exact ⟨rfl, rfl⟩
end Go.Vm
end

section
namespace Go.Vm
open Go.Proofs Go.RowKit Go.Extern.Stop Go.Stop Go.Extern

def fault0 : Value := .agg #[.int .i64 0, .int .i64 0, .int .i64 0, .string ⟨#[]⟩]

structure AsKept (w w' : World) (t : Nat) : Prop where
  os : w'.os = w.os
  tape : w'.tape = w.tape
  output : w'.output = w.output
  size : w.heap.size ≤ w'.heap.size
  blk : ∀ k, k < w.heap.size → k ≠ t → w'.heap[k]? = w.heap[k]?
theorem as_after (e : Addr) (t : Nat) (ty : TypeId) (w : World) (hg : w.cell? ⟨1, 0, none⟩ = some (.iface 108 (.agg #[.pointer (some ⟨8, 30, none⟩)]))) (ht : w.heap[t]? = some (.cells #[.pointer none] ty (0, 0))) :
    Calls Tryz.prog 47 #[.iface 45 (.pointer (some e)), .iface 73 (.pointer (some ⟨t, 0, none⟩))] w fun ev w' => ev = .returned (.bool true) ∧ w'.heap[t]? = some (.cells #[.pointer (some e)] ty (0, 0)) ∧ AsKept w w' t := by
  have hlt : t < w.heap.size := by
    rcases Nat.lt_or_ge t w.heap.size with h | h
    · exact h
    · simp [Array.getElem?_eq_none h] at ht
  have hc : w.cell? ⟨t, 0, none⟩ = some (.pointer none) := by rw [Lib.cell_of_heap ht]; rfl
  have hf : w.frozen? ⟨t, 0, none⟩ = false := Lib.frozen_of_heap ht 0
  refine (as_hit e ⟨t, 0, none⟩ (.pointer none) w hg hc hf).mono ?_
  rintro ev w' ⟨rfl, rfl⟩
  generalize hA : (Obj.cells #[Value.pointer (some ⟨t, 0, none⟩)] 73) = o1
  generalize hB : (Obj.cells #[Value.pointer (some ⟨8, 73, none⟩), Value.pointer (some ⟨w.heap.size, 0, none⟩), Value.int .u64 150] 92) = o2
  generalize hC : (Obj.cells #[Value.pointer (some e)] 45) = o3
  have old : ∀ k, k < w.heap.size → ((((w.alloc o1).alloc o2).alloc o2).alloc o3).heap[k]? = w.heap[k]? := by
    intro k hk
    rw [Lib.alloc_old _ _ k (by simp; omega), Lib.alloc_old _ _ k (by simp; omega), Lib.alloc_old _ _ k (by simp; omega), Lib.alloc_old _ _ k hk]
  refine ⟨rfl, ?_, ⟨rfl, rfl, rfl, by simp; omega, fun k hk hne => ?_⟩⟩
  · have := (old t hlt).trans ht
    show (((((w.alloc o1).alloc o2).alloc o2).alloc o3).setCell ⟨t, 0, none⟩ (.pointer (some e))).heap[t]? = _
    generalize (((w.alloc o1).alloc o2).alloc o2).alloc o3 = W at this
    simp [World.setCell, Array.getElem?_modify, this]
  · rw [Below.heap_setCell _ _ _ _ hne, old k hk]

set_option maxRecDepth 100000 in
set_option maxHeartbeats 4000000 in
theorem seen_nil (w : World) : Calls Tryz.prog 18 #[.nilIface] w fun e w' => e = .returned (.tuple #[fault0, .bool true]) ∧ Below w.heap.size w w' := by
  go_enter Tryz.func18, Tryz.ntmps18
  go_wp2
  go_returns
  exact ⟨rfl, (Below.refl _ _).alloc (Nat.le_refl _) _⟩

set_option maxRecDepth 100000 in
set_option maxHeartbeats 4000000 in
theorem seen_hit (b o : Nat) (c t a : Int) (s : ByteArray) (w : World) (hg : w.cell? ⟨1, 0, none⟩ = some (.iface 108 (.agg #[.pointer (some ⟨8, 30, none⟩)])))
    (h0 : w.cell? ⟨b, o, none⟩ = some (.int .i64 c)) (h1 : w.cell? ⟨b, o + 1, none⟩ = some (.int .i64 t)) (h2 : w.cell? ⟨b, o + 2, none⟩ = some (.int .i64 a)) (h3 : w.cell? ⟨b, o + 3, none⟩ = some (.string s)) :
    Calls Tryz.prog 18 #[.iface 45 (.pointer (some ⟨b, o, none⟩))] w fun x w' => x = .returned (.tuple #[.agg #[.int .i64 c, .int .i64 t, .int .i64 a, .string s], .bool true]) ∧ Below w.heap.size w w' := by
  have hlt : 1 < w.heap.size := by
    rcases Nat.lt_or_ge 1 w.heap.size with h | h
    · exact h
    · simp [World.cell?, Array.getElem?_eq_none h] at hg
  have hb : b < w.heap.size := by
    rcases Nat.lt_or_ge b w.heap.size with h | h
    · exact h
    · simp [World.cell?, Array.getElem?_eq_none h] at h0
  go_enter Tryz.func18, Tryz.ntmps18
  go_wp2_with (go_at_call 47; refine (as_after ⟨b, o, none⟩ (w.heap.size + 1) 45 _ ?hgA ?htA).mono ?_)
  case hgA =>
    rw [World.cell?_alloc_lt _ _ ⟨1, 0, none⟩ (by simp; omega), World.cell?_alloc_lt _ _ ⟨1, 0, none⟩ hlt]; exact hg
  case htA =>
    have e : w.heap.size + 1 = (w.alloc (.cells #[.int .i64 0, .int .i64 0, .int .i64 0, .string ⟨#[]⟩] 26)).heap.size := by simp
    rw [e]
    exact heap_alloc_new _ _
  rintro ev w2 ⟨rfl, ft, kp⟩
  have hs2 : w.heap.size + 2 ≤ w2.heap.size := by
    have := kp.size
    simpa using this
  have ob : ∀ k, k < w.heap.size → w2.heap[k]? = w.heap[k]? := fun k hk => by
    rw [kp.blk k (by simp; omega) (by omega), Lib.alloc_old _ _ k (by simp; omega), Lib.alloc_old _ _ k hk]
  have rb : w2.heap[w.heap.size]? = some (.cells #[.int .i64 0, .int .i64 0, .int .i64 0, .string ⟨#[]⟩] 26 (0, 0)) := by
    rw [kp.blk w.heap.size (by simp; omega) (by omega), Lib.alloc_old _ _ _ (by simp)]
    exact heap_alloc_new _ _
  have d0 : w2.cell? ⟨b, o, none⟩ = some (.int .i64 c) := by rw [World.cell?_of_block (ob b hb)]; exact h0
  have d1 : w2.cell? ⟨b, o + 1, none⟩ = some (.int .i64 t) := by rw [World.cell?_of_block (ob b hb)]; exact h1
  have d2 : w2.cell? ⟨b, o + 2, none⟩ = some (.int .i64 a) := by rw [World.cell?_of_block (ob b hb)]; exact h2
  have d3 : w2.cell? ⟨b, o + 3, none⟩ = some (.string s) := by rw [World.cell?_of_block (ob b hb)]; exact h3
  have f0 : w2.cell? ⟨w.heap.size + 1, 0, none⟩ = some (.pointer (some ⟨b, o, none⟩)) := by rw [Lib.cell_of_heap ft]; rfl
  have r0 : w2.cell? ⟨w.heap.size, 0, none⟩ = some (.int .i64 0) := by rw [Lib.cell_of_heap rb]; rfl
  have r1 : w2.cell? ⟨w.heap.size, 1, none⟩ = some (.int .i64 0) := by rw [Lib.cell_of_heap rb]; rfl
  have r2 : w2.cell? ⟨w.heap.size, 2, none⟩ = some (.int .i64 0) := by rw [Lib.cell_of_heap rb]; rfl
  have r3 : w2.cell? ⟨w.heap.size, 3, none⟩ = some (.string ⟨#[]⟩) := by rw [Lib.cell_of_heap rb]; rfl
  have q0 : w2.frozen? ⟨w.heap.size, 0, none⟩ = false := Lib.frozen_of_heap rb 0
  have q1 : w2.frozen? ⟨w.heap.size, 1, none⟩ = false := Lib.frozen_of_heap rb 1
  have q2 : w2.frozen? ⟨w.heap.size, 2, none⟩ = false := Lib.frozen_of_heap rb 2
  have q3 : w2.frozen? ⟨w.heap.size, 3, none⟩ = false := Lib.frozen_of_heap rb 3
  have ne : ∀ i j : Nat, i ≠ j → (⟨w.heap.size, i, none⟩ : Addr) ≠ ⟨w.heap.size, j, none⟩ := fun i j h e => h (by injection e)
  have z0 := World.cell?_setCell_same w2 ⟨w.heap.size, 0, none⟩ (.int .i64 c) r0
  have z1 := World.cell?_setCell_same (w2.setCell ⟨w.heap.size, 0, none⟩ (.int .i64 c)) ⟨w.heap.size, 1, none⟩ (.int .i64 t) ((World.cell?_setCell_other _ _ _ _ (ne 0 1 (by decide))).trans r1)
  have z2 := World.cell?_setCell_same ((w2.setCell ⟨w.heap.size, 0, none⟩ (.int .i64 c)).setCell ⟨w.heap.size, 1, none⟩ (.int .i64 t)) ⟨w.heap.size, 2, none⟩ (.int .i64 a) ((World.cell?_setCell_other _ _ _ _ (ne 1 2 (by decide))).trans ((World.cell?_setCell_other _ _ _ _ (ne 0 2 (by decide))).trans r2))
  have z3 := World.cell?_setCell_same (((w2.setCell ⟨w.heap.size, 0, none⟩ (.int .i64 c)).setCell ⟨w.heap.size, 1, none⟩ (.int .i64 t)).setCell ⟨w.heap.size, 2, none⟩ (.int .i64 a)) ⟨w.heap.size, 3, none⟩ (.string s) ((World.cell?_setCell_other _ _ _ _ (ne 2 3 (by decide))).trans ((World.cell?_setCell_other _ _ _ _ (ne 1 3 (by decide))).trans ((World.cell?_setCell_other _ _ _ _ (ne 0 3 (by decide))).trans r3)))
  have y2 := (World.cell?_setCell_other (((w2.setCell ⟨w.heap.size, 0, none⟩ (.int .i64 c)).setCell ⟨w.heap.size, 1, none⟩ (.int .i64 t)).setCell ⟨w.heap.size, 2, none⟩ (.int .i64 a)) ⟨w.heap.size, 3, none⟩ ⟨w.heap.size, 2, none⟩ (.string s) (ne 3 2 (by decide))).trans z2
  have y1 := (World.cell?_setCell_other (((w2.setCell ⟨w.heap.size, 0, none⟩ (.int .i64 c)).setCell ⟨w.heap.size, 1, none⟩ (.int .i64 t)).setCell ⟨w.heap.size, 2, none⟩ (.int .i64 a)) ⟨w.heap.size, 3, none⟩ ⟨w.heap.size, 1, none⟩ (.string s) (ne 3 1 (by decide))).trans ((World.cell?_setCell_other _ _ _ _ (ne 2 1 (by decide))).trans z1)
  go_wp2
  refine bodyPost_ret (by simp [results, go_sem]; simp only [z0, z1, z2, z3, y1, y2, Result.andThen]; try rfl) rfl ?_
  refine ⟨rfl, ((((?_ : Below w.heap.size w w2).setCell (Nat.le_refl _) _).setCell (Nat.le_refl _) _).setCell (Nat.le_refl _) _).setCell (Nat.le_refl _) _⟩
  exact ⟨kp.os, kp.tape, kp.output, by omega, ob⟩
end Go.Vm
end

section
namespace Go.Vm
open Go.RowKit Go.Shelf Go.Proofs Go.Sort

abbrev errI (e i : Int) : V := .d false (.iface 45 [.ptr [.int .i64 e, .int .i64 0, .int .i64 i, .str []]])
abbrev fltV (e t i : Int) (s : BS) : V := .agg [.d false (.int .i64 e), .d false (.int .i64 t), .d false (.int .i64 i), .d false (.str s)]
abbrev seenV (e t i : Int) (s : BS) : V := .tup [fltV e t i s, .d false (.bool true)]
def K17 (K : Cx) : Prop := K.call 18 [.d false .nilif] = some (seenV 0 0 0 [], []) ∧ ∀ e i : Int, K.call 18 [errI e i] = some (seenV e 0 i [], [])

theorem repD_str {w : World} {F : Nat → Prop} {v : Value} {s : BS} (h : RepD w F v (.str s)) : ∃ t : ByteArray, v = .string t ∧ t.data.toList = s := by
  cases h with | str t => exact ⟨t, rfl, rfl⟩

theorem rep_seen {w : World} {F : Nat → Prop} {base : Nat} {σ : Nat → Option Loc} (e t i : Int) (s : ByteArray) :
    RepV w F base σ (.tuple #[.agg #[.int .i64 e, .int .i64 t, .int .i64 i, .string s], .bool true]) (seenV e t i s.data.toList) := by
  refine .tup _ _ rfl fun j v x hv hx => ?_
  match j, hv, hx with
  | 0, hv, hx =>
    simp at hv hx
    subst hv hx
    refine .agg _ _ rfl (fun j v x hv hx => ?_) (fun v hv => by simp at hv; rcases hv with rfl | rfl | rfl | rfl <;> rfl)
    match j, hv, hx with
    | 0, hv, hx => simp at hv hx; subst hv hx; exact .d _ _ _ (.int _ _)
    | 1, hv, hx => simp at hv hx; subst hv hx; exact .d _ _ _ (.int _ _)
    | 2, hv, hx => simp at hv hx; subst hv hx; exact .d _ _ _ (.int _ _)
    | 3, hv, hx => simp at hv hx; subst hv hx; exact .d _ _ _ (.str _)
    | j + 4, hv, hx => simp at hv
  | 1, hv, hx => simp at hv hx; subst hv hx; exact .d _ _ _ (.bool _)
  | j + 2, hv, hx => simp at hv

theorem pure_seen_nil : PureCall Tryz.prog GT 18 [.d false .nilif] (seenV 0 0 0 []) [] := by
  intro w F vals hF hG hR
  obtain ⟨hsz, hval⟩ := hR
  obtain ⟨l⟩ := vals
  match l, hsz, hval with
  | [v0], hsz, hval =>
    have h0 := hval 0 v0 _ rfl rfl
    cases h0 with
    | d c v x h =>
    cases h with
    | nilif =>
    refine (seen_nil w).mono ?_
    rintro ev w' ⟨rfl, hb⟩
    refine ⟨_, F, fun _ => none, rfl, hb, fun b h => .inl h, rep_seen 0 0 0 ⟨#[]⟩, nothing_new (fun b h => Nat.lt_of_lt_of_le (hF b h) hb.size)⟩
  | [], hsz, _ => simp at hsz
  | _ :: _ :: _, hsz, _ => simp at hsz

theorem pure_seen (e i : Int) : PureCall Tryz.prog GT 18 [errI e i] (seenV e 0 i []) [] := by
  intro w F vals hF hG hR
  obtain ⟨hsz, hval⟩ := hR
  obtain ⟨l⟩ := vals
  match l, hsz, hval with
  | [v0], hsz, hval =>
    have h0 := hval 0 v0 _ rfl rfl
    cases h0 with
    | d c v x h =>
    cases h with
    | iface t v d hp =>
    cases hp with
    | ptr b o cells g hf hc hr =>
    have c0 := hc 0 _ rfl
    have c1 := hc 1 _ rfl
    have c2 := hc 2 _ rfl
    have c3 := hc 3 _ rfl
    rw [repD_int (hr 0 _ rfl), Nat.add_zero] at c0
    rw [repD_int (hr 1 _ rfl)] at c1
    rw [repD_int (hr 2 _ rfl)] at c2
    obtain ⟨s, es, hs⟩ := repD_str (hr 3 _ rfl)
    rw [es] at c3
    refine (seen_hit b o e 0 i s w (hand_of_glob hG) c0 c1 c2 c3).mono ?_
    rintro ev w' ⟨rfl, hb⟩
    have r := rep_seen (w := w') (F := F) (base := w.heap.size) (σ := fun _ => none) e 0 i s
    rw [hs] at r
    refine ⟨_, F, fun _ => none, rfl, hb, fun b h => .inl h, r, nothing_new (fun b h => Nat.lt_of_lt_of_le (hF b h) hb.size)⟩
  | [], hsz, _ => simp at hsz
  | _ :: _ :: _, hsz, _ => simp at hsz
end Go.Vm
end

section
namespace Go.Vm
set_option maxRecDepth 20000
/- 'sloth/slothlaw01.faulted' -/
def f18 : Fun := ⟨
 (.seq
  (.reg [⟨[(3, .box (.sl 1))], [], [(.bool false)], none, [0, 3], 2, [], [], []⟩])
  (.seq
   (.reg [⟨[(5, .box (.agg (.cons (.int .i64 0) (.cons (.int .i64 0) (.cons (.int .i64 0) (.cons (.str []) .nil))))))], [(11, (.ext 1 (.call 18 (.cons (.sl 0) .nil))))], [], some (none, .store 4 (.sl 5) (.ext 0 (.call 18 (.cons (.sl 0) .nil)))), [0, 3, 5], 7, [], [], []⟩, ⟨[], [(6, (.sl 11))], [], none, [0, 3, 5], 1, [], [], []⟩])
   (.seq
    (.reg [⟨[], [(4, (.and (.and (.sl 6) (.eqs false true [0, 0, 0, 2] (.ld 4 true (.sl 5)) (.ld 4 true (.sl 3)))) (.eqs false false [1] (.eqs false false [5] (.sl 0) .nilif) (.bin .eql (.ld 1 false (.fa 0 (.sl 3))) (.int .i64 0)))))], [], none, [], 15, [[], [0], [0, 1], [0, 1], [3, 1, 0, 2], [2, 3, 4, 0, 1], [1, 0, 4, 3, 2, 5], [5, 2, 3, 4, 0, 1, 6], [6, 1, 0, 4, 3, 2, 5, 7], [5, 2, 3, 4, 0, 1, 6], [6, 1, 0, 4, 3, 2, 5, 9], [9, 5, 2, 3, 4, 0, 1, 6, 10], [10, 9, 11, 7, 5, 2, 3, 4, 0, 1, 6, 8], [8, 7, 11, 9, 10, 12, 5, 2, 3, 4, 0, 1, 6], [6, 1, 0, 4, 3, 2, 5, 12, 10, 9, 11, 7, 8, 13]], [], []⟩])
    (.seq
     (.tidy 0 [4])
     .ret)))),
 [(.sl 4)], false⟩
theorem f18_ok : funOk Go.Proofs.Tryz.prog 7 0 2 f18 = true := by kernel_rfl

theorem ev_faulted (K : Cx) (h17 : K17 K) (e i : Int) (he : e ≠ 0) : runFun K f18 [errI e i, fltV e 0 i []] [] = some (.d false (.bool true), [], []) := by
  have h := h17.2 e i
  have g : decide (e = 0) = false := decide_eq_false he
  simp (disch := first | decide | omega | (simp only [LN]; omega) | (simp only [LN]; done) | fail) only [SV, SW, f18, Nat.reduceAdd, Nat.reduceBEq, viewD, h, lose, evEqs, cellsEq, cellEq, V.isNilI, oneOr]

theorem ev_faulted0 (K : Cx) (h17 : K17 K) : runFun K f18 [.d false .nilif, fltV 0 0 0 []] [] = some (.d false (.bool true), [], []) := by
  have h := h17.1
  simp (disch := first | decide | omega | (simp only [LN]; omega) | (simp only [LN]; done) | fail) only [SV, SW, f18, Nat.reduceAdd, Nat.reduceBEq, viewD, h, lose, evEqs, cellsEq, cellEq, V.isNilI, oneOr]

theorem ite_code {c : Prop} [Decidable c] {e0 e : Nat} {k : Nat} {t : BS} {m : Int} {n : Nat} (h : (if c then St.bad e0 else St.tok k t m n) = .bad e) : e0 = e := by
  split at h
  · injection h
  · cases h
theorem tokS_code {r : BS} {e : Nat} (h : tokS r = .bad e) : 3 ≤ e := by
  unfold tokS at h
  split at h
  · cases h
  · split at h
    · cases h
    · split at h
      · unfold numS at h
        have := ite_code h
        omega
      · split at h
        · unfold opS at h
          simp only at h
          split at h
          · cases h
          · split at h
            · injection h; omega
            · cases h
        · have q : ∀ e, quotS r = .bad e → 3 ≤ e := by
            intro e h
            unfold quotS at h
            split at h
            · injection h; omega
            · split at h
              · cases h
              · split at h
                · cases h
                · injection h; omega
          split at h
          · cases h
          · split at h
            · split at h
              · exact q e h
              · split at h
                · injection h; omega
                · cases h
            · split at h
              · exact q e h
              · injection h; omega
theorem stepS_code {r : BS} {e : Nat} (h : stepS r = .bad e) : 3 ≤ e := by
  unfold stepS at h
  split at h
  · cases h
  · split at h
    · split at h
      · injection h; omega
      · cases h
    · split at h
      · cases h
      · exact tokS_code h
theorem lex_bad : ∀ (k : Nat) (r : BS), r.length = k → ∀ (i n e p : Nat), lexS r i n = .bad e p → 3 ≤ e ∧ i ≤ p ∧ p < i + r.length := by
  intro k
  induction k using Nat.strongRecOn with
  | ind k ih =>
    intro r hr i n e p h
    subst hr
    by_cases h0 : r = []
    · subst h0; rw [lexS_nil] at h; cases h
    · obtain ⟨s1, s2⟩ := stepS_len h0
      have hl : 1 ≤ r.length := by cases r with | nil => exact absurd rfl h0 | cons a b => simp
      rw [lexS_cons h0] at h
      cases hs : stepS r with
      | bad e =>
        rw [hs] at h
        injection h with h1 h2
        subst h1 h2
        exact ⟨stepS_code hs, Nat.le_refl _, by omega⟩
      | skip k =>
        rw [hs] at h
        obtain ⟨k1, k2⟩ := s1 k hs
        have := ih (r.drop k).length (by rw [List.length_drop]; omega) (r.drop k) rfl _ _ _ _ h
        rw [List.length_drop] at this
        exact ⟨this.1, by omega, by omega⟩
      | tok kd tx nm k =>
        rw [hs] at h
        obtain ⟨k1, k2⟩ := s2 kd tx nm k hs
        simp only at h
        split at h
        · injection h with h1 h2
          subst h1 h2
          exact ⟨by omega, Nat.le_refl _, by omega⟩
        · cases hx : lexS (r.drop k) (i + k) (n + 1) with
          | ok l' => rw [hx] at h; cases h
          | bad e' p' =>
            rw [hx] at h
            injection h with h1 h2
            subst h1 h2
            have := ih (r.drop k).length (by rw [List.length_drop]; omega) (r.drop k) rfl _ _ _ _ hx
            rw [List.length_drop] at this
            exact ⟨this.1, by omega, by omega⟩

end Go.Vm
end

section
namespace Go.Vm
set_option maxRecDepth 20000
/- 'sloth/slothref01.Lex' -/
def f505_L0 : C :=
 (.seq
  (.seq
   (.reg [⟨[], [(14, (.bin .lss (.sl 5) (.len true (.sl 0))))], [], none, [0, 3, 4, 5], 4, [], [], []⟩])
   (.cond (.sl 14)
    .skip
    (.seq
     (.tidy 0 [3, 4])
     (.exit 0))))
  (.block 1
   (.seq
    (.reg [⟨[(6, .box (.agg (.cons (.int .i64 0) (.cons (.str []) (.cons (.int .i64 0) (.cons (.int .i64 0) (.cons (.int .i64 0) (.cons (.int .i64 0) .nil))))))))], [], [], some (none, .store 6 (.sl 6) (.call 11 (.cons (.sl 0) (.cons (.sl 5) .nil)))), [0, 3, 4, 5, 6], 5, [], [], []⟩])
    (.seq
     (.seq
      (.reg [⟨[], [(20, (.bin .neq (.ld 1 false (.fa 5 (.sl 6))) (.int .i64 0)))], [], none, [0, 3, 4, 5, 6], 3, [], [], []⟩])
      (.cond (.sl 20)
       (.seq
        (.reg [⟨[], [(2, (.nilsl 4))], [], some (none, .store 4 (.sl 3) (.set 2 1 (.sl 5) (.set 0 1 (.ld 1 false (.fa 5 (.sl 6))) (.agg (.cons (.int .i64 0) (.cons (.int .i64 0) (.cons (.int .i64 0) (.cons (.str []) .nil)))))))), [3], 6, [[], [0], [], [2, 0, 1], [], [4, 1, 0, 2, 3]], [], []⟩])
        (.seq
         (.tidy 0 [2, 3])
         .ret))
       .skip))
     (.seq
      (.seq
       (.reg [⟨[], [(28, (.bin .neq (.ld 1 false (.fa 0 (.fa 0 (.sl 6)))) (.int .i64 0)))], [], none, [0, 3, 4, 5, 6], 4, [], [], []⟩])
       (.cond (.sl 28)
        (.seq
         (.seq
          (.reg [⟨[], [(31, (.bin .eql (.len false (.sl 4)) (.int .i64 20000)))], [], none, [0, 3, 4, 5, 6], 3, [], [], []⟩])
          (.cond (.sl 31)
           (.seq
            (.reg [⟨[], [(2, (.nilsl 4))], [], some (none, .store 4 (.sl 3) (.set 2 1 (.sl 5) (.set 0 1 (.int .i64 4) (.agg (.cons (.int .i64 0) (.cons (.int .i64 0) (.cons (.int .i64 0) (.cons (.str []) .nil)))))))), [3], 4, [], [], []⟩])
            (.seq
             (.tidy 0 [2, 3])
             .ret))
           .skip))
         (.reg [⟨[(37, .lits 4 (.cons (.ld 4 true (.fa 0 (.sl 6))) .nil))], [], [], some (some 38, .app 4 (.sl 4) (.sl 37)), [0, 3, 6], 5, [], [], []⟩, ⟨[], [(4, (.sl 38))], [], none, [0, 3, 6], 1, [], [], []⟩]))
        .skip))
      (.reg [⟨[], [(5, (.ld 1 false (.fa 4 (.sl 6))))], [], none, [0, 3, 4], 3, [], [], []⟩]))))))
def f505 : Fun := ⟨
 (.seq
  (.reg [⟨[(3, .box (.agg (.cons (.int .i64 0) (.cons (.int .i64 0) (.cons (.int .i64 0) (.cons (.str []) .nil))))))], [], [(.nilsl 4)], none, [0, 3], 2, [], [], []⟩])
  (.seq
   (.seq
    (.reg [⟨[], [(9, (.bin .gtr (.len true (.sl 0)) (.int .i64 65536)))], [], none, [0, 3], 3, [], [], []⟩])
    (.cond (.sl 9)
     (.seq
      (.reg [⟨[], [(2, (.nilsl 4))], [], some (none, .store 4 (.sl 3) (.set 2 1 (.int .i64 (-1)) (.set 0 1 (.int .i64 2) (.agg (.cons (.int .i64 0) (.cons (.int .i64 0) (.cons (.int .i64 0) (.cons (.str []) .nil)))))))), [3], 3, [], [], []⟩])
      (.seq
       (.tidy 0 [2, 3])
       .ret))
     .skip))
   (.seq
    (.reg [⟨[], [(4, (.nilsl 4))], [], none, [0, 3], 1, [], [], []⟩])
    (.seq
     (.reg [⟨[], [(5, (.int .i64 0))], [], none, [0, 3, 4], 1, [], [], []⟩])
     (.seq
      (.block 0
       (.seq (.tidy 0 [0, 3, 4, 5]) (.loop (.seq (.tidy 0 [0, 3, 4, 5]) f505_L0))))
      (.seq
       (.reg [⟨[], [(2, (.sl 4))], [], some (none, .store 4 (.sl 3) (.agg (.cons (.int .i64 0) (.cons (.int .i64 0) (.cons (.int .i64 0) (.cons (.str []) .nil)))))), [3], 4, [], [], []⟩])
       (.seq
        (.tidy 0 [2, 3])
        .ret))))))),
 [(.sl 2), (.ld 4 true (.sl 3))], false⟩
theorem f505_ok : funOk Go.Proofs.Tryz.prog 5 0 1 f505 = true := by kernel_rfl

/- 'sloth/slothref01.At' -/
def f511 : Fun := ⟨
 (.seq
  (.reg [⟨[(4, .box (.agg (.cons (.int .i64 0) (.cons (.str []) (.cons (.int .i64 0) (.cons (.int .i64 0) (.cons (.int .i64 0) (.cons (.int .i64 0) .nil))))))))], [], [], none, [0, 1, 4], 1, [], [], []⟩])
  (.seq
   (.reg [⟨[], [(5, (.ix (.sl 0) (.sl 1)))], [], none, [0, 1, 4], 4, [], [], []⟩])
   (.seq
    (.reg [⟨[], [(6, (.call 25 (.cons (.sl 5) .nil)))], [], none, [0, 1, 4, 5], 3, [], [], []⟩])
    (.seq
     (.reg [⟨[], [(7, (.call 26 (.cons (.sl 5) .nil)))], [], none, [0, 1, 4, 5, 6], 3, [], [], []⟩])
     (.seq
      (.reg [⟨[], [(8, (.call 27 (.cons (.sl 5) .nil)))], [], none, [0, 1, 4, 5, 6, 7], 3, [], [], []⟩])
      (.seq
       (.reg [⟨[], [(9, (.call 28 (.cons (.sl 5) .nil)))], [], none, [0, 1, 4, 5, 6, 7, 8], 3, [], [], []⟩])
       (.seq
        (.block 0
         (.seq
          (.reg [⟨[], [(21, (.or (.or (.or (.bin .eql (.sl 5) (.int .u8 32)) (.bin .eql (.sl 5) (.int .u8 9))) (.bin .eql (.sl 5) (.int .u8 10))) (.bin .eql (.sl 5) (.int .u8 13))))], [], none, [0, 1, 4, 5, 6, 7, 8, 9], 15, [], [], []⟩])
          (.cond (.sl 21)
           (.seq
            (.reg [⟨[], [], [], some (none, .store 6 (.sl 4) (.call 29 (.cons (.bin .add (.sl 1) (.int .i64 1)) .nil))), [4], 4, [], [], []⟩])
            (.seq
             (.tidy 0 [4])
             .ret))
           (.seq
            (.reg [⟨[], [(39, (.and (.and (.bin .eql (.sl 5) (.int .u8 123)) (.bin .lss (.bin .add (.sl 1) (.int .i64 1)) (.len true (.sl 0)))) (.bin .eql (.ix (.sl 0) (.bin .add (.sl 1) (.int .i64 1))) (.int .u8 45))))], [], none, [0, 1, 4, 5, 6, 7, 8, 9], 17, [], [], []⟩])
            (.cond (.sl 39)
             (.seq
              (.reg [⟨[], [], [], some (none, .store 6 (.sl 4) (.call 30 (.cons (.sl 0) (.cons (.sl 1) .nil)))), [4], 4, [], [], []⟩])
              (.seq
               (.tidy 0 [4])
               .ret))
             (.seq
              (.reg [⟨[], [(59, (.sl 6))], [], none, [0, 1, 4, 5, 7, 8, 9], 2, [], [], []⟩])
              (.cond (.sl 59)
               (.seq
                (.reg [⟨[], [], [], some (none, .store 6 (.sl 4) (.call 31 (.cons (.sl 0) (.cons (.sl 1) .nil)))), [4], 4, [], [], []⟩])
                (.seq
                 (.tidy 0 [4])
                 .ret))
               (.seq
                (.reg [⟨[], [(64, (.sl 7))], [], none, [0, 1, 4, 5, 8, 9], 2, [], [], []⟩])
                (.cond (.sl 64)
                 (.seq
                  (.reg [⟨[], [], [], some (none, .store 6 (.sl 4) (.call 32 (.cons (.sl 0) (.cons (.sl 1) .nil)))), [4], 4, [], [], []⟩])
                  (.seq
                   (.tidy 0 [4])
                   .ret))
                 (.seq
                  (.reg [⟨[], [(69, (.sl 8))], [], none, [0, 1, 4, 5, 9], 2, [], [], []⟩])
                  (.cond (.sl 69)
                   (.seq
                    (.reg [⟨[], [], [], some (none, .store 6 (.sl 4) (.call 33 (.cons (.sl 0) (.cons (.sl 1) .nil)))), [4], 4, [], [], []⟩])
                    (.seq
                     (.tidy 0 [4])
                     .ret))
                   (.seq
                    (.reg [⟨[], [(74, (.bin .eql (.sl 5) (.int .u8 39)))], [], none, [0, 1, 4, 5, 9], 3, [], [], []⟩])
                    (.cond (.sl 74)
                     (.seq
                      (.reg [⟨[], [], [], some (none, .store 6 (.sl 4) (.call 34 (.cons (.sl 0) (.cons (.sl 1) .nil)))), [4], 4, [], [], []⟩])
                      (.seq
                       (.tidy 0 [4])
                       .ret))
                     (.seq
                      (.reg [⟨[], [(80, (.bin .eql (.sl 5) (.int .u8 34)))], [], none, [0, 1, 4, 9], 3, [], [], []⟩])
                      (.cond (.sl 80)
                       (.seq
                        (.reg [⟨[], [], [], some (none, .store 6 (.sl 4) (.call 35 (.cons (.sl 0) (.cons (.sl 1) .nil)))), [4], 4, [], [], []⟩])
                        (.seq
                         (.tidy 0 [4])
                         .ret))
                       (.seq
                        (.reg [⟨[], [(86, (.sl 9))], [], none, [0, 1, 4], 2, [], [], []⟩])
                        (.cond (.sl 86)
                         (.seq
                          (.reg [⟨[], [], [], some (none, .store 6 (.sl 4) (.call 36 (.cons (.sl 0) (.cons (.sl 1) .nil)))), [4], 4, [], [], []⟩])
                          (.seq
                           (.tidy 0 [4])
                           .ret))
                         .skip)))))))))))))))))
        (.seq
         (.reg [⟨[], [], [], some (none, .store 6 (.sl 4) (.call 37 (.cons (.sl 0) (.cons (.sl 1) .nil)))), [4], 4, [], [], []⟩])
         (.seq
          (.tidy 0 [4])
          .ret))))))))),
 [(.ld 6 true (.sl 4))], false⟩
theorem f511_ok : funOk Go.Proofs.Tryz.prog 11 0 2 f511 = true := by kernel_rfl

def K511 (K : Cx) : Prop := ∀ (s : BS) (i : Nat), i < s.length → s.length ≤ 2000000 → K.call 11 [vS s, vI i] = some (stR i (stepS (s.drop i)), [])
theorem sp_cls : ∀ c : UInt8, ((((c.toNat : Int) == 32 || (c.toNat : Int) == 9) || (c.toNat : Int) == 10) || (c.toNat : Int) == 13) = decide (clB c = 7) := u8all (by decide +kernel)
theorem pre_iff {r : BS} : pre [123, 45] r = true ↔ bAt r = 123 ∧ bAt (r.drop 1) = 45 := by
  match r with
  | [] => exact ⟨fun h => absurd h (by decide), fun h => absurd h.1 (by decide)⟩
  | [a] => exact ⟨fun h => by simp [pre] at h, fun h => absurd h.2 (show ¬ (0 : UInt8) = 45 by decide)⟩
  | a :: b :: r => simp [pre, bAt]
set_option maxHeartbeats 1000000 in
theorem ev_At (K : Cx) (h25 : K74 K) (h26 : K75 K) (h27 : K95 K) (h28 : K77 K) (h29 : K529 K) (h30 : K530 K) (h31 : K531 K) (h32 : K532 K) (h33 : K533 K) (h34 : K534 K) (h35 : K535 K) (h36 : K536 K) (h37 : K537 K)
    (s : BS) (i : Nat) (hi : i < s.length) (hs : s.length ≤ 2000000) : runFun K f511 [vS s, vI i] [] = some (stR i (stepS (s.drop i)), [], []) := by
  rw [← step_same (drop_ne hi)]
  have hn := nth_bAt hi
  have hn1 : i + 1 < s.length → nth s ((i + 1 : Nat) : Int) = bAt ((s.drop i).drop 1) := fun h => by rw [nth_bAt h, dd]
  have hn1' : ¬ i + 1 < s.length → bAt ((s.drop i).drop 1) = 0 := fun h => by
    have : (s.drop i).drop 1 = [] := by rw [List.drop_drop, List.drop_eq_nil_iff]; omega
    rw [this]; rfl
  have a25 := h25 (bAt (s.drop i))
  have a26 := h26 (bAt (s.drop i))
  have a27 := h27 (bAt (s.drop i))
  have a28 := h28 (bAt (s.drop i))
  have q7 := sp_cls (bAt (s.drop i))
  rw [clsC rfl (drop_ne hi)] at a25 a26 a27 a28 q7
  have a29 := h29 ((i + 1 : Nat))
  have a30 := h30 s i (by omega) hs
  have a31 := h31 s i hi hs
  have a32 := h32 s i hi hs
  have a33 := h33 s i hi hs
  have a34 := h34 s i hi hs
  have a35 := h35 s i hi hs
  have a36 := h36 s i hi hs
  have a37 := h37 s i hi hs
  clear h25 h26 h27 h28 h29 h30 h31 h32 h33 h34 h35 h36 h37
  unfold stepR
  generalize s.drop i = r at *
  -- the look at {-
  have look : ∀ p, pre [123, 45] r = p → (p = true ∧ i + 1 < s.length ∧ ((bAt r).toNat : Int) = 123 ∧ ((nth s ((i + 1 : Nat) : Int)).toNat : Int) = 45) ∨
      (p = false ∧ (((bAt r).toNat : Int) == 123) = false) ∨ (p = false ∧ (((bAt r).toNat : Int) == 123) = true ∧ ¬ i + 1 < s.length) ∨
      (p = false ∧ (((bAt r).toNat : Int) == 123) = true ∧ i + 1 < s.length ∧ (((nth s ((i + 1 : Nat) : Int)).toNat : Int) == 45) = false) := by
    intro p hp
    by_cases a : bAt r = 123
    · have a' : (((bAt r).toNat : Int) == 123) = true := by rw [u8y 123 rfl a]; rfl
      by_cases l : i + 1 < s.length
      · have hx := hn1 l
        by_cases b : bAt (r.drop 1) = 45
        · left
          rw [hx]
          exact ⟨by rw [← hp]; exact pre_iff.2 ⟨a, b⟩, l, u8y 123 rfl a, u8y 45 rfl b⟩
        · right; right; right
          rw [hx]
          refine ⟨?_, a', l, beq_false_of_ne (u8n 45 rfl b)⟩
          rw [← hp]
          cases hz : pre [123, 45] r with
          | false => rfl
          | true => exact absurd (pre_iff.1 hz).2 b
      · right; right; left
        refine ⟨?_, a', l⟩
        rw [← hp]
        cases hz : pre [123, 45] r with
        | false => rfl
        | true =>
          have := (pre_iff.1 hz).2
          rw [hn1' l] at this
          exact absurd this (by decide)
    · right; left
      refine ⟨?_, beq_false_of_ne (u8n 123 rfl a)⟩
      rw [← hp]
      cases hz : pre [123, 45] r with
      | false => rfl
      | true => exact absurd (pre_iff.1 hz).1 a
  have look := look _ rfl
  generalize pre [123, 45] r = p at *
  by_cases g7 : cls r = 7
  · rw [if_pos g7, stR_skip]
    rw [decide_eq_true g7] at q7
    clear g7 look hn1 hn1' a30 a31 a32 a33 a34 a35 a36 a37
    simp (disch := first | decide | omega | (simp only [LN]; omega) | (simp only [LN]; done) | fail) only [SV, SW, f511, Nat.reduceAdd, Nat.reduceBEq, hn, viewD, a25, a26, a27, a28, q7, cast1, a29, lose, oneOr]
  · rw [if_neg g7]
    rw [decide_eq_false g7] at q7
    clear g7 a29
    have six : ∀ st, ∃ c0 t0 n0 p0 e0 d0, stR i st = .agg [vI c0, vS t0, vI n0, vI p0, vI e0, vI d0] := by
      intro st
      cases st with
      | bad e => exact ⟨_, _, _, _, _, _, rfl⟩
      | skip k => exact ⟨_, _, _, _, _, _, rfl⟩
      | tok k t m n => exact ⟨_, _, _, _, _, _, rfl⟩
    rcases look with ⟨hp, l1, l2, l3⟩ | hnot
    · rw [if_pos hp]
      show runFun K f511 [vS s, vI i] [] = some (stR i (comR r), [], [])
      clear hn1 hn1' a31 a32 a33 a34 a35 a36 a37 hp
      obtain ⟨c0, t0, n0, p0, e0, d0, hx⟩ := six (comR r)
      rw [hx] at a30 ⊢
      rw [show vB (bAt r) = .d false (.int .u8 123) from by show V.d false (.int .u8 ((bAt r).toNat : Int)) = _; rw [l2]] at a25 a26 a27 a28
      rw [l2] at q7
      clear six look
      simp (disch := first | decide | omega | (simp only [LN]; omega) | (simp only [LN]; done) | fail) only [SV, SW, f511, Nat.reduceAdd, Nat.reduceBEq, hn, l2, viewD, a25, a26, a27, a28, cast1, l3, a30, lose, oneOr]
    · have hp : ¬ p = true := by
        rcases hnot with h | h | h <;> rw [h.1] <;> simp
      rw [if_neg hp]
      have hnot : ((((bAt r).toNat : Int) == 123) = false) ∨ ((((bAt r).toNat : Int) == 123) = true ∧ ¬ i + 1 < s.length) ∨
        ((((bAt r).toNat : Int) == 123) = true ∧ i + 1 < s.length ∧ (((nth s ((i + 1 : Nat) : Int)).toNat : Int) == 45) = false) := hnot.imp And.right (Or.imp And.right And.right)
      have l39 : ((bAt r).toNat : Int) = 39 → False ∨ bAt r = 39 := fun h => .inr ((u8k 39 rfl).mp h)
      clear hp hn1 hn1' a30
      -- the rest, told by its tests
      have rest : ∀ (k1 k2 k3 k5 : Bool) (st : St), K.call 25 [vB (bAt r)] = some (vT1 k1, []) → K.call 26 [vB (bAt r)] = some (vT1 k2, []) → K.call 27 [vB (bAt r)] = some (vT1 k3, []) → K.call 28 [vB (bAt r)] = some (vT1 k5, []) →
          ((k1 = true ∧ K.call 31 [vS s, vI i] = some (stR i st, [])) ∨ (k1 = false ∧ k2 = true ∧ K.call 32 [vS s, vI i] = some (stR i st, [])) ∨ (k1 = false ∧ k2 = false ∧ k3 = true ∧ K.call 33 [vS s, vI i] = some (stR i st, [])) ∨
            (k1 = false ∧ k2 = false ∧ k3 = false ∧ ((bAt r).toNat : Int) = 39 ∧ K.call 34 [vS s, vI i] = some (stR i st, [])) ∨ (k1 = false ∧ k2 = false ∧ k3 = false ∧ ((bAt r).toNat : Int) = 34 ∧ K.call 35 [vS s, vI i] = some (stR i st, [])) ∨
            (k1 = false ∧ k2 = false ∧ k3 = false ∧ ¬ ((bAt r).toNat : Int) = 39 ∧ ¬ ((bAt r).toNat : Int) = 34 ∧ k5 = true ∧ K.call 36 [vS s, vI i] = some (stR i st, [])) ∨
            (k1 = false ∧ k2 = false ∧ k3 = false ∧ ¬ ((bAt r).toNat : Int) = 39 ∧ ¬ ((bAt r).toNat : Int) = 34 ∧ k5 = false ∧ K.call 37 [vS s, vI i] = some (stR i st, []))) →
          runFun K f511 [vS s, vI i] [] = some (stR i st, [], []) := by
        intro k1 k2 k3 k5 st b1 b2 b3 b5 h
        clear a25 a26 a27 a28 a31 a32 a33 a34 a35 a36 a37 l39
        obtain ⟨c0, t0, n0, p0, e0, d0, hx⟩ := six st
        rw [hx] at h ⊢
        clear six hx
        rcases h with ⟨rfl, h⟩ | ⟨rfl, rfl, h⟩ | ⟨rfl, rfl, rfl, h⟩ | ⟨rfl, rfl, rfl, e, h⟩ | ⟨rfl, rfl, rfl, e, h⟩ | ⟨rfl, rfl, rfl, e, e', rfl, h⟩ | ⟨rfl, rfl, rfl, e, e', rfl, h⟩
        · rcases hnot with z | ⟨z, l⟩ | ⟨z, l, y⟩
          · simp (disch := first | decide | omega | (simp only [LN]; omega) | (simp only [LN]; done) | fail) only [SV, SW, f511, Nat.reduceAdd, Nat.reduceBEq, hn, viewD, b1, b2, b3, b5, q7, z, cast1, h, lose, oneOr]
          · simp (disch := first | decide | omega | (simp only [LN]; omega) | (simp only [LN]; done) | fail) only [SV, SW, f511, Nat.reduceAdd, Nat.reduceBEq, hn, viewD, b1, b2, b3, b5, q7, z, cast1, h, lose, oneOr]
          · simp (disch := first | decide | omega | (simp only [LN]; omega) | (simp only [LN]; done) | fail) only [SV, SW, f511, Nat.reduceAdd, Nat.reduceBEq, hn, viewD, b1, b2, b3, b5, q7, z, cast1, y, h, lose, oneOr]
        · rcases hnot with z | ⟨z, l⟩ | ⟨z, l, y⟩
          · simp (disch := first | decide | omega | (simp only [LN]; omega) | (simp only [LN]; done) | fail) only [SV, SW, f511, Nat.reduceAdd, Nat.reduceBEq, hn, viewD, b1, b2, b3, b5, q7, z, cast1, h, lose, oneOr]
          · simp (disch := first | decide | omega | (simp only [LN]; omega) | (simp only [LN]; done) | fail) only [SV, SW, f511, Nat.reduceAdd, Nat.reduceBEq, hn, viewD, b1, b2, b3, b5, q7, z, cast1, h, lose, oneOr]
          · simp (disch := first | decide | omega | (simp only [LN]; omega) | (simp only [LN]; done) | fail) only [SV, SW, f511, Nat.reduceAdd, Nat.reduceBEq, hn, viewD, b1, b2, b3, b5, q7, z, cast1, y, h, lose, oneOr]
        · rcases hnot with z | ⟨z, l⟩ | ⟨z, l, y⟩
          · simp (disch := first | decide | omega | (simp only [LN]; omega) | (simp only [LN]; done) | fail) only [SV, SW, f511, Nat.reduceAdd, Nat.reduceBEq, hn, viewD, b1, b2, b3, b5, q7, z, cast1, h, lose, oneOr]
          · simp (disch := first | decide | omega | (simp only [LN]; omega) | (simp only [LN]; done) | fail) only [SV, SW, f511, Nat.reduceAdd, Nat.reduceBEq, hn, viewD, b1, b2, b3, b5, q7, z, cast1, h, lose, oneOr]
          · simp (disch := first | decide | omega | (simp only [LN]; omega) | (simp only [LN]; done) | fail) only [SV, SW, f511, Nat.reduceAdd, Nat.reduceBEq, hn, viewD, b1, b2, b3, b5, q7, z, cast1, y, h, lose, oneOr]
        · have z : (((bAt r).toNat : Int) == 123) = false := by rw [e]; rfl
          rw [show vB (bAt r) = .d false (.int .u8 39) from by show V.d false (.int .u8 ((bAt r).toNat : Int)) = _; rw [e]] at b1 b2 b3 b5
          rw [e] at q7 z
          clear hnot
          simp (disch := first | decide | omega | (simp only [LN]; omega) | (simp only [LN]; done) | fail) only [SV, SW, f511, Nat.reduceAdd, Nat.reduceBEq, hn, e, viewD, b1, b2, b3, b5, z, cast1, h, lose, oneOr]
        · have z : (((bAt r).toNat : Int) == 123) = false := by rw [e]; rfl
          rw [show vB (bAt r) = .d false (.int .u8 34) from by show V.d false (.int .u8 ((bAt r).toNat : Int)) = _; rw [e]] at b1 b2 b3 b5
          rw [e] at q7 z
          clear hnot
          simp (disch := first | decide | omega | (simp only [LN]; omega) | (simp only [LN]; done) | fail) only [SV, SW, f511, Nat.reduceAdd, Nat.reduceBEq, hn, e, viewD, b1, b2, b3, b5, z, cast1, h, lose, oneOr]
        · have e := beq_false_of_ne e
          have e' := beq_false_of_ne e'
          rcases hnot with z | ⟨z, l⟩ | ⟨z, l, y⟩
          · simp (disch := first | decide | omega | (simp only [LN]; omega) | (simp only [LN]; done) | fail) only [SV, SW, f511, Nat.reduceAdd, Nat.reduceBEq, hn, viewD, b1, b2, b3, b5, q7, z, cast1, e, e', h, lose, oneOr]
          · simp (disch := first | decide | omega | (simp only [LN]; omega) | (simp only [LN]; done) | fail) only [SV, SW, f511, Nat.reduceAdd, Nat.reduceBEq, hn, viewD, b1, b2, b3, b5, q7, z, cast1, e, e', h, lose, oneOr]
          · simp (disch := first | decide | omega | (simp only [LN]; omega) | (simp only [LN]; done) | fail) only [SV, SW, f511, Nat.reduceAdd, Nat.reduceBEq, hn, viewD, b1, b2, b3, b5, q7, z, cast1, y, e, e', h, lose, oneOr]
        · have e := beq_false_of_ne e
          have e' := beq_false_of_ne e'
          rcases hnot with z | ⟨z, l⟩ | ⟨z, l, y⟩
          · simp (disch := first | decide | omega | (simp only [LN]; omega) | (simp only [LN]; done) | fail) only [SV, SW, f511, Nat.reduceAdd, Nat.reduceBEq, hn, viewD, b1, b2, b3, b5, q7, z, cast1, e, e', h, lose, oneOr]
          · simp (disch := first | decide | omega | (simp only [LN]; omega) | (simp only [LN]; done) | fail) only [SV, SW, f511, Nat.reduceAdd, Nat.reduceBEq, hn, viewD, b1, b2, b3, b5, q7, z, cast1, e, e', h, lose, oneOr]
          · simp (disch := first | decide | omega | (simp only [LN]; omega) | (simp only [LN]; done) | fail) only [SV, SW, f511, Nat.reduceAdd, Nat.reduceBEq, hn, viewD, b1, b2, b3, b5, q7, z, cast1, y, e, e', h, lose, oneOr]
      refine rest _ _ _ _ _ a25 a26 a27 a28 ?_
      clear rest hnot six
      by_cases c1 : cls r = 1
      · rw [if_pos c1]; exact .inl ⟨decide_eq_true c1, a31⟩
      rw [if_neg c1]
      have c1' := decide_eq_false c1
      by_cases c2 : cls r = 2
      · rw [if_pos c2]; exact .inr (.inl ⟨c1', decide_eq_true c2, a32⟩)
      rw [if_neg c2]
      have c2' := decide_eq_false c2
      by_cases c3 : cls r = 3
      · rw [if_pos c3]; exact .inr (.inr (.inl ⟨c1', c2', decide_eq_true c3, a33 c3⟩))
      rw [if_neg c3]
      have c3' := decide_eq_false c3
      by_cases c39 : bAt r = 39
      · rw [if_pos c39]; exact .inr (.inr (.inr (.inl ⟨c1', c2', c3', u8y 39 rfl c39, a34⟩)))
      rw [if_neg c39]
      by_cases c34 : bAt r = 34
      · rw [if_pos c34]; exact .inr (.inr (.inr (.inr (.inl ⟨c1', c2', c3', u8y 34 rfl c34, a35 c34⟩))))
      rw [if_neg c34]
      by_cases c5 : cls r = 5
      · rw [if_pos c5]; exact .inr (.inr (.inr (.inr (.inr (.inl ⟨c1', c2', c3', u8n 39 rfl c39, u8n 34 rfl c34, decide_eq_true c5, a36 c5⟩)))))
      · rw [if_neg c5]; exact .inr (.inr (.inr (.inr (.inr (.inr ⟨c1', c2', c3', u8n 39 rfl c39, u8n 34 rfl c34, decide_eq_false c5, a37⟩)))))
end Go.Vm
end

section
namespace Go.Vm
set_option maxRecDepth 20000

def lrSt (s : BS) (e : Nat) : List Tok → S
  | [] => ⟨[(0, vS s), (3, .ptr 0 0 0), (4, .fs true 4 []), (5, vI e)], [(0, .mix 4 [[vI 0, vI 0, vI 0, vS []]])], 1, []⟩
  | l => ⟨[(0, vS s), (3, .ptr 0 0 0), (4, .bsl 1 0 l.length), (5, vI e)], [(0, .mix 4 [[vI 0, vI 0, vI 0, vS []]]), (1, .dat true 4 (l.map eTok))], 2, []⟩
theorem lrSt_nil (s e) : lrSt s e [] = ⟨[(0, vS s), (3, .ptr 0 0 0), (4, .fs true 4 []), (5, vI e)], [(0, .mix 4 [[vI 0, vI 0, vI 0, vS []]])], 1, []⟩ := rfl
theorem lrSt_ne (s e) {l : List Tok} (h : l ≠ []) : lrSt s e l = ⟨[(0, vS s), (3, .ptr 0 0 0), (4, .bsl 1 0 l.length), (5, vI e)], [(0, .mix 4 [[vI 0, vI 0, vI 0, vS []]]), (1, .dat true 4 (l.map eTok))], 2, []⟩ := by
  cases l with
  | nil => exact absurd rfl h
  | cons a l => rfl
theorem lrSt_app (s e) (l : List Tok) (y : Tok) : lrSt s e (l ++ [y]) = ⟨[(0, vS s), (3, .ptr 0 0 0), (4, .bsl 1 0 (l.length + 1)), (5, vI e)], [(0, .mix 4 [[vI 0, vI 0, vI 0, vS []]]), (1, .dat true 4 (l.map eTok ++ [eTok y]))], 2, []⟩ := by
  rw [lrSt_ne _ _ (by simp)]
  simp
def lrEnd : List Tok → S
  | [] => ⟨[(3, .ptr 0 0 0), (4, .fs true 4 [])], [(0, .mix 4 [[vI 0, vI 0, vI 0, vS []]])], 1, []⟩
  | l => ⟨[(3, .ptr 0 0 0), (4, .bsl 1 0 l.length)], [(0, .mix 4 [[vI 0, vI 0, vI 0, vS []]]), (1, .dat true 4 (l.map eTok))], 2, []⟩
theorem lrEnd_nil : lrEnd [] = ⟨[(3, .ptr 0 0 0), (4, .fs true 4 [])], [(0, .mix 4 [[vI 0, vI 0, vI 0, vS []]])], 1, []⟩ := rfl
theorem lrEnd_ne {l : List Tok} (h : l ≠ []) : lrEnd l = ⟨[(3, .ptr 0 0 0), (4, .bsl 1 0 l.length)], [(0, .mix 4 [[vI 0, vI 0, vI 0, vS []]]), (1, .dat true 4 (l.map eTok))], 2, []⟩ := by
  cases l with
  | nil => exact absurd rfl h
  | cons a l => rfl
def lrOut (l : List Tok) : LR → Ex × S
  | .bad e i => (.ret, ⟨[(2, .fs true 4 []), (3, .ptr 0 0 0)], [(0, .mix 4 [[vI e, vI 0, vI i, vS []]])], 1, []⟩)
  | .ok m => (.exit 0, lrEnd (l ++ m))
theorem lrOut_cons (l : List Tok) (t : Tok) (r : LR) : lrOut l (LR.cons t r) = lrOut (l ++ [t]) r := by
  cases r with
  | bad e i => rfl
  | ok m => simp [LR.cons, lrOut]
theorem upS_kind (r : BS) : (upS r).1 = 2 ∨ (upS r).1 = 3 ∨ (upS r).1 = 4 := by
  rcases upS_cases r with ⟨_, h⟩ | ⟨_, _, h⟩
  · rw [h]; exact .inl rfl
  · rw [h]
    split
    · exact .inr (.inr rfl)
    · split
      · exact .inr (.inl rfl)
      · exact .inl rfl
theorem ite_tokK {c : Prop} [Decidable c] {e0 k0 k : Nat} {t0 t : BS} {m0 m : Int} {n0 n : Nat} (h : (if c then St.bad e0 else St.tok k0 t0 m0 n0) = .tok k t m n) : k0 = k := by
  split at h
  · cases h
  · injection h
theorem quotS_kind {r : BS} {k : Nat} {t : BS} {m : Int} {n : Nat} (h : quotS r = .tok k t m n) : k = 7 ∨ k = 8 := by
  unfold quotS at h
  split at h
  · cases h
  · split at h
    · injection h with h; exact .inr h.symm
    · split at h
      · injection h with h; exact .inl h.symm
      · cases h
theorem tokS_kind {r : BS} {k : Nat} {t : BS} {m : Int} {n : Nat} (h : tokS r = .tok k t m n) : k ≠ 0 := by
  unfold tokS at h
  split at h
  · injection h with h
    rw [← h]; split <;> decide
  · split at h
    · injection h with h
      rcases upS_kind r with e | e | e <;> omega
    · split at h
      · unfold numS at h
        have := ite_tokK h
        omega
      · split at h
        · unfold opS at h
          simp only at h
          split at h
          · injection h with h; omega
          · have := ite_tokK h
            omega
        · split at h
          · injection h with h; omega
          · split at h
            · split at h
              · rcases quotS_kind h with e | e <;> omega
              · have := ite_tokK h
                omega
            · split at h
              · rcases quotS_kind h with e | e <;> omega
              · cases h
theorem stepS_kind {r : BS} {k : Nat} {t : BS} {m : Int} {n : Nat} (h : stepS r = .tok k t m n) : k ≠ 0 := by
  unfold stepS at h
  split at h
  · cases h
  · split at h
    · split at h <;> cases h
    · split at h
      · cases h
      · exact tokS_kind h

theorem lr_loop (K : Cx) (h11 : K511 K) (s : BS) (hs : s.length ≤ 65536) : ∀ (n : Nat) (r : BS), r.length = n → ∀ (i : Nat) (l : List Tok), s.drop i = r → i ≤ s.length → l.length ≤ 20000 →
    lp K 0 [0, 3, 4, 5] f505_L0 (lrSt s i l) = some (lrOut l (lexS r i l.length)) := by
  intro n
  induction n using Nat.strongRecOn with
  | ind n ih =>
    intro r hr i l hd hi hl
    subst hr
    cases r with
    | nil =>
      have hx := congrArg List.length hd
      rw [List.length_drop, List.length_nil] at hx
      have : i = s.length := by omega
      subst this
      rw [lexS]
      simp only [lrOut, List.append_nil]
      clear ih
      by_cases h : l = []
      · subst h
        rw [lrSt_nil, lrEnd_nil, lp_un f505_L0.eq_1]
        simp (disch := first | decide | omega | (simp only [LN]; omega) | (simp only [LN]; done) | fail) only [SV, SW, Nat.reduceBEq]
      · rw [lrSt_ne _ _ h, lrEnd_ne h, lp_un f505_L0.eq_1]
        clear h
        simp (disch := first | decide | omega | (simp only [LN]; omega) | (simp only [LN]; done) | fail) only [SV, SW, Nat.reduceBEq, reduceCtorEq, Nat.reduceAdd]
    | cons c r' =>
      have hlt : i < s.length := by
        have := congrArg List.length hd
        rw [List.length_drop, List.length_cons] at this
        omega
      have hlr : r'.length + 1 + i = s.length := by
        have := congrArg List.length hd
        rw [List.length_drop, List.length_cons] at this
        omega
      have h := h11 s i hlt (by omega)
      rw [hd] at h
      obtain ⟨hsk, htk⟩ := stepS_len (r := c :: r') (by simp)
      rw [lexS]
      cases hst : stepS (c :: r') with
      | bad e =>
        have he := stepS_code hst
        rw [hst, stR_bad] at h
        simp only [lrOut]
        have he0 : ((e : Int) != 0) = true := by rw [bne_iff_ne]; omega
        clear ih hsk htk hst he
        by_cases g : l = []
        · subst g
          rw [lrSt_nil, lp_un f505_L0.eq_1]
          simp (disch := first | decide | omega | (simp only [LN]; omega) | (simp only [LN]; done) | fail) only [SV, SW, Nat.reduceBEq, Nat.reduceAdd, viewD, h, lose, he0]
        · rw [lrSt_ne _ _ g, lp_un f505_L0.eq_1]
          clear g
          simp (disch := first | decide | omega | (simp only [LN]; omega) | (simp only [LN]; done) | fail) only [SV, SW, Nat.reduceBEq, Nat.reduceAdd, viewD, h, lose, he0]
      | skip k =>
        have hk := hsk k hst
        simp only [List.length_cons] at hk
        rw [hst, stR_skip] at h
        have ih := ih (r'.drop (k - 1)).length (by rw [List.length_drop, List.length_cons]; omega) (r'.drop (k - 1)) rfl (i + k) l (by rw [dd, hd, drop_pred hk.1]) (by omega) hl
        simp only
        rw [← ih]
        clear ih hsk htk hst
        by_cases g : l = []
        · subst g
          rw [lrSt_nil, lrSt_nil, lp_un f505_L0.eq_1]
          simp (disch := first | decide | omega | (simp only [LN]; omega) | (simp only [LN]; done) | fail) only [SV, SW, Nat.reduceBEq, Nat.reduceAdd, viewD, h, lose]
        · rw [lrSt_ne _ _ g, lrSt_ne _ _ g, lp_un f505_L0.eq_1]
          clear g
          simp (disch := first | decide | omega | (simp only [LN]; omega) | (simp only [LN]; done) | fail) only [SV, SW, Nat.reduceBEq, Nat.reduceAdd, viewD, h, lose, reduceCtorEq]
      | tok kd tx nm k =>
        have hk := htk _ _ _ _ hst
        simp only [List.length_cons] at hk
        have hkd := stepS_kind hst
        have hkd0 : ((kd : Int) != 0) = true := by rw [bne_iff_ne]; omega
        rw [hst, stR_tok] at h
        simp only
        by_cases g4 : l.length = 20000
        · rw [if_pos g4]
          simp only [lrOut]
          have hne : l ≠ [] := by rintro rfl; simp at g4
          rw [lrSt_ne _ _ hne, lp_un f505_L0.eq_1]
          have g5 : (((l.length : Nat) : Int) == 20000) = true := by rw [beq_iff_eq]; omega
          clear ih hsk htk hst hne hkd
          simp (disch := first | decide | omega | (simp only [LN]; omega) | (simp only [LN]; done) | fail) only [SV, SW, Nat.reduceBEq, Nat.reduceAdd, viewD, h, lose, hkd0, g5, nc]
        · rw [if_neg g4, lrOut_cons]
          have ih := ih (r'.drop (k - 1)).length (by rw [List.length_drop, List.length_cons]; omega) (r'.drop (k - 1)) rfl (i + k) (l ++ [⟨kd, tx, nm, i⟩]) (by rw [dd, hd, drop_pred hk.1]) (by omega) (by simp; omega)
          rw [List.length_append, List.length_cons, List.length_nil] at ih
          rw [← ih, lrSt_app]
          have g5 : (((l.length : Nat) : Int) == 20000) = false := by rw [beq_eq_false_iff_ne]; omega
          clear ih hsk htk hst hkd g4
          by_cases g : l = []
          · subst g
            rw [lrSt_nil, lp_un f505_L0.eq_1]
            simp only [List.length_nil, Nat.zero_add, List.map_nil, List.nil_append, eTok] at g5 ⊢
            simp (disch := first | decide | omega | (simp only [LN]; omega) | (simp only [LN]; done) | fail) only [SV, SW, Nat.reduceBEq, Nat.reduceAdd, viewD, h, lose, hkd0, nc, reduceCtorEq]
          · rw [lrSt_ne _ _ g, lp_un f505_L0.eq_1]
            simp only [eTok]
            clear g
            simp (disch := first | decide | omega | (simp only [LN]; omega) | (simp only [LN]; done) | fail) only [SV, SW, Nat.reduceBEq, Nat.reduceAdd, viewD, h, lose, hkd0, g5, V.forget, V.drop1, V.ref0, reduceCtorEq, Nat.reduceEqDiff]

def lexRV (s : BS) : V :=
  if 65536 < s.length then .tup [.d true (.sl 4 []), fltV 2 0 (-1) []]
  else match lexS s 0 0 with
    | .bad e i => .tup [.d true (.sl 4 []), fltV e 0 i []]
    | .ok l => .tup [.d true (.sl 4 (l.map eTok)), fltV 0 0 0 []]
theorem ev_LexR (K : Cx) (h11 : K511 K) (s : BS) (hs : s.length ≤ 2000000) : ∃ r mv, runFun K f505 [vS s] [] = some (r, [], mv) ∧ r.ease = lexRV s := by
  unfold lexRV
  by_cases g : 65536 < s.length
  · rw [if_pos g]
    have e : runFun K f505 [vS s] [] = some (.tup [.fs true 4 [], fltV 2 0 (-1) []], [], []) := by
      simp (disch := first | decide | omega | (simp only [LN]; omega) | (simp only [LN]; done) | fail) only [SV, SW, f505, Int.reduceNeg, Nat.reduceAdd, Nat.reduceBEq, lose, oneOr]
    exact ⟨_, _, e, rfl⟩
  · rw [if_neg g]
    have h := lr_loop K h11 s (by omega) _ s rfl 0 [] (List.drop_zero ..) (by omega) (by simp)
    rw [List.length_nil, lrSt_nil, Int.natCast_zero] at h
    cases hx : lexS s 0 0 with
    | bad e i =>
      rw [hx] at h
      simp only [lrOut] at h
      simp only
      have e : runFun K f505 [vS s] [] = some (.tup [.fs true 4 [], fltV e 0 i []], [], []) := by
        clear hx
        simp (disch := first | decide | omega | (simp only [LN]; omega) | (simp only [LN]; done) | fail) only [SV, SW, f505, Int.reduceNeg, Nat.reduceAdd, Nat.reduceBEq, h, oneOr]
      exact ⟨_, _, e, rfl⟩
    | ok l =>
      rw [hx] at h
      simp only [lrOut, List.nil_append] at h
      simp only
      by_cases g0 : l = []
      · subst g0
        rw [lrEnd_nil] at h
        have e : runFun K f505 [vS s] [] = some (.tup [.fs true 4 [], fltV 0 0 0 []], [], []) := by
          clear hx
          simp (disch := first | decide | omega | (simp only [LN]; omega) | (simp only [LN]; done) | fail) only [SV, SW, f505, Int.reduceNeg, Nat.reduceAdd, Nat.reduceBEq, h, lose, oneOr]
        exact ⟨_, _, e, rfl⟩
      · rw [lrEnd_ne g0] at h
        have e : runFun K f505 [vS s] [] = some (.tup [.d true (.sl 4 (l.map eTok)), fltV 0 0 0 []], [], []) := by
          clear hx g0
          simp (disch := first | decide | omega | (simp only [LN]; omega) | (simp only [LN]; done) | fail) only [SV, SW, f505, Int.reduceNeg, Nat.reduceAdd, Nat.reduceBEq, h, lose, reduceCtorEq, oneOr, hNew, V.forget, V.drop1, V.ref0, V.newR, viewD]
        exact ⟨_, _, e, rfl⟩
end Go.Vm
end

section
namespace Go.Vm
open Go.Shelf Go.Proofs
noncomputable def z74 : Sp where
  α := UInt8
  f := 25
  ok := fun c => True
  args := fun c => [.d false (.int .u8 (c : UInt8).toNat)]
  res := fun c => (.d false (.bool (decide (clB c = 1))), [])
  inj := by
    rintro c c' _ _ h
    simp only [vS, vI, slT, vT_inj, List.cons.injEq, V.agg.injEq, V.d.injEq, D.sl.injEq, D.int.injEq, D.str.injEq, D.bool.injEq, D.ptr.injEq, Int.natCast_inj, UInt8.toNat_inj, mT, true_and, and_true] at h
    rw [h]
noncomputable def z75 : Sp where
  α := UInt8
  f := 26
  ok := fun c => True
  args := fun c => [.d false (.int .u8 (c : UInt8).toNat)]
  res := fun c => (.d false (.bool (decide (clB c = 2))), [])
  inj := by
    rintro c c' _ _ h
    simp only [vS, vI, slT, vT_inj, List.cons.injEq, V.agg.injEq, V.d.injEq, D.sl.injEq, D.int.injEq, D.str.injEq, D.bool.injEq, D.ptr.injEq, Int.natCast_inj, UInt8.toNat_inj, mT, true_and, and_true] at h
    rw [h]
noncomputable def z95 : Sp where
  α := UInt8
  f := 27
  ok := fun c => True
  args := fun c => [.d false (.int .u8 (c : UInt8).toNat)]
  res := fun c => (.d false (.bool (decide (clB c = 3))), [])
  inj := by
    rintro c c' _ _ h
    simp only [vS, vI, slT, vT_inj, List.cons.injEq, V.agg.injEq, V.d.injEq, D.sl.injEq, D.int.injEq, D.str.injEq, D.bool.injEq, D.ptr.injEq, Int.natCast_inj, UInt8.toNat_inj, mT, true_and, and_true] at h
    rw [h]
noncomputable def z86 : Sp where
  α := UInt8
  f := 57
  ok := fun c => True
  args := fun c => [.d false (.int .u8 (c : UInt8).toNat)]
  res := fun c => (.d false (.bool (decide (1 ≤ clB c) && decide (clB c ≤ 4))), [])
  inj := by
    rintro c c' _ _ h
    simp only [vS, vI, slT, vT_inj, List.cons.injEq, V.agg.injEq, V.d.injEq, D.sl.injEq, D.int.injEq, D.str.injEq, D.bool.injEq, D.ptr.injEq, Int.natCast_inj, UInt8.toNat_inj, mT, true_and, and_true] at h
    rw [h]
noncomputable def z79 : Sp where
  α := UInt8 × BS
  f := 51
  ok := fun (c, s) => (s.length ≤ 1000)
  args := fun (c, s) => [.d false (.int .u8 (c : UInt8).toNat), vS s]
  res := fun (c, s) => (.d false (.bool (decide (c ∈ s))), [])
  inj := by
    rintro ⟨c, s⟩ ⟨c', s'⟩ _ _ h
    simp only [vS, vI, slT, vT_inj, List.cons.injEq, V.agg.injEq, V.d.injEq, D.sl.injEq, D.int.injEq, D.str.injEq, D.bool.injEq, D.ptr.injEq, Int.natCast_inj, UInt8.toNat_inj, mT, true_and, and_true] at h
    simp only [h]
noncomputable def z77 : Sp where
  α := UInt8
  f := 28
  ok := fun c => True
  args := fun c => [.d false (.int .u8 (c : UInt8).toNat)]
  res := fun c => (.d false (.bool (decide (clB c = 5))), [])
  inj := by
    rintro c c' _ _ h
    simp only [vS, vI, slT, vT_inj, List.cons.injEq, V.agg.injEq, V.d.injEq, D.sl.injEq, D.int.injEq, D.str.injEq, D.bool.injEq, D.ptr.injEq, Int.natCast_inj, UInt8.toNat_inj, mT, true_and, and_true] at h
    rw [h]
noncomputable def z57 : Sp where
  α := UInt8
  f := 61
  ok := fun c => True
  args := fun c => [.d false (.int .u8 (c : UInt8).toNat)]
  res := fun c => (.d false (.bool (spcB c)), [])
  inj := by
    rintro c c' _ _ h
    simp only [vS, vI, slT, vT_inj, List.cons.injEq, V.agg.injEq, V.d.injEq, D.sl.injEq, D.int.injEq, D.str.injEq, D.bool.injEq, D.ptr.injEq, Int.natCast_inj, UInt8.toNat_inj, mT, true_and, and_true] at h
    rw [h]
noncomputable def z76 : Sp where
  α := BS × Nat
  f := 53
  ok := fun (s, i) => (i ≤ s.length) ∧ (s.length ≤ 4611686018427387903)
  args := fun (s, i) => [vS s, vI i]
  res := fun (s, i) => (vI ((i + nameL (s.drop i) : Nat)), [])
  inj := by
    rintro ⟨s, i⟩ ⟨s', i'⟩ _ _ h
    simp only [vS, vI, slT, vT_inj, List.cons.injEq, V.agg.injEq, V.d.injEq, D.sl.injEq, D.int.injEq, D.str.injEq, D.bool.injEq, D.ptr.injEq, Int.natCast_inj, UInt8.toNat_inj, mT, true_and, and_true] at h
    simp only [h]
noncomputable def z55 : Sp where
  α := BS × Nat
  f := 59
  ok := fun (s, i) => (i ≤ s.length) ∧ (s.length ≤ 4611686018427387903)
  args := fun (s, i) => [vS s, vI i]
  res := fun (s, i) => (vI ((i + runL 5 (s.drop i) : Nat)), [])
  inj := by
    rintro ⟨s, i⟩ ⟨s', i'⟩ _ _ h
    simp only [vS, vI, slT, vT_inj, List.cons.injEq, V.agg.injEq, V.d.injEq, D.sl.injEq, D.int.injEq, D.str.injEq, D.bool.injEq, D.ptr.injEq, Int.natCast_inj, UInt8.toNat_inj, mT, true_and, and_true] at h
    simp only [h]
noncomputable def z78 : Sp where
  α := BS
  f := 79
  ok := fun s => (s.length ≤ 4611686018427387903)
  args := fun s => [vS s]
  res := fun s => (.d false (.bool (dsh s)), [])
  inj := by
    rintro s s' _ _ h
    simp only [vS, vI, slT, vT_inj, List.cons.injEq, V.agg.injEq, V.d.injEq, D.sl.injEq, D.int.injEq, D.str.injEq, D.bool.injEq, D.ptr.injEq, Int.natCast_inj, UInt8.toNat_inj, mT, true_and, and_true] at h
    rw [h]
noncomputable def z58 : Sp where
  α := BS
  f := 54
  ok := fun s => True
  args := fun s => [vS s]
  res := fun s => (.d false (.bool (resv s)), [])
  inj := by
    rintro s s' _ _ h
    simp only [vS, vI, slT, vT_inj, List.cons.injEq, V.agg.injEq, V.d.injEq, D.sl.injEq, D.int.injEq, D.str.injEq, D.bool.injEq, D.ptr.injEq, Int.natCast_inj, UInt8.toNat_inj, mT, true_and, and_true] at h
    rw [h]
noncomputable def z56 : Sp where
  α := BS
  f := 60
  ok := fun s => (s ≠ []) ∧ (s.length ≤ 4611686018427387903)
  args := fun s => [vS s]
  res := fun s => (vI (kindS s), [])
  inj := by
    rintro s s' _ _ h
    simp only [vS, vI, slT, vT_inj, List.cons.injEq, V.agg.injEq, V.d.injEq, D.sl.injEq, D.int.injEq, D.str.injEq, D.bool.injEq, D.ptr.injEq, Int.natCast_inj, UInt8.toNat_inj, mT, true_and, and_true] at h
    rw [h]
noncomputable def z552 : Sp where
  α := Int
  f := 52
  ok := fun e => True
  args := fun e => [vI e]
  res := fun e => (.agg [vI 0, vS [], vI 0, vI 0, vI 0, vI e], [])
  inj := by
    rintro e e' _ _ h
    simp only [vS, vI, slT, vT_inj, List.cons.injEq, V.agg.injEq, V.d.injEq, D.sl.injEq, D.int.injEq, D.str.injEq, D.bool.injEq, D.ptr.injEq, Int.natCast_inj, UInt8.toNat_inj, mT, true_and, and_true] at h
    rw [h]
noncomputable def z529 : Sp where
  α := Int
  f := 29
  ok := fun e => True
  args := fun e => [vI e]
  res := fun e => (.agg [vI 0, vS [], vI 0, vI 0, vI e, vI 0], [])
  inj := by
    rintro e e' _ _ h
    simp only [vS, vI, slT, vT_inj, List.cons.injEq, V.agg.injEq, V.d.injEq, D.sl.injEq, D.int.injEq, D.str.injEq, D.bool.injEq, D.ptr.injEq, Int.natCast_inj, UInt8.toNat_inj, mT, true_and, and_true] at h
    rw [h]
noncomputable def z555 : Sp where
  α := UInt8
  f := 55
  ok := fun c => True
  args := fun c => [.d false (.int .u8 (c : UInt8).toNat)]
  res := fun c => (.d false (.bool (decide (0 ≤ hexB c))), [])
  inj := by
    rintro c c' _ _ h
    simp only [vS, vI, slT, vT_inj, List.cons.injEq, V.agg.injEq, V.d.injEq, D.sl.injEq, D.int.injEq, D.str.injEq, D.bool.injEq, D.ptr.injEq, Int.natCast_inj, UInt8.toNat_inj, mT, true_and, and_true] at h
    rw [h]
noncomputable def z556 : Sp where
  α := UInt8
  f := 56
  ok := fun c => (0 ≤ hexB c)
  args := fun c => [.d false (.int .u8 (c : UInt8).toNat)]
  res := fun c => (vI (hexB c), [])
  inj := by
    rintro c c' _ _ h
    simp only [vS, vI, slT, vT_inj, List.cons.injEq, V.agg.injEq, V.d.injEq, D.sl.injEq, D.int.injEq, D.str.injEq, D.bool.injEq, D.ptr.injEq, Int.natCast_inj, UInt8.toNat_inj, mT, true_and, and_true] at h
    rw [h]
noncomputable def z530 : Sp where
  α := BS × Nat
  f := 30
  ok := fun (s, i) => (i ≤ s.length) ∧ (s.length ≤ 2000000)
  args := fun (s, i) => [vS s, vI i]
  res := fun (s, i) => (stR i (comR (s.drop i)), [])
  inj := by
    rintro ⟨s, i⟩ ⟨s', i'⟩ _ _ h
    simp only [vS, vI, slT, vT_inj, List.cons.injEq, V.agg.injEq, V.d.injEq, D.sl.injEq, D.int.injEq, D.str.injEq, D.bool.injEq, D.ptr.injEq, Int.natCast_inj, UInt8.toNat_inj, mT, true_and, and_true] at h
    simp only [h]
noncomputable def z531 : Sp where
  α := BS × Nat
  f := 31
  ok := fun (s, i) => (i < s.length) ∧ (s.length ≤ 2000000)
  args := fun (s, i) => [vS s, vI i]
  res := fun (s, i) => (stR i (lowR (s.drop i)), [])
  inj := by
    rintro ⟨s, i⟩ ⟨s', i'⟩ _ _ h
    simp only [vS, vI, slT, vT_inj, List.cons.injEq, V.agg.injEq, V.d.injEq, D.sl.injEq, D.int.injEq, D.str.injEq, D.bool.injEq, D.ptr.injEq, Int.natCast_inj, UInt8.toNat_inj, mT, true_and, and_true] at h
    simp only [h]
noncomputable def z532 : Sp where
  α := BS × Nat
  f := 32
  ok := fun (s, i) => (i < s.length) ∧ (s.length ≤ 2000000)
  args := fun (s, i) => [vS s, vI i]
  res := fun (s, i) => (stR i (uppR (s.drop i)), [])
  inj := by
    rintro ⟨s, i⟩ ⟨s', i'⟩ _ _ h
    simp only [vS, vI, slT, vT_inj, List.cons.injEq, V.agg.injEq, V.d.injEq, D.sl.injEq, D.int.injEq, D.str.injEq, D.bool.injEq, D.ptr.injEq, Int.natCast_inj, UInt8.toNat_inj, mT, true_and, and_true] at h
    simp only [h]
noncomputable def z533 : Sp where
  α := BS × Nat
  f := 33
  ok := fun (s, i) => (i < s.length) ∧ (s.length ≤ 2000000) ∧ (cls (s.drop i) = 3)
  args := fun (s, i) => [vS s, vI i]
  res := fun (s, i) => (stR i (nmbR (s.drop i)), [])
  inj := by
    rintro ⟨s, i⟩ ⟨s', i'⟩ _ _ h
    simp only [vS, vI, slT, vT_inj, List.cons.injEq, V.agg.injEq, V.d.injEq, D.sl.injEq, D.int.injEq, D.str.injEq, D.bool.injEq, D.ptr.injEq, Int.natCast_inj, UInt8.toNat_inj, mT, true_and, and_true] at h
    simp only [h]
noncomputable def z578 : Sp where
  α := BS × Nat
  f := 78
  ok := fun (s, i) => (i < s.length) ∧ (s.length ≤ 2000000)
  args := fun (s, i) => [vS s, vI i]
  res := fun (s, i) => (vEsc i (escA (s.drop i)), [])
  inj := by
    rintro ⟨s, i⟩ ⟨s', i'⟩ _ _ h
    simp only [vS, vI, slT, vT_inj, List.cons.injEq, V.agg.injEq, V.d.injEq, D.sl.injEq, D.int.injEq, D.str.injEq, D.bool.injEq, D.ptr.injEq, Int.natCast_inj, UInt8.toNat_inj, mT, true_and, and_true] at h
    simp only [h]
noncomputable def z558 : Sp where
  α := BS × Nat × UInt8
  f := 58
  ok := fun (s, i, q) => (i ≤ s.length) ∧ (s.length ≤ 2000000) ∧ (q ≠ 92) ∧ (q ≠ 0)
  args := fun (s, i, q) => [vS s, vI i, .d false (.int .u8 (q : UInt8).toNat)]
  res := fun (s, i, q) => (vEsc i (soundS (s.drop i) q), [])
  inj := by
    rintro ⟨s, i, q⟩ ⟨s', i', q'⟩ _ _ h
    simp only [vS, vI, slT, vT_inj, List.cons.injEq, V.agg.injEq, V.d.injEq, D.sl.injEq, D.int.injEq, D.str.injEq, D.bool.injEq, D.ptr.injEq, Int.natCast_inj, UInt8.toNat_inj, mT, true_and, and_true] at h
    simp only [h]
noncomputable def z534 : Sp where
  α := BS × Nat
  f := 34
  ok := fun (s, i) => (i < s.length) ∧ (s.length ≤ 2000000)
  args := fun (s, i) => [vS s, vI i]
  res := fun (s, i) => (stR i (charR (s.drop i)), [])
  inj := by
    rintro ⟨s, i⟩ ⟨s', i'⟩ _ _ h
    simp only [vS, vI, slT, vT_inj, List.cons.injEq, V.agg.injEq, V.d.injEq, D.sl.injEq, D.int.injEq, D.str.injEq, D.bool.injEq, D.ptr.injEq, Int.natCast_inj, UInt8.toNat_inj, mT, true_and, and_true] at h
    simp only [h]
noncomputable def z535 : Sp where
  α := BS × Nat
  f := 35
  ok := fun (s, i) => (i < s.length) ∧ (s.length ≤ 2000000) ∧ (bAt (s.drop i) = 34)
  args := fun (s, i) => [vS s, vI i]
  res := fun (s, i) => (stR i (textR (s.drop i)), [])
  inj := by
    rintro ⟨s, i⟩ ⟨s', i'⟩ _ _ h
    simp only [vS, vI, slT, vT_inj, List.cons.injEq, V.agg.injEq, V.d.injEq, D.sl.injEq, D.int.injEq, D.str.injEq, D.bool.injEq, D.ptr.injEq, Int.natCast_inj, UInt8.toNat_inj, mT, true_and, and_true] at h
    simp only [h]
noncomputable def z536 : Sp where
  α := BS × Nat
  f := 36
  ok := fun (s, i) => (i < s.length) ∧ (s.length ≤ 2000000) ∧ (cls (s.drop i) = 5)
  args := fun (s, i) => [vS s, vI i]
  res := fun (s, i) => (stR i (signR (s.drop i)), [])
  inj := by
    rintro ⟨s, i⟩ ⟨s', i'⟩ _ _ h
    simp only [vS, vI, slT, vT_inj, List.cons.injEq, V.agg.injEq, V.d.injEq, D.sl.injEq, D.int.injEq, D.str.injEq, D.bool.injEq, D.ptr.injEq, Int.natCast_inj, UInt8.toNat_inj, mT, true_and, and_true] at h
    simp only [h]
noncomputable def z537 : Sp where
  α := BS × Nat
  f := 37
  ok := fun (s, i) => (i < s.length) ∧ (s.length ≤ 2000000)
  args := fun (s, i) => [vS s, vI i]
  res := fun (s, i) => (stR i (oneR (s.drop i)), [])
  inj := by
    rintro ⟨s, i⟩ ⟨s', i'⟩ _ _ h
    simp only [vS, vI, slT, vT_inj, List.cons.injEq, V.agg.injEq, V.d.injEq, D.sl.injEq, D.int.injEq, D.str.injEq, D.bool.injEq, D.ptr.injEq, Int.natCast_inj, UInt8.toNat_inj, mT, true_and, and_true] at h
    simp only [h]
noncomputable def z511 : Sp where
  α := BS × Nat
  f := 11
  ok := fun (s, i) => (i < s.length) ∧ (s.length ≤ 2000000)
  args := fun (s, i) => [vS s, vI i]
  res := fun (s, i) => (stR i (stepS (s.drop i)), [])
  inj := by
    rintro ⟨s, i⟩ ⟨s', i'⟩ _ _ h
    simp only [vS, vI, slT, vT_inj, List.cons.injEq, V.agg.injEq, V.d.injEq, D.sl.injEq, D.int.injEq, D.str.injEq, D.bool.injEq, D.ptr.injEq, Int.natCast_inj, UInt8.toNat_inj, mT, true_and, and_true] at h
    simp only [h]
noncomputable def z505 : Sp where
  α := BS
  f := 5
  ok := fun s => (s.length ≤ 2000000)
  args := fun s => [vS s]
  res := fun s => (lexRV s, [])
  inj := by
    rintro s s' _ _ h
    simp only [vS, vI, slT, vT_inj, List.cons.injEq, V.agg.injEq, V.d.injEq, D.sl.injEq, D.int.injEq, D.str.injEq, D.bool.injEq, D.ptr.injEq, Int.natCast_inj, UInt8.toNat_inj, mT, true_and, and_true] at h
    rw [h]
theorem k74_of {L E} (h : Has L z74) : K74 (cx GT L E) := fun c => h c trivial
theorem k75_of {L E} (h : Has L z75) : K75 (cx GT L E) := fun c => h c trivial
theorem k95_of {L E} (h : Has L z95) : K95 (cx GT L E) := fun c => h c trivial
theorem k86_of {L E} (h : Has L z86) : K86 (cx GT L E) := fun c => h c trivial
theorem k79_of {L E} (h : Has L z79) : K79 (cx GT L E) := fun c s h1 => h (c, s) h1
theorem k77_of {L E} (h : Has L z77) : K77 (cx GT L E) := fun c => h c trivial
theorem k57_of {L E} (h : Has L z57) : K57 (cx GT L E) := fun c => h c trivial
theorem k76_of {L E} (h : Has L z76) : K76 (cx GT L E) := fun s i h1 h2 => h (s, i) ⟨h1, h2⟩
theorem k55_of {L E} (h : Has L z55) : K55 (cx GT L E) := fun s i h1 h2 => h (s, i) ⟨h1, h2⟩
theorem k78_of {L E} (h : Has L z78) : K78 (cx GT L E) := fun s h1 => h s h1
theorem k58_of {L E} (h : Has L z58) : K58 (cx GT L E) := fun s => h s trivial
theorem k56_of {L E} (h : Has L z56) : K56 (cx GT L E) := fun s h1 h2 => h s ⟨h1, h2⟩
theorem k552_of {L E} (h : Has L z552) : K552 (cx GT L E) := fun e => h e trivial
theorem k529_of {L E} (h : Has L z529) : K529 (cx GT L E) := fun e => h e trivial
theorem k555_of {L E} (h : Has L z555) : K555 (cx GT L E) := fun c => h c trivial
theorem k556_of {L E} (h : Has L z556) : K556 (cx GT L E) := fun c h1 => h c h1
theorem k530_of {L E} (h : Has L z530) : K530 (cx GT L E) := fun s i h1 h2 => h (s, i) ⟨h1, h2⟩
theorem k531_of {L E} (h : Has L z531) : K531 (cx GT L E) := fun s i h1 h2 => h (s, i) ⟨h1, h2⟩
theorem k532_of {L E} (h : Has L z532) : K532 (cx GT L E) := fun s i h1 h2 => h (s, i) ⟨h1, h2⟩
theorem k533_of {L E} (h : Has L z533) : K533 (cx GT L E) := fun s i h1 h2 h3 => h (s, i) ⟨h1, h2, h3⟩
theorem k578_of {L E} (h : Has L z578) : K578 (cx GT L E) := fun s i h1 h2 => h (s, i) ⟨h1, h2⟩
theorem k558_of {L E} (h : Has L z558) : K558 (cx GT L E) := fun s i q h1 h2 h3 h4 => h (s, i, q) ⟨h1, h2, h3, h4⟩
theorem k534_of {L E} (h : Has L z534) : K534 (cx GT L E) := fun s i h1 h2 => h (s, i) ⟨h1, h2⟩
theorem k535_of {L E} (h : Has L z535) : K535 (cx GT L E) := fun s i h1 h2 h3 => h (s, i) ⟨h1, h2, h3⟩
theorem k536_of {L E} (h : Has L z536) : K536 (cx GT L E) := fun s i h1 h2 h3 => h (s, i) ⟨h1, h2, h3⟩
theorem k537_of {L E} (h : Has L z537) : K537 (cx GT L E) := fun s i h1 h2 => h (s, i) ⟨h1, h2⟩
theorem k511_of {L E} (h : Has L z511) : K511 (cx GT L E) := fun s i h1 h2 => h (s, i) ⟨h1, h2⟩
noncomputable def N30 : List Sp := z74 :: N29
theorem zn30 : Known Tryz.prog GT N30 EE := by
  exact zn29.add mixedD (fun c _ => f74_ok) (fun c _ => ⟨_, ev_small _ c⟩)
noncomputable def N31 : List Sp := z75 :: N30
theorem zn31 : Known Tryz.prog GT N31 EE := by
  exact zn30.add mixedD (fun c _ => f75_ok) (fun c _ => ⟨_, ev_capital _ c⟩)
noncomputable def N32 : List Sp := z95 :: N31
theorem zn32 : Known Tryz.prog GT N32 EE := by
  exact zn31.add mixedD (fun c _ => f95_ok) (fun c _ => ⟨_, ev_digit _ c⟩)
noncomputable def N33 : List Sp := z86 :: N32
theorem zn33 : Known Tryz.prog GT N33 EE := by
  have k74 := k74_of (E := EE) (show Has N32 z74 by repeat (first | exact has_head _ _ | refine has_tail ?_ (by decide)))
  have k75 := k75_of (E := EE) (show Has N32 z75 by repeat (first | exact has_head _ _ | refine has_tail ?_ (by decide)))
  have k95 := k95_of (E := EE) (show Has N32 z95 by repeat (first | exact has_head _ _ | refine has_tail ?_ (by decide)))
  exact zn32.add mixedD (fun c _ => f86_ok) (fun c _ => ⟨_, ev_sign _ k74 k75 k95 c⟩)
noncomputable def N34 : List Sp := z79 :: N33
theorem zn34 : Known Tryz.prog GT N34 EE := by
  exact zn33.add mixedD (fun ⟨c, s⟩ _ => f79_ok) (fun ⟨c, s⟩ h1 => ⟨_, ev_among _ c s h1⟩)
noncomputable def N35 : List Sp := z77 :: N34
theorem zn35 : Known Tryz.prog GT N35 EE := by
  have k79 := k79_of (E := EE) (show Has N34 z79 by repeat (first | exact has_head _ _ | refine has_tail ?_ (by decide)))
  exact zn34.add mixedD (fun c _ => f77_ok) (fun c _ => ⟨_, ev_operator _ k79 c⟩)
noncomputable def N36 : List Sp := z57 :: N35
theorem zn36 : Known Tryz.prog GT N36 EE := by
  have k79 := k79_of (E := EE) (show Has N35 z79 by repeat (first | exact has_head _ _ | refine has_tail ?_ (by decide)))
  exact zn35.add mixedD (fun c _ => f57_ok) (fun c _ => ⟨_, ev_special _ k79 c⟩)
noncomputable def N37 : List Sp := z76 :: N36
theorem zn37 : Known Tryz.prog GT N37 EE := by
  have k86 := k86_of (E := EE) (show Has N36 z86 by repeat (first | exact has_head _ _ | refine has_tail ?_ (by decide)))
  exact zn36.add mixedD (fun ⟨s, i⟩ _ => f76_ok) (fun ⟨s, i⟩ ⟨h1, h2⟩ => ⟨_, ev_signs _ k86 s i h1 h2⟩)
noncomputable def N38 : List Sp := z55 :: N37
theorem zn38 : Known Tryz.prog GT N38 EE := by
  have k77 := k77_of (E := EE) (show Has N37 z77 by repeat (first | exact has_head _ _ | refine has_tail ?_ (by decide)))
  exact zn37.add mixedD (fun ⟨s, i⟩ _ => f55_ok) (fun ⟨s, i⟩ ⟨h1, h2⟩ => ⟨_, ev_run5 _ k77 s i h1 h2⟩)
noncomputable def N39 : List Sp := z78 :: N38
theorem zn39 : Known Tryz.prog GT N39 EE := by
  exact zn38.add mixedD (fun s _ => f78_ok) (fun s h1 => ⟨_, ev_dashesR _ s h1⟩)
noncomputable def N40 : List Sp := z58 :: N39
theorem zn40 : Known Tryz.prog GT N40 EE := by
  exact zn39.add mixedD (fun s _ => f58_ok) (fun s _ => ⟨_, ev_reservedR _ s⟩)
noncomputable def N41 : List Sp := z56 :: N40
theorem zn41 : Known Tryz.prog GT N41 EE := by
  have k78 := k78_of (E := EE) (show Has N40 z78 by repeat (first | exact has_head _ _ | refine has_tail ?_ (by decide)))
  exact zn40.add mixedD (fun s _ => f56_ok) (fun s ⟨h1, h2⟩ => ⟨_, ev_kindOf _ k78 s h1 h2⟩)
noncomputable def N42 : List Sp := z552 :: N41
theorem zn42 : Known Tryz.prog GT N42 EE := by
  exact zn41.add mixedD (fun e _ => f552_ok) (fun e _ => ⟨_, ev_fault _ e⟩)
noncomputable def N43 : List Sp := z529 :: N42
theorem zn43 : Known Tryz.prog GT N43 EE := by
  exact zn42.add mixedD (fun e _ => f529_ok) (fun e _ => ⟨_, ev_nothing _ e⟩)
noncomputable def N44 : List Sp := z555 :: N43
theorem zn44 : Known Tryz.prog GT N44 EE := by
  exact zn43.add mixedD (fun c _ => f555_ok) (fun c _ => ⟨_, ev_hexR _ c⟩)
noncomputable def N45 : List Sp := z556 :: N44
theorem zn45 : Known Tryz.prog GT N45 EE := by
  exact zn44.add mixedD (fun c _ => f556_ok) (fun c h1 => ⟨_, ev_worth _ c h1⟩)
noncomputable def N46 : List Sp := z530 :: N45
theorem zn46 : Known Tryz.prog GT N46 EE := by
  have k552 := k552_of (E := EE) (show Has N45 z552 by repeat (first | exact has_head _ _ | refine has_tail ?_ (by decide)))
  have k529 := k529_of (E := EE) (show Has N45 z529 by repeat (first | exact has_head _ _ | refine has_tail ?_ (by decide)))
  exact zn45.add mixedD (fun ⟨s, i⟩ _ => f530_ok) (fun ⟨s, i⟩ ⟨h1, h2⟩ => ⟨_, ev_commentR _ k552 k529 s i h1 h2⟩)
noncomputable def N47 : List Sp := z531 :: N46
theorem zn47 : Known Tryz.prog GT N47 EE := by
  have k76 := k76_of (E := EE) (show Has N46 z76 by repeat (first | exact has_head _ _ | refine has_tail ?_ (by decide)))
  have k58 := k58_of (E := EE) (show Has N46 z58 by repeat (first | exact has_head _ _ | refine has_tail ?_ (by decide)))
  exact zn46.add mixedD (fun ⟨s, i⟩ _ => f531_ok) (fun ⟨s, i⟩ ⟨h1, h2⟩ => ⟨_, ev_lower _ k76 k58 s i h1 h2⟩)
noncomputable def N48 : List Sp := z532 :: N47
theorem zn48 : Known Tryz.prog GT N48 EE := by
  have k76 := k76_of (E := EE) (show Has N47 z76 by repeat (first | exact has_head _ _ | refine has_tail ?_ (by decide)))
  have k58 := k58_of (E := EE) (show Has N47 z58 by repeat (first | exact has_head _ _ | refine has_tail ?_ (by decide)))
  have k74 := k74_of (E := EE) (show Has N47 z74 by repeat (first | exact has_head _ _ | refine has_tail ?_ (by decide)))
  have k75 := k75_of (E := EE) (show Has N47 z75 by repeat (first | exact has_head _ _ | refine has_tail ?_ (by decide)))
  exact zn47.add mixedD (fun ⟨s, i⟩ _ => f532_ok) (fun ⟨s, i⟩ ⟨h1, h2⟩ => ⟨_, ev_upper2 _ k76 k58 k74 k75 s i h1 h2⟩)
noncomputable def N49 : List Sp := z533 :: N48
theorem zn49 : Known Tryz.prog GT N49 EE := by
  have k95 := k95_of (E := EE) (show Has N48 z95 by repeat (first | exact has_head _ _ | refine has_tail ?_ (by decide)))
  have k555 := k555_of (E := EE) (show Has N48 z555 by repeat (first | exact has_head _ _ | refine has_tail ?_ (by decide)))
  have k556 := k556_of (E := EE) (show Has N48 z556 by repeat (first | exact has_head _ _ | refine has_tail ?_ (by decide)))
  have k86 := k86_of (E := EE) (show Has N48 z86 by repeat (first | exact has_head _ _ | refine has_tail ?_ (by decide)))
  have k552 := k552_of (E := EE) (show Has N48 z552 by repeat (first | exact has_head _ _ | refine has_tail ?_ (by decide)))
  exact zn48.add mixedD (fun ⟨s, i⟩ _ => f533_ok) (fun ⟨s, i⟩ ⟨h1, h2, h3⟩ => ⟨_, ev_numberR _ k95 k555 k556 k86 k552 s i h1 h2 h3⟩)
noncomputable def N50 : List Sp := z578 :: N49
theorem zn50 : Known Tryz.prog GT N50 EE := by
  have k95 := k95_of (E := EE) (show Has N49 z95 by repeat (first | exact has_head _ _ | refine has_tail ?_ (by decide)))
  exact zn49.add mixedD (fun ⟨s, i⟩ _ => f578_ok) (fun ⟨s, i⟩ ⟨h1, h2⟩ => ⟨_, ev_escape _ k95 s i h1 h2⟩)
noncomputable def N51 : List Sp := z558 :: N50
theorem zn51 : Known Tryz.prog GT N51 EE := by
  have k578 := k578_of (E := EE) (show Has N50 z578 by repeat (first | exact has_head _ _ | refine has_tail ?_ (by decide)))
  exact zn50.add mixedD (fun ⟨s, i, q⟩ _ => f558_ok) (fun ⟨s, i, q⟩ ⟨h1, h2, h3, h4⟩ => ⟨_, ev_quotedR _ k578 s i q h1 h2 h3 h4⟩)
noncomputable def N52 : List Sp := z534 :: N51
theorem zn52 : Known Tryz.prog GT N52 EE := by
  have k558 := k558_of (E := EE) (show Has N51 z558 by repeat (first | exact has_head _ _ | refine has_tail ?_ (by decide)))
  have k552 := k552_of (E := EE) (show Has N51 z552 by repeat (first | exact has_head _ _ | refine has_tail ?_ (by decide)))
  exact zn51.add mixedD (fun ⟨s, i⟩ _ => f534_ok) (fun ⟨s, i⟩ ⟨h1, h2⟩ => ⟨_, ev_char _ k558 k552 s i h1 h2⟩)
noncomputable def N53 : List Sp := z535 :: N52
theorem zn53 : Known Tryz.prog GT N53 EE := by
  have k558 := k558_of (E := EE) (show Has N52 z558 by repeat (first | exact has_head _ _ | refine has_tail ?_ (by decide)))
  have k552 := k552_of (E := EE) (show Has N52 z552 by repeat (first | exact has_head _ _ | refine has_tail ?_ (by decide)))
  exact zn52.add mixedD (fun ⟨s, i⟩ _ => f535_ok) (fun ⟨s, i⟩ ⟨h1, h2, h3⟩ => ⟨_, ev_text _ k558 k552 s i h1 h2⟩)
noncomputable def N54 : List Sp := z536 :: N53
theorem zn54 : Known Tryz.prog GT N54 EE := by
  have k55 := k55_of (E := EE) (show Has N53 z55 by repeat (first | exact has_head _ _ | refine has_tail ?_ (by decide)))
  have k56 := k56_of (E := EE) (show Has N53 z56 by repeat (first | exact has_head _ _ | refine has_tail ?_ (by decide)))
  have k552 := k552_of (E := EE) (show Has N53 z552 by repeat (first | exact has_head _ _ | refine has_tail ?_ (by decide)))
  have k529 := k529_of (E := EE) (show Has N53 z529 by repeat (first | exact has_head _ _ | refine has_tail ?_ (by decide)))
  exact zn53.add mixedD (fun ⟨s, i⟩ _ => f536_ok) (fun ⟨s, i⟩ ⟨h1, h2, h3⟩ => ⟨_, ev_signsOf _ k55 k56 k552 k529 s i h1 h2 h3⟩)
noncomputable def N55 : List Sp := z537 :: N54
theorem zn55 : Known Tryz.prog GT N55 EE := by
  have k57 := k57_of (E := EE) (show Has N54 z57 by repeat (first | exact has_head _ _ | refine has_tail ?_ (by decide)))
  have k86 := k86_of (E := EE) (show Has N54 z86 by repeat (first | exact has_head _ _ | refine has_tail ?_ (by decide)))
  have k552 := k552_of (E := EE) (show Has N54 z552 by repeat (first | exact has_head _ _ | refine has_tail ?_ (by decide)))
  exact zn54.add mixedD (fun ⟨s, i⟩ _ => f537_ok) (fun ⟨s, i⟩ ⟨h1, h2⟩ => ⟨_, ev_single _ k57 k86 k552 s i h1 h2⟩)
noncomputable def N56 : List Sp := z511 :: N55
theorem zn56 : Known Tryz.prog GT N56 EE := by
  have k74 := k74_of (E := EE) (show Has N55 z74 by repeat (first | exact has_head _ _ | refine has_tail ?_ (by decide)))
  have k75 := k75_of (E := EE) (show Has N55 z75 by repeat (first | exact has_head _ _ | refine has_tail ?_ (by decide)))
  have k95 := k95_of (E := EE) (show Has N55 z95 by repeat (first | exact has_head _ _ | refine has_tail ?_ (by decide)))
  have k77 := k77_of (E := EE) (show Has N55 z77 by repeat (first | exact has_head _ _ | refine has_tail ?_ (by decide)))
  have k529 := k529_of (E := EE) (show Has N55 z529 by repeat (first | exact has_head _ _ | refine has_tail ?_ (by decide)))
  have k530 := k530_of (E := EE) (show Has N55 z530 by repeat (first | exact has_head _ _ | refine has_tail ?_ (by decide)))
  have k531 := k531_of (E := EE) (show Has N55 z531 by repeat (first | exact has_head _ _ | refine has_tail ?_ (by decide)))
  have k532 := k532_of (E := EE) (show Has N55 z532 by repeat (first | exact has_head _ _ | refine has_tail ?_ (by decide)))
  have k533 := k533_of (E := EE) (show Has N55 z533 by repeat (first | exact has_head _ _ | refine has_tail ?_ (by decide)))
  have k534 := k534_of (E := EE) (show Has N55 z534 by repeat (first | exact has_head _ _ | refine has_tail ?_ (by decide)))
  have k535 := k535_of (E := EE) (show Has N55 z535 by repeat (first | exact has_head _ _ | refine has_tail ?_ (by decide)))
  have k536 := k536_of (E := EE) (show Has N55 z536 by repeat (first | exact has_head _ _ | refine has_tail ?_ (by decide)))
  have k537 := k537_of (E := EE) (show Has N55 z537 by repeat (first | exact has_head _ _ | refine has_tail ?_ (by decide)))
  exact zn55.add mixedD (fun ⟨s, i⟩ _ => f511_ok) (fun ⟨s, i⟩ ⟨h1, h2⟩ => ⟨_, ev_At _ k74 k75 k95 k77 k529 k530 k531 k532 k533 k534 k535 k536 k537 s i h1 h2⟩)
noncomputable def N57 : List Sp := z505 :: N56
theorem zn57 : Known Tryz.prog GT N57 EE := by
  have k511 := k511_of (E := EE) (show Has N56 z511 by repeat (first | exact has_head _ _ | refine has_tail ?_ (by decide)))
  exact zn56.addEase mixedD (fun s _ => f505_ok) (fun s h1 => ev_LexR _ k511 s h1)

noncomputable def z17 : Sp where
  α := Option (Int × Int)
  f := 18
  ok := fun _ => True
  args := fun | none => [.d false .nilif] | some (e, i) => [errI e i]
  res := fun | none => (seenV 0 0 0 [], []) | some (e, i) => (seenV e 0 i [], [])
  inj := by
    rintro a b _ _ h
    match a, b, h with
    | none, none, _ => rfl
    | none, some _, h => simp at h
    | some _, none, h => simp at h
    | some (e, i), some (e', i'), h =>
      simp only [List.cons.injEq, V.d.injEq, D.iface.injEq, D.ptr.injEq, D.int.injEq, true_and, and_true] at h
      rw [h.1, h.2]
noncomputable def z18 : Sp where
  α := Option (Int × Int)
  f := 7
  ok := fun | none => True | some (e, _) => e ≠ 0
  args := fun | none => [.d false .nilif, fltV 0 0 0 []] | some (e, i) => [errI e i, fltV e 0 i []]
  res := fun _ => (.d false (.bool true), [])
  inj := by
    rintro a b _ _ h
    rfl
theorem k17_of {L E} (h : Has L z17) : K17 (cx GT L E) := ⟨h none trivial, fun e i => h (some (e, i)) trivial⟩
noncomputable def NA : List Sp := z17 :: N57
theorem znA : Known Tryz.prog GT NA EE := by
  exact zn57.put (fun a _ => ⟨by kernel_rfl, by
    match a with
    | none => exact pure_seen_nil
    | some (e, i) => exact pure_seen e i⟩)
noncomputable def NB : List Sp := z18 :: NA
theorem znB : Known Tryz.prog GT NB EE := by
  have k17 := k17_of (E := EE) (show Has NA z17 by repeat (first | exact has_head _ _ | refine has_tail ?_ (by decide)))
  refine znA.add (g := f18) mixedD (fun a _ => ?_) (fun a h => ?_)
  · match a with
    | none => exact f18_ok
    | some (e, i) => exact f18_ok
  · match a, h with
    | none, _ => exact ⟨_, ev_faulted0 _ k17⟩
    | some (e, i), h => exact ⟨_, ev_faulted _ k17 e i h⟩
end Go.Vm
end

section
namespace Go.Vm
open Go

theorem al_old (w : World) (o : Obj) (i : Nat) (h : i < w.heap.size) : (w.alloc o).heap[i]? = w.heap[i]? := by
  show (w.heap.push o)[i]? = w.heap[i]?
  rw [Array.getElem?_push, if_neg (by omega)]

def MkS (O : Nat → Option Nat) (B : Nat) (w : World) (i : Nat) (v : Value) (n m : Nat) : Prop :=
  ∃ a cap, v = .slice a n cap ∧ n ≤ cap ∧ n ≤ 30000 ∧ m ≤ n ∧ (a = none → cap = 0) ∧
    (cap = 0 ∨ ∃ b cs T, a = some ⟨b, 0, none⟩ ∧ B ≤ b ∧ O b = some i ∧ w.heap[b]? = some (.cells cs T (0, 0)) ∧ cap * 4 ≤ cs.size ∧ ∀ k, k < m → cs[k * 4]? = some (.int .i64 (-1 - (i : Int))))

structure Turn (O : Nat → Option Nat) (w w' : World) : Prop where
  os : w'.os = w.os
  tape : w'.tape = w.tape
  output : w'.output = w.output
  size : w.heap.size ≤ w'.heap.size
  row : ∀ b i cs T, O b = some i → w.heap[b]? = some (.cells cs T (0, 0)) → ∃ cs', w'.heap[b]? = some (.cells cs' T (0, 0)) ∧ cs'.size = cs.size ∧ ∀ k : Nat, cs[k * 4]? = some (.int .i64 (-1 - (i : Int))) → cs'[k * 4]? = some (.int .i64 (-1 - (i : Int)))
def Quiet (O : Nat → Option Nat) (w w' : World) : Prop := ∀ b, b < w.heap.size → O b = none → w'.heap[b]? = w.heap[b]?

variable {O O' : Nat → Option Nat} {B : Nat} {w w' w'' : World}
theorem Turn.refl (O : Nat → Option Nat) (w : World) : Turn O w w := ⟨rfl, rfl, rfl, Nat.le_refl _, fun b i cs T _ h => ⟨cs, h, rfl, fun _ hk => hk⟩⟩
theorem Turn.trans (h : Turn O w w') (g : Turn O w' w'') : Turn O w w'' := by
  refine ⟨g.os.trans h.os, g.tape.trans h.tape, g.output.trans h.output, Nat.le_trans h.size g.size, fun b i cs T ho hb => ?_⟩
  obtain ⟨cs', h1, h2, h3⟩ := h.row b i cs T ho hb
  obtain ⟨cs'', g1, g2, g3⟩ := g.row b i cs' T ho h1
  exact ⟨cs'', g1, g2.trans h2, fun k hk => g3 k (h3 k hk)⟩
theorem MkS.turn {i : Nat} {v : Value} {n m : Nat} (h : MkS O B w i v n m) (t : Turn O w w') : MkS O B w' i v n m := by
  obtain ⟨a, cap, rfl, h1, h2, h3, h4, h5⟩ := h
  refine ⟨a, cap, rfl, h1, h2, h3, h4, ?_⟩
  rcases h5 with h5 | ⟨b, cs, T, e, hb, ho, hh, hs, hk⟩
  · exact .inl h5
  · obtain ⟨cs', g1, g2, g3⟩ := t.row b i cs T ho hh
    exact .inr ⟨b, cs', T, e, hb, ho, g1, by omega, fun k hkm => g3 k (hk k hkm)⟩
theorem MkS.less {i : Nat} {v : Value} {n m m' : Nat} (h : MkS O B w i v n m) (hm : m' ≤ m) : MkS O B w i v n m' := by
  obtain ⟨a, cap, rfl, h1, h2, h3, h4, h5⟩ := h
  refine ⟨a, cap, rfl, h1, h2, by omega, h4, ?_⟩
  rcases h5 with h5 | ⟨b, cs, T, e, hb, ho, hh, hs, hk⟩
  · exact .inl h5
  · exact .inr ⟨b, cs, T, e, hb, ho, hh, hs, fun k hkm => hk k (by omega)⟩
theorem Turn.of_keep (h1 : w'.os = w.os) (h2 : w'.tape = w.tape) (h3 : w'.output = w.output) (h4 : w.heap.size ≤ w'.heap.size) (h5 : ∀ b i, O b = some i → b < w.heap.size → w'.heap[b]? = w.heap[b]?) : Turn O w w' :=
  ⟨h1, h2, h3, h4, fun b i cs T ho hb => ⟨cs, by rw [h5 b i ho (Array.getElem?_eq_some_iff.1 hb).1]; exact hb, rfl, fun _ hk => hk⟩⟩
theorem Turn.alloc (w : World) (o : Obj) : Turn O w (w.alloc o) := Turn.of_keep rfl rfl rfl (by simp) fun b i _ hb => al_old w o b hb
theorem Turn.drew (w : World) : Turn O w w.drew := Turn.of_keep rfl rfl rfl (Nat.le_refl _) fun b i _ hb => rfl
theorem Turn.grown {row : Option Nat} (h : w.grownBy w' row) (hr : ∀ k, row = some k → O k = none) : Turn O w w' :=
  Turn.of_keep h.os h.tape h.output h.size fun b i ho hb => h.block b hb (fun e => by rw [hr b e.symm] at ho; cases ho)
theorem Quiet.trans (h : Quiet O w w') (g : Quiet O w' w'') (hs : w.heap.size ≤ w'.heap.size) : Quiet O w w'' := fun b hb ho => (g b (by omega) ho).trans (h b hb ho)

theorem MkS.at {i : Nat} {v : Value} {n m : Nat} (h : MkS O B w i v n m) {k : Nat} (hk : k < n) :
    ∃ b cap, v = .slice (some ⟨b, 0, none⟩) n cap ∧ n ≤ cap ∧ B ≤ b ∧ O b = some i ∧ b < w.heap.size ∧ (∀ j, w.frozen? ⟨b, j, none⟩ = false) ∧ (∀ j, j < 4 → ∃ c, w.cell? ⟨b, k * 4 + j, none⟩ = some c) ∧ (k < m → w.cell? ⟨b, k * 4, none⟩ = some (.int .i64 (-1 - (i : Int)))) := by
  obtain ⟨a, cap, rfl, h1, h2, h3, h4, h5⟩ := h
  rcases h5 with h5 | ⟨b, cs, T, rfl, hb, ho, hh, hs, hm⟩
  · omega
  · refine ⟨b, cap, rfl, h1, hb, ho, (Array.getElem?_eq_some_iff.1 hh).1, fun j => frozen_of_row w b j cs T hh, fun j hj => ?_, fun hkm => ?_⟩
    · rw [cell_of_row w b _ cs T (0, 0) hh]
      exact ⟨_, Array.getElem?_eq_getElem (by omega)⟩
    · rw [cell_of_row w b _ cs T (0, 0) hh]
      exact hm k hkm
theorem Turn.setCell {b i off : Nat} {u : Value} (hb : O b = some i) (hu : off % 4 = 0 → u = .int .i64 (-1 - (i : Int))) : Turn O w (w.setCell ⟨b, off, none⟩ u) := by
  refine ⟨rfl, rfl, rfl, by simp, fun b' i' cs T ho hh => ?_⟩
  by_cases e : b' = b
  · subst e
    rw [hb] at ho
    injection ho with ho
    subst ho
    refine ⟨cs.setIfInBounds off u, heap_setCell_same w b' off cs T u hh, by simp, fun k hk => ?_⟩
    rw [Array.getElem?_setIfInBounds]
    split
    · rename_i e
      split
      · rw [hu (by omega)]
      · rename_i hlt
        have := (Array.getElem?_eq_some_iff.1 hk).1
        omega
    · exact hk
  · refine ⟨cs, ?_, rfl, fun _ hk => hk⟩
    rw [heap_setCell_other w ⟨b, off, none⟩ b' u e]
    exact hh
theorem Quiet.setCell {b i off : Nat} {u : Value} (hb : O b = some i) : Quiet O w (w.setCell ⟨b, off, none⟩ u) := fun b' _ ho => heap_setCell_other w ⟨b, off, none⟩ b' u (fun e => by rw [e, hb] at ho; cases ho)
theorem MkS.mark {i k : Nat} {b n cap : Nat} {u1 u2 u3 : Value} (h : MkS O B w i (.slice (some ⟨b, 0, none⟩) n cap) n k) (hk : k < n) :
    MkS O B ((((w.setCell ⟨b, k * 4, none⟩ (.int .i64 (-1 - (i : Int)))).setCell ⟨b, k * 4 + 1, none⟩ u1).setCell ⟨b, k * 4 + 2, none⟩ u2).setCell ⟨b, k * 4 + 3, none⟩ u3) i (.slice (some ⟨b, 0, none⟩) n cap) n (k + 1) := by
  obtain ⟨a, cap, e, h1, h2, h3, h4, h5⟩ := h
  injection e with e1 e2 e3
  subst e1 e3
  refine ⟨_, cap, rfl, h1, h2, by omega, h4, ?_⟩
  rcases h5 with h5 | ⟨b', cs, T, e, hb, ho, hh, hs, hm⟩
  · omega
  · injection e with e
    injection e with e
    subst e
    have g1 := heap_setCell_same w b (k * 4) cs T (.int .i64 (-1 - (i : Int))) hh
    have g2 := heap_setCell_same _ b (k * 4 + 1) _ T u1 g1
    have g3 := heap_setCell_same _ b (k * 4 + 2) _ T u2 g2
    have g4 := heap_setCell_same _ b (k * 4 + 3) _ T u3 g3
    refine .inr ⟨b, _, T, rfl, hb, ho, g4, by simpa using hs, fun j hj => ?_⟩
    simp only [Array.getElem?_setIfInBounds, Array.size_setIfInBounds]
    rw [if_neg (by omega), if_neg (by omega), if_neg (by omega)]
    by_cases e : j = k
    · subst e
      rw [if_pos rfl, if_pos (by omega)]
    · rw [if_neg (by omega)]
      exact hm j (by omega)

section
variable {P : Program} (w : World)
theorem run_append_roomT (t ty e T : TypeId) (i : TypeInfo) (ht : P.underlying t = some (.slice e)) (hi : P.info? e = some i)
    (g sLen sCap : Nat) (cur : Array Value) (hg : w.heap[g]? = some (.cells cur T (0, 0)))
    (a : Addr) (m c : Nat) (news : List Value) (hl : news.length = m * i.size) (hnews : ∀ j u, news[j]? = some u → w.cell? (a.add j) = some u) (h1 : ∀ u ∈ news, u.oneCell' = true)
    (hroom : sLen + m ≤ sCap) (hfit : sLen * i.size + news.length ≤ cur.size) :
    (Builtin.append_ #[t, t] ty #[.slice (some ⟨g, 0, none⟩) sLen sCap, .slice (some a) m c]).run P w =
      .ok (.slice (some ⟨g, 0, none⟩) (sLen + m) sCap) (w.setRow g (cur.toList.take (sLen * i.size) ++ news ++ cur.toList.drop (sLen * i.size + news.length)).toArray) := by
  have hf := run_firstCells_some (P := P) w i.size m a m c news hl hnews
  have hst := run_storeCells_at P g (sLen * i.size) T news 0 cur w hg (by simpa using hfit) h1
  simp only [Nat.add_zero] at hst
  simp [Builtin.append_, run_underlying ht, sizeOf, typeInfo, hi, Builtin.lenOf, hroom, hf, Addr.add_lit, hst]
end

def mkC (i : Nat) (u1 u2 u3 : Value) : Nat → List Value
  | 0 => []
  | m + 1 => [.int .i64 (-1 - (i : Int)), u1, u2, u3] ++ mkC i u1 u2 u3 m
theorem mkC_len (i : Nat) (u1 u2 u3 : Value) : ∀ m, (mkC i u1 u2 u3 m).length = m * 4
  | 0 => rfl
  | m + 1 => by
    have := mkC_len i u1 u2 u3 m
    simp only [mkC, List.length_append, List.length_cons, List.length_nil]
    omega
theorem mkC_at (i : Nat) (u1 u2 u3 : Value) : ∀ m k, k < m → (mkC i u1 u2 u3 m)[k * 4]? = some (.int .i64 (-1 - (i : Int)))
  | 0, k, h => by omega
  | m + 1, 0, h => rfl
  | m + 1, k + 1, h => by
    simp only [mkC]
    rw [List.getElem?_append_right (by simp; omega)]
    have := mkC_at i u1 u2 u3 m k (by omega)
    rw [← this]
    congr 1
    simp; omega

theorem MkS.append {P : Program} {t ty e : TypeId} {ti : TypeInfo} {z : Value} (ht : P.underlying t = some (.slice e)) (hi : P.info? e = some ti) (hz : ti.zero = some z) (hs : ti.size = 4) (hby : ti.bytes = 40) (hzs : z.cells.size = 4)
    {i n m : Nat} {v : Value} (h : MkS O B w i v n n) (hm : 0 < m) (hn : n + m ≤ 30000) (hB : B ≤ w.heap.size) (hO : ∀ b j, O b = some j → b < w.heap.size)
    (a : Addr) (c : Nat) (u1 u2 u3 : Value) (hu : u1.oneCell' = true ∧ u2.oneCell' = true ∧ u3.oneCell' = true) (hnews : ∀ j u, (mkC i u1 u2 u3 m)[j]? = some u → w.cell? (a.add j) = some u) :
    ∃ v' w' O', (Builtin.append_ #[t, t] ty #[v, .slice (some a) m c]).run P w = .ok v' w' ∧ MkS O' B w' i v' (n + m) (n + m) ∧ Turn O w w' ∧ Quiet O w w' ∧ (∀ b, b < w.heap.size → O' b = O b) ∧ (∀ b j, O' b = some j → b < w'.heap.size) := by
  have h1 : ∀ u ∈ mkC i u1 u2 u3 m, u.oneCell' = true := by
    clear hnews hm hn
    induction m with
    | zero => intro u hu'; simp [mkC] at hu'
    | succ m ih =>
      intro u hu'
      simp only [mkC, List.cons_append, List.nil_append, List.mem_cons] at hu'
      rcases hu' with rfl | rfl | rfl | rfl | h
      · rfl
      · exact hu.1
      · exact hu.2.1
      · exact hu.2.2
      · exact ih u h
  obtain ⟨ad, cap, rfl, h2, h3, _, h4, h5⟩ := h
  have hl : (mkC i u1 u2 u3 m).length = m * ti.size := by rw [mkC_len, hs]
  -- a new block
  have new : ∀ (olds : List Value) (gc : Nat), olds.length = n * 4 → (∀ k, k < n → olds[k * 4]? = some (.int .i64 (-1 - (i : Int)))) → n + m ≤ gc →
      ∀ arr : Array Value, arr = (olds.toArray ++ (mkC i u1 u2 u3 m).toArray ++ Builtin.zeroCells z.cells (gc - (n + m))) →
      MkS (fun b => if b = w.heap.size then some i else O b) B (w.drew.alloc (.cells arr e)) i (.slice (some ⟨w.heap.size, 0, none⟩) (n + m) gc) (n + m) (n + m) ∧
      Turn O w (w.drew.alloc (.cells arr e)) ∧ Quiet O w (w.drew.alloc (.cells arr e)) ∧
      (∀ b, b < w.heap.size → (if b = w.heap.size then some i else O b) = O b) ∧ (∀ b j, (if b = w.heap.size then some i else O b) = some j → b < (w.drew.alloc (.cells arr e)).heap.size) := by
    intro olds gc ho hk hgc arr ha
    refine ⟨⟨_, gc, rfl, hgc, hn, Nat.le_refl _, (fun e => by cases e), .inr ⟨w.heap.size, arr, e, rfl, hB, by simp, heap_alloc_new w.drew _, ?_, fun k hkn => ?_⟩⟩, (Turn.drew w).trans (Turn.alloc _ _), fun b hb _ => al_old w.drew _ b hb, fun b hb => if_neg (by omega), fun b j hj => ?_⟩
    · subst ha
      simp only [Array.size_append, List.size_toArray, ho, mkC_len, size_zeroCells, hzs]
      omega
    · subst ha
      have e : (olds.toArray ++ (mkC i u1 u2 u3 m).toArray ++ Builtin.zeroCells z.cells (gc - (n + m))) = (olds ++ (mkC i u1 u2 u3 m) ++ (Builtin.zeroCells z.cells (gc - (n + m))).toList).toArray := by
        apply Array.ext'; simp
      rw [e, List.getElem?_toArray, List.append_assoc]
      by_cases hkn' : k < n
      · rw [List.getElem?_append_left (by omega)]
        exact hk k hkn'
      · rw [List.getElem?_append_right (by omega), ho, List.getElem?_append_left (by rw [mkC_len]; omega), show k * 4 - n * 4 = (k - n) * 4 from by omega]
        exact mkC_at i u1 u2 u3 m (k - n) (by omega)
    · have es : (w.drew.alloc (.cells arr e)).heap.size = w.heap.size + 1 := by simp
      rw [es]
      split at hj
      · omega
      · have := hO b j hj
        omega
  by_cases hroom : n + m ≤ cap
  · rcases h5 with h5 | ⟨b, cs, T, rfl, hb, ho, hh, hcs, hmk⟩
    · omega
    · have hfit : n * ti.size + (mkC i u1 u2 u3 m).length ≤ cs.size := by rw [mkC_len, hs]; omega
      have hr := run_append_roomT (P := P) w t ty e T ti ht hi b n cap cs hh a m c _ hl hnews h1 hroom hfit
      rw [hs] at hr
      have hh' := setRow_heap w b cs (cs.toList.take (n * 4) ++ mkC i u1 u2 u3 m ++ cs.toList.drop (n * 4 + (mkC i u1 u2 u3 m).length)).toArray T (0, 0) hh
      have hcsl : (cs.toList.take (n * 4)).length = n * 4 := by rw [List.length_take, Array.length_toList]; omega
      have cell : ∀ k : Nat, (cs.toList.take (n * 4) ++ mkC i u1 u2 u3 m ++ cs.toList.drop (n * 4 + (mkC i u1 u2 u3 m).length)).toArray[k * 4]? = if k < n then cs[k * 4]? else if k < n + m then some (.int .i64 (-1 - (i : Int))) else cs[k * 4]? := by
        intro k
        rw [List.getElem?_toArray, List.append_assoc]
        by_cases hkn : k < n
        · rw [if_pos hkn, List.getElem?_append_left (by omega), List.getElem?_take, if_pos (by omega), Array.getElem?_toList]
        · rw [if_neg hkn, List.getElem?_append_right (by omega), hcsl]
          by_cases hkm : k < n + m
          · rw [if_pos hkm, List.getElem?_append_left (by rw [mkC_len]; omega), show k * 4 - n * 4 = (k - n) * 4 from by omega]
            exact mkC_at i u1 u2 u3 m (k - n) (by omega)
          · rw [if_neg hkm, List.getElem?_append_right (by rw [mkC_len]; omega), List.getElem?_drop, mkC_len, Array.getElem?_toList]
            congr 1
            omega
      have size : (cs.toList.take (n * 4) ++ mkC i u1 u2 u3 m ++ cs.toList.drop (n * 4 + (mkC i u1 u2 u3 m).length)).toArray.size = cs.size := by
        rw [mkC_len] at hfit
        simp only [List.size_toArray, List.length_append, hcsl, mkC_len, List.length_drop, Array.length_toList]
        omega
      refine ⟨_, _, O, hr, ⟨_, cap, rfl, hroom, hn, Nat.le_refl _, (fun e => by cases e), .inr ⟨b, _, T, rfl, hb, ho, hh', by rw [size]; omega, fun k hk => ?_⟩⟩, ⟨rfl, rfl, rfl, by simp [World.setRow], fun b' i' cs' T' ho' hb' => ?_⟩, fun b' hb' ho' => setRow_other w b b' _ (fun e => by rw [e, ho] at ho'; cases ho'), fun _ _ => rfl, fun b' j hj => by rw [show (w.setRow b _).heap.size = w.heap.size from by simp [World.setRow]]; exact hO b' j hj⟩
      · rw [cell]
        by_cases hkn : k < n
        · rw [if_pos hkn]; exact hmk k hkn
        · rw [if_neg hkn, if_pos hk]
      · by_cases e : b' = b
        · subst e
          rw [ho] at ho'
          injection ho' with ho'
          subst ho'
          rw [hh] at hb'
          injection hb' with hb'
          injection hb' with e1 e2
          subst e1 e2
          refine ⟨_, hh', size, fun k hk => ?_⟩
          rw [cell]
          split
          · exact hk
          · split
            · rfl
            · exact hk
        · exact ⟨cs', by rw [setRow_other w b b' _ e]; exact hb', rfl, fun _ hk => hk⟩
  · have hge := fun old => grownCap_ge w (n + m) old e
    have hfit : Builtin.nextslicecap (n + m) cap * ti.bytes ≤ 281474976710656 := growslice_fits (by omega) (by rw [hby]; omega)
    have grow : ∀ (b' : Addr) (olds : List Value), olds.length = n * 4 → (∀ k, k < n → olds[k * 4]? = some (.int .i64 (-1 - (i : Int)))) → (∀ j u, olds[j]? = some u → w.cell? (b'.add j) = some u) →
        ∃ v' w' O', (Builtin.append_ #[t, t] ty #[.slice (some b') n cap, .slice (some a) m c]).run P w = .ok v' w' ∧ MkS O' B w' i v' (n + m) (n + m) ∧ Turn O w w' ∧ Quiet O w w' ∧ (∀ b, b < w.heap.size → O' b = O b) ∧ (∀ b j, O' b = some j → b < w'.heap.size) := by
      intro b' olds ho hk hc
      have hr := run_append_grow (P := P) w t ty e ti z ht hi hz b' n cap olds (by rw [hs]; exact ho) hc a m c _ hl hnews (by omega) (by omega) hfit
      obtain ⟨r1, r2, r3, r4, r5⟩ := new olds _ ho hk (hge cap) _ rfl
      exact ⟨_, _, _, hr, r1, r2, r3, r4, r5⟩
    match ad, h4, h5 with
    | none, h4, _ =>
      have hc0 := h4 rfl
      have hn0 : n = 0 := by omega
      subst hc0 hn0
      have hr := run_append_nil (P := P) w t ty e ti z ht hi hz a m c _ hl hnews hm (by omega) (by rw [hby]; omega)
      have hg := grownCap_ge w m 0 e
      obtain ⟨r1, r2, r3, r4, r5⟩ := new [] (grownCap w m 0 e) rfl (fun k hk => by omega) (by omega) ((mkC i u1 u2 u3 m).toArray ++ Builtin.zeroCells z.cells (grownCap w m 0 e - m)) (by simp)
      simp only [Nat.zero_add] at r1 ⊢
      exact ⟨_, _, _, hr, r1, r2, r3, r4, r5⟩
    | some b', _, h5 =>
      rcases h5 with h5 | ⟨b, cs, T, e', hb, ho, hh, hcs, hmk⟩
      · have hn0 : n = 0 := by omega
        subst hn0
        exact grow b' [] rfl (fun k hk => by omega) (fun j u hj => by simp at hj)
      · injection e' with e'
        subst e'
        refine grow ⟨b, 0, none⟩ (cs.toList.take (n * 4)) (by rw [List.length_take, Array.length_toList]; omega) (fun k hk => ?_) (fun j u hj => ?_)
        · rw [List.getElem?_take, if_pos (by omega), Array.getElem?_toList]
          exact hmk k hk
        · have hadd : (⟨b, 0, none⟩ : Addr).add j = ⟨b, j, none⟩ := by unfold Addr.add; split <;> simp_all
          rw [hadd, cell_of_row w b j cs T (0, 0) hh]
          rw [List.getElem?_take] at hj
          split at hj
          · simpa using hj
          · cases hj
end Go.Vm
end

section
namespace Go.Vm
open Go

structure Ow (W : World) (B : Nat) (Ks : List (Nat × Obj)) (vs : List Value) (ns : Nat → Nat) (ms : Nat → Nat) (g : Value) (xs : List Value) (O : Nat → Option Nat) (w : World) : Prop where
  os : w.os = W.os
  tape : w.tape = W.tape
  output : w.output = W.output
  size : W.heap.size ≤ w.heap.size
  low : ∀ b, b < B → w.heap[b]? = W.heap[b]?
  bw : B ≤ w.heap.size
  kept : ∀ p, p ∈ Ks → w.heap[p.1]? = some p.2 ∧ O p.1 = none ∧ g.ownBlock ≠ some p.1
  ob : ∀ b j, O b = some j → B ≤ b ∧ b < w.heap.size
  row : ∀ i v, vs[i]? = some v → MkS O B w i v (ns i) (ms i)
  own : w.ownsRow B 23 1 g xs.length xs
  apart : ∀ k, g.ownBlock = some k → O k = none
  each : ∀ j u, xs[j]? = some u → ∃ n, MkS O B w (j / 21) u n n

variable {W w w' : World} {B : Nat} {Ks : List (Nat × Obj)} {vs : List Value} {ns ms : Nat → Nat} {g : Value} {xs : List Value} {O O' : Nat → Option Nat}
theorem Ow.hO (h : Ow W B Ks vs ns ms g xs O w) : ∀ b j, O b = some j → b < w.heap.size := fun b j hb => (h.ob b j hb).2
theorem Ow.nn (h : Ow W B Ks vs ns ms g xs O w) : O w.heap.size = none := by
  cases ho : O w.heap.size with
  | none => rfl
  | some j => have := h.hO _ _ ho; omega
theorem Ow.step (h : Ow W B Ks vs ns ms g xs O w) (t : Turn O w w') (q : Quiet O w w') (hO : ∀ b, b < w.heap.size → O' b = O b) (hO2 : ∀ b j, O' b = some j → b < w'.heap.size) :
    Ow W B Ks vs ns ms g xs O' w' ∧ ∀ j u a b, MkS O B w j u a b → MkS O' B w' j u a b := by
  have mv : ∀ j u a b, MkS O B w j u a b → MkS O' B w' j u a b := fun j u a b hm => by
    obtain ⟨ad, cap, rfl, h1, h2, h3, h4, h5⟩ := hm.turn t
    refine ⟨ad, cap, rfl, h1, h2, h3, h4, ?_⟩
    rcases h5 with h5 | ⟨b', cs, T, e, hb, ho, hh, hs, hk⟩
    · exact .inl h5
    · refine .inr ⟨b', cs, T, e, hb, ?_, hh, hs, hk⟩
      rw [hO b' (h.hO b' _ ho)]; exact ho
  refine ⟨⟨t.os.trans h.os, t.tape.trans h.tape, t.output.trans h.output, Nat.le_trans h.size t.size, fun b hb => ?_, Nat.le_trans h.bw t.size, fun p hp => ?_, fun b j hb => ?_, fun i v hv => mv _ _ _ _ (h.row i v hv), ?_, fun k hk => ?_, fun j u hj => ?_⟩, mv⟩
  · rw [q b (by have := h.bw; omega) ?_]
    · exact h.low b hb
    · cases ho : O b with
      | none => rfl
      | some j => have := (h.ob b j ho).1; omega
  · obtain ⟨h1, h2, h3⟩ := h.kept p hp
    have hlt := (Array.getElem?_eq_some_iff.1 h1).1
    exact ⟨(q _ hlt h2).trans h1, (hO _ hlt).trans h2, h3⟩
  · refine ⟨?_, hO2 b j hb⟩
    by_cases hlt : b < w.heap.size
    · rw [hO b hlt] at hb
      exact (h.ob b j hb).1
    · have := h.bw; omega
  · obtain ⟨o1, o2⟩ := h.own
    refine ⟨o1, ?_⟩
    rcases o2 with o2 | ⟨k, cap, cur, hv, hb, hh, hr⟩
    · exact .inl o2
    · refine .inr ⟨k, cap, cur, hv, hb, ?_, hr⟩
      rw [q k (Array.getElem?_eq_some_iff.1 hh).1 (h.apart k (by rw [hv]; rfl))]
      exact hh
  · rw [hO k (h.own.lt k hk).2]
    exact h.apart k hk
  · obtain ⟨n, hn⟩ := h.each j u hj
    exact ⟨n, mv _ _ _ _ hn⟩
theorem Ow.alloc (h : Ow W B Ks vs ns ms g xs O w) (o : Obj) : Ow W B ((w.heap.size, o) :: Ks) vs ns ms g xs O (w.alloc o) ∧ ∀ j u a b, MkS O B w j u a b → MkS O B (w.alloc o) j u a b := by
  obtain ⟨s1, s2⟩ := h.step (Turn.alloc w o) (fun b hb _ => al_old w o b hb) (fun _ _ => rfl) (fun b j hb => by have := h.hO b j hb; simp; omega)
  refine ⟨⟨s1.os, s1.tape, s1.output, s1.size, s1.low, s1.bw, fun p hp => ?_, s1.ob, s1.row, s1.own, s1.apart, s1.each⟩, s2⟩
  rcases List.mem_cons.1 hp with rfl | hp
  · exact ⟨heap_alloc_new w o, h.nn, fun e => by have := (h.own.lt _ e).2; omega⟩
  · exact s1.kept p hp
theorem Ow.less (h : Ow W B Ks vs ns ms g xs O w) {Ls : List (Nat × Obj)} (hl : ∀ p, p ∈ Ls → p ∈ Ks) : Ow W B Ls vs ns ms g xs O w :=
  ⟨h.os, h.tape, h.output, h.size, h.low, h.bw, fun p hp => h.kept p (hl p hp), h.ob, h.row, h.own, h.apart, h.each⟩
theorem Ow.drew (h : Ow W B Ks vs ns ms g xs O w) : Ow W B Ks vs ns ms g xs O w.drew ∧ ∀ j u a b, MkS O B w j u a b → MkS O B w.drew j u a b :=
  h.step (Turn.drew w) (fun b hb _ => rfl) (fun _ _ => rfl) h.hO
theorem Ow.mark (h : Ow W B Ks vs ns ms g xs O w) {i k : Nat} {v : Value} (hv : vs[i]? = some v) (hk : k < ns i) (hm : ms i = k) :
    ∃ b cap, v = .slice (some ⟨b, 0, none⟩) (ns i) cap ∧ (∀ j, w.frozen? ⟨b, j, none⟩ = false) ∧ (∀ j, j < 4 → ∃ c, w.cell? ⟨b, k * 4 + j, none⟩ = some c) ∧
      ∀ u1 u2 u3, Ow W B Ks vs ns (fun j => if j = i then k + 1 else ms j) g xs O ((((w.setCell ⟨b, k * 4, none⟩ (.int .i64 (-1 - (i : Int)))).setCell ⟨b, k * 4 + 1, none⟩ u1).setCell ⟨b, k * 4 + 2, none⟩ u2).setCell ⟨b, k * 4 + 3, none⟩ u3) := by
  have hr := h.row i v hv
  obtain ⟨b, cap, rfl, h1, h2, h3, h4, h5, h6, h7⟩ := hr.at hk
  refine ⟨b, cap, rfl, h5, h6, fun u1 u2 u3 => ?_⟩
  rw [hm] at hr
  have mk' : ∀ m, m = k → MkS O B w i (.slice (some ⟨b, 0, none⟩) (ns i) cap) (ns i) m → MkS O B ((((w.setCell ⟨b, k * 4, none⟩ (.int .i64 (-1 - (i : Int)))).setCell ⟨b, k * 4 + 1, none⟩ u1).setCell ⟨b, k * 4 + 2, none⟩ u2).setCell ⟨b, k * 4 + 3, none⟩ u3) i (.slice (some ⟨b, 0, none⟩) (ns i) cap) (ns i) (k + 1) := fun m e hx => by
    subst e
    exact MkS.mark hx hk
  have t1 : Turn O w (w.setCell ⟨b, k * 4, none⟩ (.int .i64 (-1 - (i : Int)))) := Turn.setCell h3 (fun _ => rfl)
  have t2 := Turn.setCell (w := w.setCell ⟨b, k * 4, none⟩ (.int .i64 (-1 - (i : Int)))) (off := k * 4 + 1) (u := u1) h3 (fun e => by omega)
  have t3 := Turn.setCell (w := (w.setCell ⟨b, k * 4, none⟩ (.int .i64 (-1 - (i : Int)))).setCell ⟨b, k * 4 + 1, none⟩ u1) (off := k * 4 + 2) (u := u2) h3 (fun e => by omega)
  have t4 := Turn.setCell (w := ((w.setCell ⟨b, k * 4, none⟩ (.int .i64 (-1 - (i : Int)))).setCell ⟨b, k * 4 + 1, none⟩ u1).setCell ⟨b, k * 4 + 2, none⟩ u2) (off := k * 4 + 3) (u := u3) h3 (fun e => by omega)
  have q1 := Quiet.setCell (w := w) (off := k * 4) (u := .int .i64 (-1 - (i : Int))) h3
  have q2 := Quiet.setCell (w := w.setCell ⟨b, k * 4, none⟩ (.int .i64 (-1 - (i : Int)))) (off := k * 4 + 1) (u := u1) h3
  have q3 := Quiet.setCell (w := (w.setCell ⟨b, k * 4, none⟩ (.int .i64 (-1 - (i : Int)))).setCell ⟨b, k * 4 + 1, none⟩ u1) (off := k * 4 + 2) (u := u2) h3
  have q4 := Quiet.setCell (w := ((w.setCell ⟨b, k * 4, none⟩ (.int .i64 (-1 - (i : Int)))).setCell ⟨b, k * 4 + 1, none⟩ u1).setCell ⟨b, k * 4 + 2, none⟩ u2) (off := k * 4 + 3) (u := u3) h3
  have tt := ((t1.trans t2).trans t3).trans t4
  have qq := ((q1.trans q2 t1.size).trans q3 (t1.trans t2).size).trans q4 ((t1.trans t2).trans t3).size
  obtain ⟨s1, s2⟩ := h.step (O' := O) tt qq (fun _ _ => rfl) (fun b j hb => Nat.lt_of_lt_of_le (h.hO b j hb) tt.size)
  refine ⟨s1.os, s1.tape, s1.output, s1.size, s1.low, s1.bw, s1.kept, s1.ob, fun j v hj => ?_, s1.own, s1.apart, s1.each⟩
  by_cases e : j = i
  · subst e
    rw [hv] at hj
    obtain rfl := Option.some.inj hj
    rw [if_pos rfl]
    exact mk' k rfl hr
  · simp only [if_neg e]
    exact s1.row j v hj
def AppC (W : World) (B : Nat) (Ks : List (Nat × Obj)) (vs : List Value) (ns ms : Nat → Nat) (g : Value) (xs : List Value) (i n : Nat) (v' : Value) (w' : World) : Prop :=
  ∃ O', Ow W B Ks vs ns ms g xs O' w' ∧ MkS O' B w' i v' n n
theorem Ow.app {P : Program} {t ty e : TypeId} {ti : TypeInfo} {z : Value} (ht : P.underlying t = some (.slice e)) (hi : P.info? e = some ti) (hz : ti.zero = some z) (hs : ti.size = 4) (hby : ti.bytes = 40) (hzs : z.cells.size = 4)
    (h : Ow W B Ks vs ns ms g xs O w) {i n m : Nat} {v : Value} (hv : MkS O B w i v n n) (hm : 0 < m) (hn : n + m ≤ 30000) (a : Addr) (c : Nat) (u1 u2 u3 : Value) (hu : u1.oneCell' = true ∧ u2.oneCell' = true ∧ u3.oneCell' = true)
    (hnews : ∀ j u, (mkC i u1 u2 u3 m)[j]? = some u → w.cell? (a.add j) = some u) :
    ∃ v' w', (Builtin.append_ #[t, t] ty #[v, .slice (some a) m c]).run P w = .ok v' w' ∧ AppC W B Ks vs ns ms g xs i (n + m) v' w' := by
  obtain ⟨v', w', O', hr, h1, h2, h3, h4, h5⟩ := MkS.append (ty := ty) ht hi hz hs hby hzs hv hm hn h.bw h.hO a c u1 u2 u3 hu hnews
  obtain ⟨s1, s2⟩ := h.step h2 h3 h4 h5
  exact ⟨v', w', hr, O', s1, h1⟩
def PushC (W : World) (B : Nat) (Ks : List (Nat × Obj)) (vs : List Value) (ns ms : Nat → Nat) (xs : List Value) (O : Nat → Option Nat) (w : World) (g' : Value) (w' : World) : Prop :=
  Ow W B Ks vs ns ms g' xs O w' ∧ ∀ j u a b, MkS O B w j u a b → MkS O B w' j u a b
theorem Ow.push {P : Program} {t ty : TypeId} {ti : TypeInfo} {z : Value} (ht : P.underlying t = some (.slice 23)) (hi : P.info? 23 = some ti) (hz : ti.zero = some z) (hs : ti.size = 1) (hby : ti.bytes = 24) (hzs : z.cells.size = 1)
    (h : Ow W B Ks vs ns ms g xs O w) {u : Value} {n : Nat} (hu : MkS O B w (xs.length / 21) u n n) (hl : xs.length ≤ 1000) (a : Addr) (c : Nat) (hnews : w.cell? a = some u) (h1 : u.oneCell' = true) :
    ∃ g' w', (Builtin.append_ #[t, t] ty #[g, .slice (some a) 1 c]).run P w = .ok g' w' ∧ PushC W B Ks vs ns ms (xs ++ [u]) O w g' w' := by
  obtain ⟨gb, cap, w', hr, hown, hgr, hg, hlt⟩ := run_append_lies (P := P) w t ty B 23 ti z 1 24 ht hi hz hs hby hzs (by omega) g xs.length xs h.own a 1 c [u] rfl
    (fun j v hj => by
      match j, hj with
      | 0, hj =>
        simp at hj; subst hj
        have : a.add 0 = a := by unfold Addr.add; split <;> simp_all
        rw [this]; exact hnews
      | j + 1, hj => simp at hj)
    (fun v hv => by simp at hv; subst hv; exact h1) (by omega) (by unfold maxLen; omega) (by omega) h.bw w.heap.size rfl
  have hgo : ∀ k, g.ownBlock = some k → O k = none := h.apart
  have t := Turn.grown (O := O) hgr hgo
  have mv : ∀ j u a b, MkS O B w j u a b → MkS O B w' j u a b := fun j u a b hm => hm.turn t
  have keep : ∀ b, b < w.heap.size → g.ownBlock ≠ some b → w'.heap[b]? = w.heap[b]? := fun b hb hne => hgr.block b hb (fun e => hne e.symm)
  refine ⟨_, w', hr, ⟨t.os.trans h.os, t.tape.trans h.tape, t.output.trans h.output, Nat.le_trans h.size t.size, fun b hb => ?_, Nat.le_trans h.bw t.size, fun p hp => ?_, fun b j hb => ⟨(h.ob b j hb).1, Nat.lt_of_lt_of_le (h.ob b j hb).2 t.size⟩, fun i v hv => mv _ _ _ _ (h.row i v hv), ?_, fun k hk => ?_, fun j u' hj => ?_⟩, mv⟩
  · rw [keep b (by have := h.bw; omega) (fun e => by have := (h.own.lt b e).1; omega)]
    exact h.low b hb
  · obtain ⟨h1, h2, h3⟩ := h.kept p hp
    have hlt := (Array.getElem?_eq_some_iff.1 h1).1
    refine ⟨(keep _ hlt h3).trans h1, h2, fun e => ?_⟩
    simp only [Value.ownBlock] at e
    obtain e := Option.some.inj e
    rcases hg with hg | hg
    · exact h3 (by rw [hg, e])
    · omega
  · rw [List.length_append]; exact hown
  · simp only [Value.ownBlock] at hk
    obtain rfl := Option.some.inj hk
    rcases hg with hg | hg
    · exact h.apart _ hg
    · rw [hg]
      exact h.nn
  · by_cases hj' : j < xs.length
    · rw [List.getElem?_append_left hj'] at hj
      obtain ⟨n', hn'⟩ := h.each j u' hj
      exact ⟨n', mv _ _ _ _ hn'⟩
    · rw [List.getElem?_append_right (by omega)] at hj
      have : j - xs.length = 0 := by
        rcases Nat.eq_zero_or_pos (j - xs.length) with e | e
        · exact e
        · rw [List.getElem?_eq_none (by simp; omega)] at hj; cases hj
      rw [this] at hj
      simp at hj
      subst hj
      have : j = xs.length := by omega
      subst this
      exact ⟨n, mv _ _ _ _ hu⟩

theorem wpList_append_run {P : Program} {ops : Array Oper} {rest : List Oper} {o : Oper} {a : Act} {Q : Exit → Act → World → Prop} (hgd : o.guard = none) (s x : Operand) (t : TypeId)
    (ho : o.op = .call { callee := .builtin .append, args := #[s, x], argTypes := #[t, t] }) (v u : Value) (hs : a.eval s = v) (hx : a.eval x = u) (C : Value → World → Prop)
    (hr : ∃ v' w', (Builtin.append_ #[t, t] o.type #[v, u]).run P w = .ok v' w' ∧ C v' w') (h : ∀ v' w', C v' w' → wpList P ops Q rest (a.put o.dst v') w') : wpList P ops Q (o :: rest) a w := by
  obtain ⟨v', w', hr, hC⟩ := hr
  refine wpList_plain hgd fun _ hK => ?_
  unfold Oper.wp execOp
  simp only [ho, resolve, invoke, builtin, Sem.run_bind, Sem.run_pure, Result.andThen_ok, List.map_toArray, List.map_cons, List.map_nil, hs, hx, hr]
  exact hK _ _ (h v' w' hC)
theorem step_append_run {P : Program} {ops : Array Oper} {o : Oper} {a : Act} {K : Act → World → Prop} {Q : Exit → Act → World → Prop} {E : Prop} (hgd : o.guard = none) (s x : Operand) (t : TypeId)
    (ho : o.op = .call { callee := .builtin .append, args := #[s, x], argTypes := #[t, t] }) (v u : Value) (hs : a.eval s = v) (hx : a.eval x = u) (C : Value → World → Prop)
    (hr : ∃ v' w', (Builtin.append_ #[t, t] o.type #[v, u]).run P w = .ok v' w' ∧ C v' w') (h : ∀ v' w', C v' w' → K (a.put o.dst v') w') :
    if Region.wanted o (yielded ops a.tmps) = true then Oper.wp P o a w K Q else E := by
  obtain ⟨v', w', hr, hC⟩ := hr
  have hw : Region.wanted o (yielded ops a.tmps) = true := by simp [Region.wanted, hgd]
  rw [if_pos hw]
  unfold Oper.wp execOp
  simp only [ho, resolve, invoke, builtin, Sem.run_bind, Sem.run_pure, Result.andThen_ok, List.map_toArray, List.map_cons, List.map_nil, hs, hx, hr]
  exact h v' w' hC
end Go.Vm
end

section
namespace Go.Vm
open Go.Proofs Go.RowKit

def zTz : Value := .agg #[.int .i64 0, .string ⟨#[]⟩, .int .i64 0, .int .i64 0]
theorem info39 : ∃ i, Tryz.prog.info? 39 = some i ∧ i.size = 4 ∧ i.bytes = 40 ∧ i.zero = some zTz := by
  have h1 : (Tryz.prog.info? 39).map (·.size) = some 4 := by kernel_rfl
  have h2 : (Tryz.prog.info? 39).map (·.bytes) = some 40 := by kernel_rfl
  have h3 : (Tryz.prog.info? 39).bind (·.zero) = some zTz := by kernel_rfl
  cases h : Tryz.prog.info? 39 with
  | none => rw [h] at h1; cases h1
  | some i =>
    rw [h] at h1 h2 h3
    exact ⟨i, rfl, by simpa using h1, by simpa using h2, by simpa using h3⟩
theorem info23z : ∃ i, Tryz.prog.info? 23 = some i ∧ i.size = 1 ∧ i.bytes = 24 ∧ i.zero = some (.slice none 0 0) := by
  have h1 : (Tryz.prog.info? 23).map (·.size) = some 1 := by kernel_rfl
  have h2 : (Tryz.prog.info? 23).map (·.bytes) = some 24 := by kernel_rfl
  have h3 : (Tryz.prog.info? 23).bind (·.zero) = some (.slice none 0 0) := by kernel_rfl
  cases h : Tryz.prog.info? 23 with
  | none => rw [h] at h1; cases h1
  | some i =>
    rw [h] at h1 h2 h3
    exact ⟨i, rfl, by simpa using h1, by simpa using h2, by simpa using h3⟩
def rowK (R : Nat) (vs : List Value) : Nat × Obj := (R, .cells vs.toArray 23 (0, 0))
theorem Ow.cell {W w : World} {B R : Nat} {Ks : List (Nat × Obj)} {vs : List Value} {ns ms : Nat → Nat} {g : Value} {xs : List Value} {O : Nat → Option Nat} (h : Ow W B Ks vs ns ms g xs O w) {us : List Value} (hR : rowK R us ∈ Ks) {i : Nat} {v : Value} (hv : us[i]? = some v) : w.cell? ⟨R, i, none⟩ = some v := by
  rw [cell_of_row w R i us.toArray 23 (0, 0) (h.kept _ hR).1]
  simpa using hv
def tokK (H : Nat) (cs : Array Value) : Nat × Obj := (H, .cells cs 39 (0, 0))
theorem Ow.tcell {W w : World} {B H : Nat} {Ks : List (Nat × Obj)} {vs : List Value} {ns ms : Nat → Nat} {g : Value} {xs : List Value} {O : Nat → Option Nat} (h : Ow W B Ks vs ns ms g xs O w) {cs : Array Value} (hR : tokK H cs ∈ Ks) {i : Nat} {v : Value} (hv : cs[i]? = some v) : w.cell? ⟨H, i, none⟩ = some v := by
  rw [cell_of_row w H i cs 39 (0, 0) (h.kept _ hR).1]
  exact hv
def mk1 (ns : Nat → Nat) (k : Nat) : Nat → Nat := fun j => if j < k then ns j else 0
def mk2 (ns : Nat → Nat) (k m : Nat) : Nat → Nat := fun j => if j < k then ns j else if j = k then m else 0
theorem mk2_0 (ns : Nat → Nat) (k : Nat) : mk2 ns k 0 = mk1 ns k := by
  funext j
  unfold mk2 mk1
  split
  · rfl
  · split <;> rfl
theorem mk2_end (ns : Nat → Nat) (k : Nat) : mk2 ns k (ns k) = mk1 ns (k + 1) := by
  funext j
  unfold mk2 mk1
  by_cases h : j < k
  · rw [if_pos h, if_pos (by omega)]
  · rw [if_neg h]
    by_cases e : j = k
    · subst e; rw [if_pos rfl, if_pos (by omega)]
    · rw [if_neg e, if_neg (by omega)]
theorem mk2_step (ns : Nat → Nat) (k m : Nat) : (fun j => if j = k then m + 1 else mk2 ns k m j) = mk2 ns k (m + 1) := by
  funext j
  unfold mk2
  by_cases e : j = k
  · subst e; rw [if_pos rfl, if_neg (by omega), if_pos rfl]
  · rw [if_neg e]
    simp only [if_neg e]

def TK (k : Nat) : Array Value := #[.int .i64 (-1 - (k : Int)), .string ⟨#[]⟩, .int .i64 0, .int .i64 0]
theorem lit_cellsz (w : World) (cs : List Value) (t : TypeId) : ∀ j u, cs[j]? = some u → (w.alloc (.cells cs.toArray t)).cell? ((⟨w.heap.size, 0, none⟩ : Addr).add j) = some u := by
  intro j u h
  have e : ((⟨w.heap.size, 0, none⟩ : Addr).add j) = ⟨w.heap.size, j, none⟩ := by cases j <;> simp [Addr.add]
  rw [e, cell_of_row _ w.heap.size j cs.toArray t (0, 0) (heap_alloc_new w _)]
  simpa using h

set_option maxRecDepth 100000 in
set_option maxHeartbeats 4000000 in
theorem owned_walk (W : World) (B R : Nat) (vs : List Value) (ns : Nat → Nat) (O0 : Nat → Option Nat) (h4 : vs.length = 4) (h0 : Ow W B [rowK R vs] vs ns (mk1 ns 0) (.slice none 0 0) [] O0 W) (hn : ∀ i, ns i ≤ 20000) :
    Calls Tryz.prog 9 #[.slice (some ⟨R, 0, none⟩) 4 4] W fun e w' => e = .returned (.bool true) ∧ Below B W w' := by
  go_enter Tryz.func9, Tryz.ntmps9
  go_wp2
  go_loopg [4] 4 (fun g i wr => ∃ k : Nat, k ≤ 4 ∧ g = 4 - k ∧ i = .int .i64 k ∧ Ow W B [rowK R vs] vs ns (mk1 ns k) (.slice none 0 0) [] O0 wr)
  case atStart => exact ⟨0, Nat.zero_le _, rfl, rfl, h0⟩
  case round =>
    obtain ⟨k, hk, rfl, rfl, hI⟩ := hrel
    clear h0
    by_cases hk4 : k < 4
    · have hkz : (k : Int) < 4 := by omega
      have hv : vs[k]? = some vs[k] := List.getElem?_eq_getElem (by omega)
      have hI0 := hI
      rw [← mk2_0] at hI0
      obtain ⟨a, cap, hs, _, _, _, _, _⟩ := hI.row k _ hv
      have hc := hI.cell (List.mem_cons_self ..) hv
      rw [hs] at hc hv
      generalize vs[k] = vk at hs
      clear hs vk
      go_wp2
      go_loopg [5] (ns k) (fun g x wi => ∃ m : Nat, m ≤ ns k ∧ g = ns k - m ∧ x = .int .i64 m ∧ Ow W B [rowK R vs] vs ns (mk2 ns k m) (.slice none 0 0) [] O0 wi)
      case atStart => exact ⟨0, Nat.zero_le _, rfl, rfl, hI0⟩
      case round =>
        obtain ⟨m, hm, rfl, rfl, hJ⟩ := hrel
        clear hI0 hc
        have hc := hJ.cell (List.mem_cons_self ..) hv
        have hnk := hn k
        by_cases hmn : m < ns k
        · have hmz : (m : Int) < (ns k : Int) := by omega
          obtain ⟨b, cap', hs, hf, hex, hst⟩ := hJ.mark hv hmn (show mk2 ns k m k = m by unfold mk2; rw [if_neg (by omega), if_pos rfl])
          injection hs with hs1 hs2 hs3
          subst hs1
          obtain ⟨c0, y0⟩ := hex 0 (by omega)
          obtain ⟨c1, y1⟩ := hex 1 (by omega)
          obtain ⟨c2, y2⟩ := hex 2 (by omega)
          obtain ⟨c3, y3⟩ := hex 3 (by omega)
          rw [Nat.add_zero] at y0
          have f0 := hf (m * 4)
          have f1 := hf (m * 4 + 1)
          have f2 := hf (m * 4 + 2)
          have f3 := hf (m * 4 + 3)
          clear hex hf
          have hst := hst (.string ⟨#[]⟩) (.int .i64 0) (.int .i64 0)
          rw [mk2_step] at hst
          go_wp2
          go_roundg (ns k - (m + 1))
          case measure => go_light; omega
          case rel => go_light; exact ⟨m + 1, by omega, rfl, by simp, hst⟩
        · have hmz : ¬ (m : Int) < (ns k : Int) := by omega
          have hme : m = ns k := by omega
          go_wp2
          go_roundg (4 - (k + 1))
          case measure => go_light; omega
          case rel => go_light; exact ⟨k + 1, by omega, rfl, by simp, by rw [← mk2_end, ← hme]; exact hJ⟩
    · have hkz : ¬ (k : Int) < 4 := by omega
      have hke : k = 4 := by omega
      subst hke
      obtain ⟨i39, hi39, hi1, hi2, hi3⟩ := info39
      obtain ⟨i23, hi23, hj1, hj2, hj3⟩ := info23z
      go_wp2
      go_loopg [3, 6] 4 (fun g gv i wi => ∃ (k : Nat) (xs : List Value) (O : Nat → Option Nat), k ≤ 4 ∧ g = 4 - k ∧ i = .int .i64 k ∧ xs.length = 21 * k ∧ Ow W B [rowK R vs] vs ns (mk1 ns 4) gv xs O wi)
      case atStart => exact ⟨0, [], O0, Nat.zero_le _, rfl, rfl, rfl, hI⟩
      case round =>
        obtain ⟨k, xs, O, hk, rfl, rfl, hx, hJ⟩ := hrel
        clear hI
        by_cases hk4 : k < 4
        · have hkz : (k : Int) < 4 := by omega
          have hv : vs[k]? = some vs[k] := List.getElem?_eq_getElem (by omega)
          obtain ⟨a, cap, hs, _, _, _, _, _⟩ := hJ.row k _ hv
          rw [hs] at hv
          have hc := fun o => (hJ.alloc o).1.cell (List.mem_cons_of_mem _ (List.mem_cons_self ..)) hv
          have hr0 := hJ.row k _ hv
          generalize vs[k] = vk at hs
          clear hs vk
          have hm4 : mk1 ns 4 k = ns k := by unfold mk1; rw [if_pos hk4]
          rw [hm4] at hr0
          have hJ1 := fun o => hJ.alloc o
          go_wp2
          have hJ2 := hJ1 (.cells (TK k) 39)
          generalize hW : wr.alloc (.cells (TK k) 39) = w2 at hJ2
          rw [show (Obj.cells #[Value.int IntKind.i64 (-1 - (k : Int)), Value.string { data := #[] }, Value.int IntKind.i64 0, Value.int IntKind.i64 0] 39) = .cells (TK k) 39 from rfl, hW]
          generalize hH : wr.heap.size = H at hJ2
          have hr2 := hJ2.2 _ _ _ _ hr0
          have hJ2 := hJ2.1
          clear hJ1 hr0 hJ hc hW hH
          go_loopg [3, 8, 9] 20 (fun g gv lv x wi => ∃ (m : Nat) (xs : List Value) (O : Nat → Option Nat), m ≤ 20 ∧ g = 20 - m ∧ x = .int .i64 m ∧ xs.length = 21 * k + m ∧ Ow W B [tokK H (TK k), rowK R vs] vs ns (mk1 ns 4) gv xs O wi ∧ MkS O B wi k lv (ns k + m) (ns k + m))
          case atStart => exact ⟨0, xs, O, by omega, rfl, rfl, hx, hJ2, hr2⟩
          case round =>
            clear hJ2 hr2 hx
            obtain ⟨m, xs, O, hm, rfl, rfl, hx, hJ, hl⟩ := hrel
            by_cases hm20 : m < 20
            · have hmz : (m : Int) < 20 := by omega
              have hnk := hn k
              have c0 := hJ.tcell (List.mem_cons_self ..) (show (TK k)[0]? = some (.int .i64 (-1 - (k : Int))) from rfl)
              have c1 := hJ.tcell (List.mem_cons_self ..) (show (TK k)[1]? = some (.string ⟨#[]⟩) from rfl)
              have c2 := hJ.tcell (List.mem_cons_self ..) (show (TK k)[2]? = some (.int .i64 0) from rfl)
              have c3 := hJ.tcell (List.mem_cons_self ..) (show (TK k)[3]? = some (.int .i64 0) from rfl)
              have ha := hJ.alloc (.cells (TK k) 39)
              have A := fun ty => Ow.app (ty := ty) Tryz.underlying23 hi39 hi3 hi1 hi2 rfl (ha.1.less (fun p hp => List.mem_cons_of_mem _ hp)) (m := 1) (ha.2 _ _ _ _ hl) (by omega) (by omega) ⟨wr.heap.size, 0, none⟩ 1 _ _ _ ⟨rfl, rfl, rfl⟩ (lit_cellsz wr [.int .i64 (-1 - (k : Int)), .string ⟨#[]⟩, .int .i64 0, .int .i64 0] 39)
              clear ha
              go_wp2_with (first | (at_builtin; refine wpList_append_run rfl _ _ 23 rfl _ _ rfl rfl _ (A _) ?_) | go_in)
              intro v1 w5 hC1
              obtain ⟨O1, hO1, hm1⟩ := hC1
              clear A c0 c1 c2 c3 hJ hl
              obtain ⟨a1, cap1, rfl, _, _, _, _, _⟩ := id hm1
              have hb := hO1.alloc (.cells #[.slice a1 (ns k + m + 1) cap1] 23)
              have A2 := fun ty => Ow.push (ty := ty) Tryz.underlying36 hi23 hj3 hj1 hj2 rfl (hb.1.less (fun p hp => List.mem_cons_of_mem _ hp)) (show MkS O1 B _ (xs.length / 21) (.slice a1 (ns k + m + 1) cap1) _ _ by rw [hx, show (21 * k + m) / 21 = k by omega]; exact hb.2 _ _ _ _ hm1) (by omega) ⟨w5.heap.size, 0, none⟩ 1 (lit_cellsz w5 [.slice a1 (ns k + m + 1) cap1] 23 0 _ rfl) rfl
              have hm2 := hb.2 _ _ _ _ hm1
              clear hb hO1
              go_wp2_with (first | (at_builtin; refine wpList_append_run rfl _ _ 36 rfl _ _ rfl rfl _ (A2 _) ?_) | go_in)
              intro g2 w6 hC2
              obtain ⟨hO2, hmv⟩ := hC2
              have hm3 := hmv _ _ _ _ hm2
              clear A2 hm2 hm1 hmv
              go_wp2
              go_roundg (20 - (m + 1))
              case measure => go_light; omega
              case rel => go_light; exact ⟨m + 1, _, O1, by omega, rfl, by simp, by rw [List.length_append, hx]; simp; omega, hO2, hm3⟩
            · have hmz : ¬ (m : Int) < 20 := by omega
              have hme : m = 20 := by omega
              subst hme
              have hnk := hn k
              have hJd := hJ.drew
              have r0 := hJ.row k _ hv
              rw [hm4] at r0
              have r1 := hJd.2 _ _ _ _ r0
              have d0 := hJ.cell (List.mem_cons_of_mem _ (List.mem_cons_self ..)) hv
              have c0 := hJ.tcell (List.mem_cons_self ..) (show (TK k)[0]? = some (.int .i64 (-1 - (k : Int))) from rfl)
              have c1 := hJ.tcell (List.mem_cons_self ..) (show (TK k)[1]? = some (.string ⟨#[]⟩) from rfl)
              have c2 := hJ.tcell (List.mem_cons_self ..) (show (TK k)[2]? = some (.int .i64 0) from rfl)
              have c3 := hJ.tcell (List.mem_cons_self ..) (show (TK k)[3]? = some (.int .i64 0) from rfl)
              have hq := hJ.alloc (.cells (mkC k (.string ⟨#[]⟩) (.int .i64 0) (.int .i64 0) 9).toArray 39)
              have hqd := hq.1.drew
              have A := fun ty => Ow.app (ty := ty) Tryz.underlying23 hi39 hi3 hi1 hi2 rfl (hqd.1.less (fun p hp => List.mem_cons_of_mem _ hp)) (m := 9) (hqd.2 _ _ _ _ (hq.2 _ _ _ _ r0)) (by omega) (by omega) ⟨wr.heap.size, 0, none⟩ 9 _ _ _ ⟨rfl, rfl, rfl⟩ (lit_cellsz wr (mkC k (.string ⟨#[]⟩) (.int .i64 0) (.int .i64 0) 9) 39)
              clear r0 r1 hJd hq hqd hJ hl
              go_wp2
              go_region_held3 (fun w' => w'.cell? ⟨R, k, none⟩ = some (.slice a (ns k) cap) ∧ w'.cell? ⟨H, 0, none⟩ = some (.int .i64 (-1 - (k : Int))) ∧ w'.cell? ⟨H, 1, none⟩ = some (.string ⟨#[]⟩) ∧ w'.cell? ⟨H, 2, none⟩ = some (.int .i64 0) ∧ w'.cell? ⟨H, 3, none⟩ = some (.int .i64 0)) (go_keep) (first
                | (refine step_append_run rfl (.tmp 67) (.tmp 77) 23 rfl _ _ rfl rfl _ (A _) ?_
                   intro v1 w5 hC1
                   obtain ⟨O1, hO1, hm1⟩ := hC1
                   obtain ⟨a1, cap1, rfl, _, _, _, _, _⟩ := id hm1
                   have e0 := hO1.cell (List.mem_cons_of_mem _ (List.mem_cons_self ..)) hv
                   have e1 := hO1.tcell (List.mem_cons_self ..) (show (TK k)[0]? = some (.int .i64 (-1 - (k : Int))) from rfl)
                   have e2 := hO1.tcell (List.mem_cons_self ..) (show (TK k)[1]? = some (.string ⟨#[]⟩) from rfl)
                   have e3 := hO1.tcell (List.mem_cons_self ..) (show (TK k)[2]? = some (.int .i64 0) from rfl)
                   have e4 := hO1.tcell (List.mem_cons_self ..) (show (TK k)[3]? = some (.int .i64 0) from rfl)
                   have hb := hO1.alloc (.cells #[.slice a1 (ns k + 9) cap1] 23)
                   have A2 := fun ty => Ow.push (ty := ty) Tryz.underlying36 hi23 hj3 hj1 hj2 rfl (hb.1.less (fun p hp => List.mem_cons_of_mem _ hp)) (show MkS O1 B _ (xs.length / 21) (.slice a1 (ns k + 9) cap1) _ _ by rw [hx, show (21 * k + 20) / 21 = k by omega]; exact hb.2 _ _ _ _ hm1) (by omega) ⟨w5.heap.size, 0, none⟩ 1 (lit_cellsz w5 [.slice a1 (ns k + 9) cap1] 23 0 _ rfl) rfl
                   clear hb)
                | (refine step_append_run rfl (.tmp 63) (.tmp 79) 36 rfl _ _ rfl rfl _ (A2 _) ?_
                   intro g2 w6 hC2
                   obtain ⟨hO2, hmv⟩ := hC2
                   have e0 := hO2.cell (List.mem_cons_of_mem _ (List.mem_cons_self ..)) hv
                   have e1 := hO2.tcell (List.mem_cons_self ..) (show (TK k)[0]? = some (.int .i64 (-1 - (k : Int))) from rfl)
                   have e2 := hO2.tcell (List.mem_cons_self ..) (show (TK k)[1]? = some (.string ⟨#[]⟩) from rfl)
                   have e3 := hO2.tcell (List.mem_cons_self ..) (show (TK k)[2]? = some (.int .i64 0) from rfl)
                   have e4 := hO2.tcell (List.mem_cons_self ..) (show (TK k)[3]? = some (.int .i64 0) from rfl)))
              go_wp2
              go_roundg (4 - (k + 1))
              case measure => go_light; omega
              case rel => go_light; exact ⟨k + 1, _, O1, by omega, rfl, by simp, by rw [List.length_append, hx]; simp; omega, hO2.less (fun p hp => List.mem_cons_of_mem _ hp)⟩
        · have hkz : ¬ (k : Int) < 4 := by omega
          have hke : k = 4 := by omega
          subst hke
          obtain ⟨gb, gcap, hg, hgh, hgl⟩ := hJ.own.form (by omega)
          subst hg
          have hB : Below B W wr := ⟨hJ.os, hJ.tape, hJ.output, hJ.size, hJ.low⟩
          have hxz : (xs.length : Int) = 84 := by omega
          go_wp2
          go_loopg [10] 4 (fun g i wi => wi = wr ∧ ∃ p : Nat, p ≤ 4 ∧ g = 4 - p ∧ i = .int .i64 p)
          case atStart => exact ⟨rfl, 0, Nat.zero_le _, rfl, rfl⟩
          case round =>
            obtain ⟨rfl, p, hp, rfl, rfl⟩ := hrel
            by_cases hp4 : p < 4
            · have hpz : (p : Int) < 4 := by omega
              go_wp2
              go_loopg [11] 22 (fun g i wi => wi = wr ∧ ∃ q : Nat, q ≤ 22 ∧ g = 22 - q ∧ i = .int .i64 q)
              case atStart => exact ⟨rfl, 0, Nat.zero_le _, rfl, rfl⟩
              case round =>
                obtain ⟨rfl, q, hq, rfl, rfl⟩ := hrel
                by_cases hq22 : q < 22
                · have hv : vs[p]? = some vs[p] := List.getElem?_eq_getElem (by omega)
                  have hm4 : mk1 ns 4 p = ns p := by unfold mk1; rw [if_pos hp4]
                  have r0 := hJ.row p _ hv
                  rw [hm4] at r0
                  obtain ⟨a, cap, hs, _, _, _, _, _⟩ := id r0
                  rw [hs] at hv r0
                  have hc := hJ.cell (List.mem_cons_self ..) hv
                  generalize vs[p] = vk at hs
                  clear hs vk hv hm4
                  by_cases hq21 : q < 21
                  · have hqz : (q : Int) < 21 := by omega
                    have hqz2 : (q : Int) ≤ 21 := by omega
                    have hlt : 21 * p + q < xs.length := by omega
                    obtain ⟨n, r1⟩ := hJ.each (21 * p + q) _ (List.getElem?_eq_getElem hlt)
                    rw [show (21 * p + q) / 21 = p by omega] at r1
                    obtain ⟨a', cap', hs, _, hn30, _, _, _⟩ := id r1
                    have hd := hJ.own.cellAt (21 * p + q) (by omega)
                    rw [List.getElem?_eq_getElem hlt, hs] at hd
                    rw [hs] at r1
                    generalize xs[21 * p + q] = vk at hs
                    clear hs vk r0
                    go_wp2
                    go_loopg [13] (n) (fun g i wi => wi = wr ∧ ∃ t : Nat, t ≤ n ∧ g = n - t ∧ i = .int .i64 t)
                    case atStart => exact ⟨rfl, 0, Nat.zero_le _, rfl, rfl⟩
                    case round =>
                      obtain ⟨rfl, t, ht, rfl, rfl⟩ := hrel
                      by_cases htn : t < n
                      · have htz : (t : Int) < ((n : Nat) : Int) := by omega
                        obtain ⟨b, cp, he, _, _, _, _, _, hex, hmk⟩ := r1.at htn
                        injection he with he1 he2 he3
                        subst he1
                        have y0 := hmk htn
                        clear hex hmk he3
                        go_wp2
                        go_roundg (n - (t + 1))
                        case measure => go_light; omega
                        case rel => go_light; exact ⟨rfl, t + 1, by omega, rfl, by simp⟩
                      · have htz : ¬ (t : Int) < ((n : Nat) : Int) := by omega
                        go_wp2
                        go_roundg (22 - (q + 1))
                        case measure => go_light; omega
                        case rel => go_light; exact ⟨rfl, q + 1, by omega, rfl, by simp⟩
                  · have hqz : ¬ (q : Int) < 21 := by omega
                    have hqz2 : (q : Int) ≤ 21 := by omega
                    have hnp := hn p
                    go_wp2
                    go_loopg [13] (ns p) (fun g i wi => wi = wr ∧ ∃ t : Nat, t ≤ ns p ∧ g = ns p - t ∧ i = .int .i64 t)
                    case atStart => exact ⟨rfl, 0, Nat.zero_le _, rfl, rfl⟩
                    case round =>
                      obtain ⟨rfl, t, ht, rfl, rfl⟩ := hrel
                      by_cases htn : t < ns p
                      · have htz : (t : Int) < ((ns p : Nat) : Int) := by omega
                        obtain ⟨b, cp, he, _, _, _, _, _, hex, hmk⟩ := r0.at htn
                        injection he with he1 he2 he3
                        subst he1
                        have y0 := hmk htn
                        clear hex hmk he3
                        go_wp2
                        go_roundg (ns p - (t + 1))
                        case measure => go_light; omega
                        case rel => go_light; exact ⟨rfl, t + 1, by omega, rfl, by simp⟩
                      · have htz : ¬ (t : Int) < ((ns p : Nat) : Int) := by omega
                        go_wp2
                        go_roundg (22 - (q + 1))
                        case measure => go_light; omega
                        case rel => go_light; exact ⟨rfl, q + 1, by omega, rfl, by simp⟩
                · have hqz : ¬ (q : Int) ≤ 21 := by omega
                  go_wp2
                  go_roundg (4 - (p + 1))
                  case measure => go_light; omega
                  case rel => go_light; exact ⟨rfl, p + 1, by omega, rfl, by simp⟩
            · have hpz : ¬ (p : Int) < 4 := by omega
              have hpe : p = 4 := by omega
              subst hpe
              go_wp2
              go_returns
              exact ⟨rfl, hB⟩
end Go.Vm
end

section
namespace Go.Vm
open Go.Proofs Go.RowKit Go.Shelf
set_option maxRecDepth 20000

def f13o : Fun := ⟨f13.body, f13.res, true⟩
theorem f13o_ok : funOk Go.Proofs.Tryz.prog 6 0 1 f13o = true := by kernel_rfl
theorem lex_most : ∀ (k : Nat) (r : BS), r.length = k → ∀ (i n : Nat) l, n ≤ 20000 → lexS r i n = .ok l → n + l.length ≤ 20000 := by
  intro k
  induction k using Nat.strongRecOn with
  | ind k ih =>
    intro r hr i n l hn h
    subst hr
    cases r with
    | nil =>
      rw [lexS] at h
      injection h with h
      subst h
      simpa using hn
    | cons c r =>
      obtain ⟨hsk, htk⟩ := stepS_len (r := c :: r) (by simp)
      rw [lexS] at h
      cases hst : stepS (c :: r) with
      | bad e => rw [hst] at h; cases h
      | skip m =>
        rw [hst] at h
        have := hsk m hst
        simp only [List.length_cons] at this
        exact ih (r.drop (m - 1)).length (by rw [List.length_drop, List.length_cons]; omega) _ rfl _ _ _ hn h
      | tok kd tx nm m =>
        rw [hst] at h
        have := htk _ _ _ _ hst
        simp only [List.length_cons] at this
        simp only at h
        split at h
        · cases h
        · cases hx : lexS (r.drop (m - 1)) (i + m) (n + 1) with
          | bad e p => rw [hx] at h; cases h
          | ok l' =>
            rw [hx] at h
            injection h with h
            subst h
            have := ih (r.drop (m - 1)).length (by rw [List.length_drop, List.length_cons]; omega) _ rfl _ _ _ (by omega) hx
            simp only [List.length_cons]
            omega
theorem ev_LexOwn (K : Cx) (h27 : K27 K) (h28 : K28 K) (h29 : K29 K) (h30 : K30 K) (h31 : K31 K) (h32 : K32 K) (s : BS) (hs : s.length ≤ 65536) (l : List Tok) (hl : lexS s 0 0 = .ok l) :
    runFun K f13o [vS s] [] = some (.tup [outN l, .d false .nilif], newsN l, []) := by
  have hm := lx_main K h27 h28 h29 h30 h31 h32 s hs _ s rfl 0 ⟨0, [], 0, 0⟩ [] rfl (by omega) (by simp)
  rw [List.length_nil] at hm
  have e0 : ∀ r : LR, r.app [] = r := by intro r; cases r <;> rfl
  rw [e0, scopeF_goto (lab1 K), ← lx_start K h27 h28 h29 h30 h31 h32 s hs, exec_G0, show lxLab K = fun l => exec.labelled K (.lcons 1 f13_G0 (.lcons 2 f13_G1 (.lcons 0 f13_G2 .lnil))) l from rfl] at hm
  simp only [lxP, vTok, Int.natCast_zero] at hm
  rw [hl] at hm
  unfold f13o
  by_cases g : l = []
  · subst g
    simp only [lexOut] at hm
    simp only [outN, newsN]
    simp (disch := first | decide | omega | (simp only [LN]; omega) | (simp only [LN]; done) | fail) only [SV, SW, f13_eq, Int.reduceNeg, exec_scope, Nat.reduceBEq, Nat.reduceAdd, exec_label, hm, oneOr]
  · have e : lexOut (.ok l) = (.ret, ⟨[(2, .bsl 0 0 l.length), (3, .d false .nilif)], [(0, .dat true 4 (l.map eTok))], 1, []⟩) := by
      cases l with
      | nil => exact absurd rfl g
      | cons a l => rfl
    rw [e] at hm
    rw [(outN_ne g).1, (outN_ne g).2]
    clear e g hl
    simp (disch := first | decide | omega | (simp only [LN]; omega) | (simp only [LN]; done) | fail) only [SV, SW, f13_eq, Int.reduceNeg, exec_scope, Nat.reduceBEq, Nat.reduceAdd, exec_label, hm, oneOr, hNew, V.forget, V.drop1, V.ref0, V.newR, viewD]
end Go.Vm
end

section
namespace Go.Vm
open Go.Proofs Go.RowKit

def cT (t : Tok) : List Value := [.int .i64 t.kind, .string ⟨t.text.toArray⟩, .int .i64 t.num, .int .i64 t.at_]
def cL : List Tok → List Value
  | [] => []
  | t :: l => cT t ++ cL l
theorem cL_len : ∀ l : List Tok, (cL l).length = l.length * 4
  | [] => rfl
  | t :: l => by
    have := cL_len l
    simp only [cL, List.length_append, List.length_cons, cT, List.length_nil]
    omega
theorem cL_at : ∀ (l : List Tok) (i j : Nat) (t : Tok), l[i]? = some t → j < 4 → (cL l)[i * 4 + j]? = (cT t)[j]?
  | [], i, j, t, h, _ => by simp at h
  | u :: l, 0, j, t, h, hj => by
    simp only [List.getElem?_cons_zero, Option.some.injEq] at h
    subst h
    simp only [cL, Nat.zero_mul, Nat.zero_add]
    rw [List.getElem?_append_left (by simp [cT]; omega)]
  | u :: l, i + 1, j, t, h, hj => by
    simp only [List.getElem?_cons_succ] at h
    simp only [cL]
    rw [List.getElem?_append_right (by simp [cT]; omega)]
    have := cL_at l i j t h hj
    rw [← this]
    congr 1
    simp [cT]; omega
theorem cL_get {l : List Tok} {k : Nat} {c : Value} (h : (cL l)[k]? = some c) : ∃ i j t, k = i * 4 + j ∧ j < 4 ∧ l[i]? = some t ∧ (cT t)[j]? = some c := by
  have hk : k < l.length * 4 := by rw [← cL_len]; exact (List.getElem?_eq_some_iff.1 h).1
  have hi : k / 4 < l.length := by omega
  refine ⟨k / 4, k % 4, l[k / 4], by omega, by omega, List.getElem?_eq_getElem hi, ?_⟩
  rw [← cL_at l (k / 4) (k % 4) _ (List.getElem?_eq_getElem hi) (by omega), show k / 4 * 4 + k % 4 = k from by omega]
  exact h
theorem repD_strA {w : World} {F : Nat → Prop} {v : Value} {s : BS} (h : RepD w F v (.str s)) : v = .string ⟨s.toArray⟩ := by
  cases h with | str t => rfl

theorem row_inv {w : World} {F : Nat → Prop} {base : Nat} {σ : Nat → Option Loc} {v : Value} {l : List Tok} (h : RepV w F base σ v (slT l)) :
    ∃ a cap, v = .slice a l.length cap ∧ l.length ≤ cap ∧ (a = none → cap = 0) ∧ (l ≠ [] → ∃ b o, a = some ⟨b, o, none⟩ ∧ F b ∧ ∀ j c, (cL l)[j]? = some c → w.cell? ⟨b, o + j, none⟩ = some c) := by
  change RepV w F base σ v (.d false (.sl 4 (l.map eTok))) at h
  generalize hx : (l.map eTok) = rows at h
  cases h with
  | d c v x h =>
  generalize hy : D.sl 4 rows = y at h
  cases h with
  | sl0 a cap k hc =>
    injection hy with _ hr
    rw [hr] at hx
    have : l = [] := by simpa using hx
    subst this
    exact ⟨a, cap, rfl, Nat.zero_le _, hc, fun h => absurd rfl h⟩
  | sl b o len cap k rows g h1 h2 h3 h4 h5 h6 =>
    injection hy with hk hr
    subst hk hr hx
    rw [List.length_map] at h1
    subst h1
    refine ⟨_, cap, rfl, h2, (fun h => by cases h), fun _ => ⟨b, o, rfl, h3, fun k c hc => ?_⟩⟩
    obtain ⟨i, j, t, rfl, hj, ht, hc⟩ := cL_get hc
    have hrow : (l.map eTok)[i]? = some (eTok t) := by rw [List.getElem?_map, ht]; rfl
    match j, hj, hc with
    | 0, _, hc =>
      have e := h5 i 0 _ _ hrow rfl
      rw [repD_int (h6 i 0 _ _ hrow rfl)] at e
      simp only [cT, List.getElem?_cons_zero, Option.some.injEq] at hc
      rw [← hc]; exact e
    | 1, _, hc =>
      have e := h5 i 1 _ _ hrow rfl
      rw [repD_strA (h6 i 1 _ _ hrow rfl)] at e
      simp only [cT, List.getElem?_cons_zero, List.getElem?_cons_succ, Option.some.injEq] at hc
      rw [← hc]; exact e
    | 2, _, hc =>
      have e := h5 i 2 _ _ hrow rfl
      rw [repD_int (h6 i 2 _ _ hrow rfl)] at e
      simp only [cT, List.getElem?_cons_zero, List.getElem?_cons_succ, Option.some.injEq] at hc
      rw [← hc]; exact e
    | 3, _, hc =>
      have e := h5 i 3 _ _ hrow rfl
      rw [repD_int (h6 i 3 _ _ hrow rfl)] at e
      simp only [cT, List.getElem?_cons_zero, List.getElem?_cons_succ, Option.some.injEq] at hc
      rw [← hc]; exact e
    | j + 4, hj, _ => omega
  | _ => cases hy
theorem row_rep {w : World} {F : Nat → Prop} {base : Nat} {σ : Nat → Option Loc} {b o cap : Nat} {l : List Tok} (hb : F b) (hl : l.length ≤ cap) (h : ∀ j c, (cL l)[j]? = some c → w.cell? ⟨b, o + j, none⟩ = some c) :
    RepV w F base σ (.slice (some ⟨b, o, none⟩) l.length cap) (slT l) := by
  have key : ∀ (i j : Nat) (r : List D) (d : D), (l.map eTok)[i]? = some r → r[j]? = some d → ∃ t, l[i]? = some t ∧ j < 4 ∧ (eTok t)[j]? = some d := by
    intro i j r d hr hd
    rw [List.getElem?_map, Option.map_eq_some_iff] at hr
    obtain ⟨t, ht, rfl⟩ := hr
    have := (List.getElem?_eq_some_iff.1 hd).1
    exact ⟨t, ht, this, hd⟩
  refine .d _ _ _ (.sl b o _ _ 4 _ (fun i j => (cL l).getD (i * 4 + j) undef) (by rw [List.length_map]) hl hb ?_ ?_ ?_)
  · intro r hr
    obtain ⟨u, _, rfl⟩ := List.mem_map.1 hr
    rfl
  · intro i j r d hr hd
    obtain ⟨t, ht, hj, hd⟩ := key i j r d hr hd
    have e := cL_at l i j t ht hj
    have hx : ∃ c, (cT t)[j]? = some c := ⟨_, List.getElem?_eq_getElem (by simp [cT]; omega)⟩
    obtain ⟨c, hc⟩ := hx
    rw [hc] at e
    rw [List.getD_eq_getElem?_getD, e]
    exact h _ _ e
  · intro i j r d hr hd
    obtain ⟨t, ht, hj, hd⟩ := key i j r d hr hd
    have e := cL_at l i j t ht hj
    rw [List.getD_eq_getElem?_getD, e]
    match j, hj, hd with
    | 0, _, hd =>
      simp only [eTok, List.getElem?_cons_zero, Option.some.injEq] at hd
      subst hd; exact .int _ _
    | 1, _, hd =>
      simp only [eTok, List.getElem?_cons_zero, List.getElem?_cons_succ, Option.some.injEq] at hd
      subst hd; exact .str ⟨t.text.toArray⟩
    | 2, _, hd =>
      simp only [eTok, List.getElem?_cons_zero, List.getElem?_cons_succ, Option.some.injEq] at hd
      subst hd; exact .int _ _
    | 3, _, hd =>
      simp only [eTok, List.getElem?_cons_zero, List.getElem?_cons_succ, Option.some.injEq] at hd
      subst hd; exact .int _ _
    | j + 4, hj, _ => omega

def RowAt (B : Nat) (w : World) (v : Value) (l : List Tok) : Prop :=
  ∃ a cap, v = .slice a l.length cap ∧ l.length ≤ cap ∧ (a = none → cap = 0) ∧ (l ≠ [] → ∃ b o, a = some ⟨b, o, none⟩ ∧ b < B ∧ ∀ j c, (cL l)[j]? = some c → w.cell? ⟨b, o + j, none⟩ = some c)
theorem RowAt.rep {B : Nat} {w : World} {v : Value} {l : List Tok} (h : RowAt B w v l) (hB : B ≤ w.heap.size) {base : Nat} {σ : Nat → Option Loc} : RepV w (There w) base σ v (slT l) := by
  obtain ⟨a, cap, rfl, h1, h2, h3⟩ := h
  by_cases g : l = []
  · subst g
    exact .d _ _ _ (.sl0 a cap 4 h2)
  · obtain ⟨b, o, rfl, hb, hc⟩ := h3 g
    exact row_rep (show b < w.heap.size by omega) h1 hc
theorem RowAt.keep {B : Nat} {w w' : World} {v : Value} {l : List Tok} (h : RowAt B w v l) (hk : ∀ b, b < B → w'.heap[b]? = w.heap[b]?) : RowAt B w' v l := by
  obtain ⟨a, cap, rfl, h1, h2, h3⟩ := h
  refine ⟨a, cap, rfl, h1, h2, fun g => ?_⟩
  obtain ⟨b, o, rfl, hb, hc⟩ := h3 g
  exact ⟨b, o, rfl, hb, fun j c hj => by rw [World.cell?_of_block (w := w) (hk b hb)]; exact hc j c hj⟩
theorem glob_keep {w w' : World} (hG : GlobRel w (There w) GT) (hs : w.heap.size ≤ w'.heap.size) (hb : ∀ b, b < w.heap.size → w'.heap[b]? = w.heap[b]?) : GlobRel w' (There w') GT :=
  hG.mono fun b h => ⟨Nat.lt_of_lt_of_le h hs, hb b h⟩

theorem call_of {f : FuncId} {args : List V} {r : V} {vals : Array Value} {w : World} (hP : PureCall Tryz.prog GT f args r []) (hG : GlobRel w (There w) GT) (hR : Reps w (There w) w.heap.size (fun _ => none) vals args) :
    Calls Tryz.prog f vals w fun e w' => ∃ v F' σ', e = .returned v ∧ Below w.heap.size w w' ∧ RepV w' F' w.heap.size σ' v r :=
  (hP w (There w) vals (fun b h => h) hG hR).mono fun e w' ⟨v, F', σ', he, hb, _, hr, _⟩ => ⟨v, F', σ', he, hb, hr⟩
theorem reps_one {w : World} {v : Value} {x : V} (h : RepV w (There w) w.heap.size (fun _ => none) v x) : Reps w (There w) w.heap.size (fun _ => none) #[v] [x] :=
  ⟨rfl, fun j a b ha hb => by
    match j, ha, hb with
    | 0, ha, hb => simp at ha hb; subst ha hb; exact h
    | j + 1, ha, hb => simp at ha⟩
theorem reps_two {w : World} {v u : Value} {x y : V} (h : RepV w (There w) w.heap.size (fun _ => none) v x) (h' : RepV w (There w) w.heap.size (fun _ => none) u y) : Reps w (There w) w.heap.size (fun _ => none) #[v, u] [x, y] :=
  ⟨rfl, fun j a b ha hb => by
    match j, ha, hb with
    | 0, ha, hb => simp at ha hb; subst ha hb; exact h
    | 1, ha, hb => simp at ha hb; subst ha hb; exact h'
    | j + 2, ha, hb => simp at ha⟩

def OwnRow (base top : Nat) (w : World) (v : Value) (l : List Tok) : Prop :=
  ∃ a cap, v = .slice a l.length cap ∧ l.length ≤ cap ∧ (a = none → cap = 0) ∧ (cap = 0 ∨ ∃ (b : Nat) (cs : Array Value) (T : TypeId), a = some ⟨b, 0, none⟩ ∧ base ≤ b ∧ b < top ∧ w.heap[b]? = some (.cells cs T (0, 0)) ∧ cap * 4 ≤ cs.size ∧ ∀ (j : Nat) (c : Value), (cL l)[j]? = some c → cs[j]? = some c)
theorem OwnRow.keep {base top : Nat} {w w' : World} {v : Value} {l : List Tok} (h : OwnRow base top w v l) (hb : Below w.heap.size w w') : OwnRow base top w' v l := by
  obtain ⟨a, cap, rfl, h1, h2, h3⟩ := h
  refine ⟨a, cap, rfl, h1, h2, ?_⟩
  rcases h3 with h3 | ⟨b, cs, T, e, hb1, hb2, hh, hs, hc⟩
  · exact .inl h3
  · exact .inr ⟨b, cs, T, e, hb1, hb2, (hb.block b (Array.getElem?_eq_some_iff.1 hh).1).trans hh, hs, hc⟩
theorem OwnRow.at {base top : Nat} {w : World} {v : Value} {l : List Tok} (h : OwnRow base top w v l) : RowAt w.heap.size w v l := by
  obtain ⟨a, cap, rfl, h1, h2, h3⟩ := h
  refine ⟨a, cap, rfl, h1, h2, fun hne => ?_⟩
  have : 0 < l.length := by cases l with | nil => exact absurd rfl hne | cons a l => simp
  rcases h3 with h3 | ⟨b, cs, T, rfl, hb1, hb2, hh, hs, hc⟩
  · omega
  · refine ⟨b, 0, rfl, (Array.getElem?_eq_some_iff.1 hh).1, fun j c hj => ?_⟩
    rw [Nat.zero_add, cell_of_row w b j cs T (0, 0) hh]
    exact hc j c hj
theorem OwnRow.mks {base top B : Nat} {w : World} {v : Value} {l : List Tok} {O : Nat → Option Nat} {i : Nat} (h : OwnRow base top w v l) (hl : l.length ≤ 30000) (hB : B ≤ base) (hO : ∀ b, base ≤ b → b < top → O b = some i) : MkS O B w i v l.length 0 := by
  obtain ⟨a, cap, rfl, h1, h2, h3⟩ := h
  refine ⟨a, cap, rfl, h1, hl, Nat.zero_le _, h2, ?_⟩
  rcases h3 with h3 | ⟨b, cs, T, rfl, hb1, hb2, hh, hs, hc⟩
  · exact .inl h3
  · exact .inr ⟨b, cs, T, rfl, by omega, hO b hb1 hb2, hh, hs, fun k hk => by omega⟩

def ErrAt (w : World) (v : Value) : Option (Int × Int) → Prop
  | none => v = .nilIface
  | some (e, i) => RepD w (There w) v (.iface 45 [.ptr [.int .i64 e, .int .i64 0, .int .i64 i, .str []]])
theorem ErrAt.keep {w w' : World} {v : Value} {x : Option (Int × Int)} (h : ErrAt w v x) (hb : Below w.heap.size w w') : ErrAt w' v x := by
  match x, h with
  | none, h => exact h
  | some (e, i), h => exact RepD.mono (fun b hx => ⟨Nat.lt_of_lt_of_le hx hb.size, hb.block b hx⟩) h

def toksOf (s : BS) : List Tok := if 65536 < s.length then [] else match lexS s 0 0 with | .ok l => l | .bad _ _ => []
def fltOf (s : BS) : Option (Int × Int) := if 65536 < s.length then some (2, -1) else match lexS s 0 0 with | .ok _ => none | .bad e i => some (e, i)
def fltVal : Option (Int × Int) → Value
  | none => .agg #[.int .i64 0, .int .i64 0, .int .i64 0, .string ⟨#[]⟩]
  | some (e, i) => .agg #[.int .i64 e, .int .i64 0, .int .i64 i, .string ⟨#[]⟩]
theorem toks_most (s : BS) : (toksOf s).length ≤ 20000 := by
  unfold toksOf
  split
  · simp
  · cases h : lexS s 0 0 with
    | ok l =>
      have := lex_most _ s rfl 0 0 l (by omega) h
      simp only
      omega
    | bad e i => simp
theorem fltOf_ne (s : BS) {e i : Int} (h : fltOf s = some (e, i)) : e ≠ 0 := by
  unfold fltOf at h
  split at h
  · injection h with h; injection h with h1 h2; omega
  · cases hx : lexS s 0 0 with
    | ok l => rw [hx] at h; cases h
    | bad e' i' =>
      rw [hx] at h
      injection h with h; injection h with h1 h2
      have := (lex_bad _ s rfl 0 0 e' i' hx).1
      omega

theorem row_invT {w : World} {F : Nat → Prop} {base : Nat} {σ : Nat → Option Loc} {v : Value} {l : List Tok} (h : RepV w F base σ v (.d true (.sl 4 (l.map eTok)))) (hF : ∀ b, F b → b < w.heap.size) : RowAt w.heap.size w v l := by
  have h' : RepV w F base σ v (slT l) := by
    cases h with
    | d c v x h => exact .d _ _ _ (h.mono fun b hb => ⟨hb.1, rfl⟩)
  obtain ⟨a, cap, e, h1, h2, h3⟩ := row_inv h'
  exact ⟨a, cap, e, h1, h2, fun hne => by obtain ⟨b, o, e2, hf, hc⟩ := h3 hne; exact ⟨b, o, e2, hF b hf, hc⟩⟩
theorem flt_inv {w : World} {F : Nat → Prop} {base : Nat} {σ : Nat → Option Loc} {v : Value} {e i : Int} (h : RepV w F base σ v (fltV e 0 i [])) : v = .agg #[.int .i64 e, .int .i64 0, .int .i64 i, .string ⟨#[]⟩] := by
  cases h with
  | agg cs vs h1 h2 h3 =>
    obtain ⟨l⟩ := cs
    match l, h1, h2 with
    | [a, b, c, d], _, h2 =>
      have e0 := (h2 0 a _ rfl rfl).int_inv
      have e1 := (h2 1 b _ rfl rfl).int_inv
      have e2 := (h2 2 c _ rfl rfl).int_inv
      obtain ⟨t, e3, e3'⟩ := (h2 3 d _ rfl rfl).str_inv
      subst e0 e1 e2 e3
      have : t = ⟨#[]⟩ := by
        obtain ⟨⟨t⟩⟩ := t
        simp at e3'
        simp [e3']
      rw [this]
    | [], h1, _ => simp at h1
    | [_], h1, _ => simp at h1
    | [_, _], h1, _ => simp at h1
    | [_, _, _], h1, _ => simp at h1
    | _ :: _ :: _ :: _ :: _ :: _, h1, _ => simp at h1
theorem pair_inv {w : World} {F : Nat → Prop} {base : Nat} {σ : Nat → Option Loc} {v : Value} {x y : V} (h : RepV w F base σ v (.tup [x, y])) : ∃ a b, v = .tuple #[a, b] ∧ RepV w F base σ a x ∧ RepV w F base σ b y := by
  cases h with
  | tup cs vs h1 h2 =>
    obtain ⟨l⟩ := cs
    match l, h1, h2 with
    | [a, b], _, h2 => exact ⟨a, b, rfl, h2 0 a _ rfl rfl, h2 1 b _ rfl rfl⟩
    | [], h1, _ => simp at h1
    | [_], h1, _ => simp at h1
    | _ :: _ :: _ :: _, h1, _ => simp at h1
theorem err_inv {w : World} {F : Nat → Prop} {base : Nat} {σ : Nat → Option Loc} {v : Value} {e i : Int} (h : RepV w F base σ v (errI e i)) (hF : ∀ b, F b → b < w.heap.size) : ErrAt w v (some (e, i)) := by
  cases h with
  | d c v x h => exact h.mono fun b hb => ⟨hF b hb, rfl⟩

theorem c4z {w : World} (hG : GlobRel w (There w) GT) : Calls Tryz.prog 4 #[] w fun e w' => e = .returned (.bool true) ∧ Below w.heap.size w w' := by
  have hP := (znB.one z9 (by repeat (first | exact List.mem_cons_self .. | refine List.mem_cons_of_mem _ ?_)) () trivial).2
  refine (call_of hP hG ⟨rfl, fun j a b ha hb => by simp at ha⟩).mono ?_
  rintro e w' ⟨v, F', σ', rfl, hb, hr⟩
  exact ⟨by rw [hr.bool_inv], hb⟩
theorem str_rep (w : World) (s : ByteArray) : RepV w (There w) w.heap.size (fun _ => none) (.string s) (vS s.data.toList) := .d _ _ _ (.str s)
theorem c5z {w : World} (hG : GlobRel w (There w) GT) (s : ByteArray) (hs : s.data.toList.length ≤ 2000000) :
    Calls Tryz.prog 5 #[.string s] w fun e w' => ∃ v, e = .returned (.tuple #[v, fltVal (fltOf s.data.toList)]) ∧ Below w.heap.size w w' ∧ RowAt w'.heap.size w' v (toksOf s.data.toList) := by
  have hP := (znB.one z505 (by repeat (first | exact List.mem_cons_self .. | refine List.mem_cons_of_mem _ ?_)) s.data.toList hs).2
  refine (hP w (There w) #[.string s] (fun b h => h) hG (reps_one (str_rep w s))).mono ?_
  rintro e w' ⟨v, F', σ', rfl, hb, hF', hr, hH⟩
  have hF : ∀ b, F' b → b < w'.heap.size := hH.fro
  have hr : RepV w' F' w.heap.size σ' v (lexRV s.data.toList) := hr
  have key : ∀ (l : List Tok) (e i : Int), RepV w' F' w.heap.size σ' v (.tup [.d true (.sl 4 (l.map eTok)), fltV e 0 i []]) → ∃ a, v = .tuple #[a, .agg #[.int .i64 e, .int .i64 0, .int .i64 i, .string ⟨#[]⟩]] ∧ RowAt w'.heap.size w' a l := fun l e i h => by
    obtain ⟨a, b, rfl, h1, h2⟩ := pair_inv h
    rw [flt_inv h2]
    exact ⟨a, rfl, row_invT h1 hF⟩
  unfold lexRV at hr
  unfold fltOf toksOf
  split at hr
  · rename_i g
    rw [if_pos g, if_pos g]
    obtain ⟨a, rfl, h⟩ := key [] _ _ hr
    exact ⟨a, rfl, hb, h⟩
  · rename_i g
    rw [if_neg g, if_neg g]
    cases hx : lexS s.data.toList 0 0 with
    | ok l =>
      rw [hx] at hr
      obtain ⟨a, rfl, h⟩ := key l _ _ hr
      exact ⟨a, rfl, hb, h⟩
    | bad e i =>
      rw [hx] at hr
      obtain ⟨a, rfl, h⟩ := key [] _ _ hr
      exact ⟨a, rfl, hb, h⟩
theorem own_of {w w' : World} {F : Nat → Prop} {σ : Nat → Option Loc} {v : Value} {l : List Tok} (hr : RepV w' F w.heap.size σ v (outN l)) (hH : HeapRel w' F (fun _ _ => False) w.heap.size σ (newsN l).length (indexed (newsN l))) : OwnRow w.heap.size w'.heap.size w' v l := by
  by_cases g : l = []
  · subst g
    cases hr with
    | fs c a len k rows h =>
      cases h with
      | sl0 a cap k hc => exact ⟨a, 0, rfl, Nat.zero_le _, fun _ => rfl, .inl rfl⟩
      | sl b o len cap k rows g h1 h2 h3 h4 h5 h6 =>
        simp at h1
        subst h1
        exact ⟨_, 0, rfl, Nat.zero_le _, fun _ => rfl, .inl rfl⟩
  · rw [(outN_ne g).1] at hr
    rw [(outN_ne g).2] at hH
    have hl : 0 < l.length := by cases l with | nil => exact absurd rfl g | cons a l => simp
    have hb := hH.blk 0 (.dat true 4 (l.map eTok)) rfl
    generalize hn : l.length = n at hr hl
    cases hr with
    | bsl0 a b i => omega
    | bsl b i len cap loc hσ h1 h2 =>
      subst hn
      rcases hb with ⟨_, hc⟩ | ⟨_, _, _, _, he, _⟩ | ⟨loc', cs, T, hσ', hw, hk, he, hsz, hrow, _⟩
      · rw [hc] at hσ; cases hσ
      · cases he
      · obtain rfl : loc = loc' := by rw [hσ] at hσ'; exact Option.some.inj hσ'
        obtain ⟨_, _, hbase, hlt⟩ := hH.own 0 loc hσ
        have hk4 : loc.k = 4 := hk
        refine ⟨some ⟨loc.blk, 0, none⟩, cap, by rw [Nat.zero_mul], h1, (fun e => by cases e), .inr ⟨loc.blk, cs, T, rfl, hbase.resolve_right (fun h => h), hlt, hw, by rw [hsz, hk4]; omega, fun j c hj => ?_⟩⟩
        obtain ⟨i, j', t, rfl, hj4, ht, hc⟩ := cL_get hj
        have hrw : (Blk.dat true 4 (l.map eTok)).row? i = some ((eTok t).map (mkd true)) := by
          simp only [Blk.row?, List.getElem?_map, ht, Option.map_some]
        obtain ⟨hlen, hcell⟩ := hrow i _ hrw
        rw [hk4] at hcell
        match j', hj4, hc with
        | 0, _, hc =>
          obtain ⟨v, hv, _, hr⟩ := hcell 0 (mkd true (.int .i64 t.kind)) rfl
          rw [show mkd true (.int .i64 t.kind) = .d false (.int .i64 t.kind) from rfl] at hr
          rw [hr.int_inv] at hv
          simp only [cT, List.getElem?_cons_zero, Option.some.injEq] at hc
          rw [← hc]; exact hv
        | 1, _, hc =>
          obtain ⟨v, hv, _, hr⟩ := hcell 1 (mkd true (.str t.text)) rfl
          rw [show mkd true (.str t.text) = .d false (.str t.text) from rfl] at hr
          cases hr with
          | d _ _ _ hr =>
          rw [repD_strA hr] at hv
          simp only [cT, List.getElem?_cons_zero, List.getElem?_cons_succ, Option.some.injEq] at hc
          rw [← hc]; exact hv
        | 2, _, hc =>
          obtain ⟨v, hv, _, hr⟩ := hcell 2 (mkd true (.int .i64 t.num)) rfl
          rw [show mkd true (.int .i64 t.num) = .d false (.int .i64 t.num) from rfl] at hr
          rw [hr.int_inv] at hv
          simp only [cT, List.getElem?_cons_zero, List.getElem?_cons_succ, Option.some.injEq] at hc
          rw [← hc]; exact hv
        | 3, _, hc =>
          obtain ⟨v, hv, _, hr⟩ := hcell 3 (mkd true (.int .i64 t.at_)) rfl
          rw [show mkd true (.int .i64 t.at_) = .d false (.int .i64 t.at_) from rfl] at hr
          rw [hr.int_inv] at hv
          simp only [cT, List.getElem?_cons_zero, List.getElem?_cons_succ, Option.some.injEq] at hc
          rw [← hc]; exact hv
        | j' + 4, hj4, _ => omega
theorem c6z {w : World} (hG : GlobRel w (There w) GT) (s : ByteArray) (hs : s.data.toList.length ≤ 2000000) :
    Calls Tryz.prog 6 #[.string s] w fun e w' => ∃ v er, e = .returned (.tuple #[v, er]) ∧ Below w.heap.size w w' ∧ OwnRow w.heap.size w'.heap.size w' v (toksOf s.data.toList) ∧ ErrAt w' er (fltOf s.data.toList) := by
  have k27 := k27_of (E := EE) (show Has NB z27 by repeat (first | exact has_head _ _ | refine has_tail ?_ (by decide)))
  have k28 := k28_of (E := EE) (show Has NB z28 by repeat (first | exact has_head _ _ | refine has_tail ?_ (by decide)))
  have k29 := k29_of (E := EE) (show Has NB z29 by repeat (first | exact has_head _ _ | refine has_tail ?_ (by decide)))
  have k30 := k30_of (E := EE) (show Has NB z30 by repeat (first | exact has_head _ _ | refine has_tail ?_ (by decide)))
  have k31 := k31_of (E := EE) (show Has NB z31 by repeat (first | exact has_head _ _ | refine has_tail ?_ (by decide)))
  have k32 := k32_of (E := EE) (show Has NB z32 by repeat (first | exact has_head _ _ | refine has_tail ?_ (by decide)))
  have go : ∀ (r : V) (news : List Blk), PureCall Tryz.prog GT 6 [vS s.data.toList] r news →
      (∀ w' F' σ' v, RepV w' F' w.heap.size σ' v r → HeapRel w' F' (fun _ _ => False) w.heap.size σ' news.length (indexed news) → Below w.heap.size w w' → ∃ a b, v = .tuple #[a, b] ∧ OwnRow w.heap.size w'.heap.size w' a (toksOf s.data.toList) ∧ ErrAt w' b (fltOf s.data.toList)) →
      Calls Tryz.prog 6 #[.string s] w fun e w' => ∃ v er, e = .returned (.tuple #[v, er]) ∧ Below w.heap.size w w' ∧ OwnRow w.heap.size w'.heap.size w' v (toksOf s.data.toList) ∧ ErrAt w' er (fltOf s.data.toList) := by
    intro r news hP hk
    refine (hP w (There w) #[.string s] (fun b h => h) hG (reps_one (str_rep w s))).mono ?_
    rintro e w' ⟨v, F', σ', rfl, hb, hF', hr, hH⟩
    obtain ⟨a, b, rfl, h1, h2⟩ := hk w' F' σ' v hr hH hb
    exact ⟨a, b, rfl, hb, h1, h2⟩
  have bad : ∀ e i : Int, lexV0 s.data.toList = errV e i → toksOf s.data.toList = [] → fltOf s.data.toList = some (e, i) →
      Calls Tryz.prog 6 #[.string s] w fun e w' => ∃ v er, e = .returned (.tuple #[v, er]) ∧ Below w.heap.size w w' ∧ OwnRow w.heap.size w'.heap.size w' v (toksOf s.data.toList) ∧ ErrAt w' er (fltOf s.data.toList) := by
    intro e i h1 h2 h3
    have hev := ev_Lex _ k27 k28 k29 k30 k31 k32 s.data.toList hs
    rw [h1] at hev
    refine go _ _ (pure_sound (args := [vS s.data.toList]) mixedD znB.sound f13_ok hev).2 fun w' F' σ' v hr hH hb => ?_
    rw [h2, h3]
    obtain ⟨a, b, rfl, g1, g2⟩ := pair_inv hr
    refine ⟨a, b, rfl, ?_, err_inv g2 hH.fro⟩
    cases g1 with
    | fs c a len k rows h =>
      cases h with
      | sl0 a cap k hc => exact ⟨a, 0, rfl, Nat.zero_le _, fun _ => rfl, .inl rfl⟩
      | sl b o len cap k rows g h1 h2 h3 h4 h5 h6 =>
        simp at h1
        subst h1
        exact ⟨_, 0, rfl, Nat.zero_le _, fun _ => rfl, .inl rfl⟩
  by_cases g : 65536 < s.data.toList.length
  · exact bad 2 (-1) (by unfold lexV0; rw [if_pos g]) (by unfold toksOf; rw [if_pos g]) (by unfold fltOf; rw [if_pos g])
  · cases hx : lexS s.data.toList 0 0 with
    | bad e i => exact bad e i (by unfold lexV0; rw [if_neg g, hx]) (by unfold toksOf; rw [if_neg g, hx]) (by unfold fltOf; rw [if_neg g, hx])
    | ok l =>
      have hev := ev_LexOwn _ k27 k28 k29 k30 k31 k32 s.data.toList (by omega) l hx
      refine go _ _ (pure_sound (args := [vS s.data.toList]) mixedD znB.sound f13o_ok hev).2 fun w' F' σ' v hr hH hb => ?_
      have e1 : toksOf s.data.toList = l := by unfold toksOf; rw [if_neg g, hx]
      have e2 : fltOf s.data.toList = none := by unfold fltOf; rw [if_neg g, hx]
      rw [e1, e2]
      obtain ⟨a, b, rfl, g1, g2⟩ := pair_inv hr
      refine ⟨a, b, rfl, own_of g1 hH, ?_⟩
      cases g2 with
      | d c v x h => cases h with | nilif => rfl
theorem c7z {w : World} (hG : GlobRel w (There w) GT) (er : Value) (x : Option (Int × Int)) (hx : ∀ e i, x = some (e, i) → e ≠ 0) (he : ErrAt w er x) :
    Calls Tryz.prog 7 #[er, fltVal x] w fun e w' => e = .returned (.bool true) ∧ Below w.heap.size w w' := by
  have hP := (znB.one z18 (List.mem_cons_self ..) x (by match x, hx with | none, _ => trivial | some (e, i), hx => exact hx e i rfl)).2
  have flt : ∀ e i : Int, RepV w (There w) w.heap.size (fun _ => none) (.agg #[.int .i64 e, .int .i64 0, .int .i64 i, .string ⟨#[]⟩]) (fltV e 0 i []) := fun e i => by
    refine .agg _ _ rfl (fun j v x hv hx => ?_) (fun v hv => by simp at hv; rcases hv with rfl | rfl | rfl | rfl <;> rfl)
    match j, hv, hx with
    | 0, hv, hx => simp at hv hx; subst hv hx; exact .d _ _ _ (.int _ _)
    | 1, hv, hx => simp at hv hx; subst hv hx; exact .d _ _ _ (.int _ _)
    | 2, hv, hx => simp at hv hx; subst hv hx; exact .d _ _ _ (.int _ _)
    | 3, hv, hx => simp at hv hx; subst hv hx; exact .d _ _ _ (.str ⟨#[]⟩)
    | j + 4, hv, hx => simp at hv
  have fin : ∀ (a b : V), Reps w (There w) w.heap.size (fun _ => none) #[er, fltVal x] [a, b] → PureCall Tryz.prog GT 7 [a, b] (.d false (.bool true)) [] →
      Calls Tryz.prog 7 #[er, fltVal x] w fun e w' => e = .returned (.bool true) ∧ Below w.heap.size w w' := fun a b hr hP => by
    refine (call_of hP hG hr).mono ?_
    rintro e w' ⟨v, F', σ', rfl, hb, hr⟩
    exact ⟨by rw [RepV.bool_inv hr], hb⟩
  match x, he, hP with
  | none, he, hP =>
    have he : er = .nilIface := he
    subst he
    exact fin _ _ (reps_two (.d _ _ _ .nilif) (flt 0 0)) hP
  | some (e, i), he, hP => exact fin _ _ (reps_two (.d false _ _ (show RepD w (There w) er (.iface 45 [.ptr [.int .i64 e, .int .i64 0, .int .i64 i, .str []]]) from he)) (flt e i)) hP
theorem c8z {w : World} (hG : GlobRel w (There w) GT) {v u : Value} {l m : List Tok} (hl : l.length ≤ 4611686018427387903) (hm : m.length ≤ 4611686018427387903) (h : RowAt w.heap.size w v l) (h' : RowAt w.heap.size w u m) :
    Calls Tryz.prog 8 #[v, u] w fun e w' => e = .returned (.bool (decide (l = m))) ∧ Below w.heap.size w w' := by
  have hP := (znB.one z12 (by repeat (first | exact List.mem_cons_self .. | refine List.mem_cons_of_mem _ ?_)) (l, m) ⟨hl, hm⟩).2
  refine (call_of hP hG (reps_two (h.rep (Nat.le_refl _)) (h'.rep (Nat.le_refl _)))).mono ?_
  rintro e w' ⟨v, F', σ', rfl, hb, hr⟩
  exact ⟨by rw [RepV.bool_inv hr], hb⟩
end Go.Vm
end

section
namespace Go.Vm
open Go.Proofs Go.RowKit

def owner (p0 p1 p2 p3 p4 : Nat) : Nat → Option Nat := fun b =>
  if p0 ≤ b ∧ b < p1 then some 0 else if p1 ≤ b ∧ b < p2 then some 1 else if p2 ≤ b ∧ b < p3 then some 2 else if p3 ≤ b ∧ b < p4 then some 3 else none
theorem owner_lt {p0 p1 p2 p3 p4 : Nat} (h1 : p0 ≤ p1) (h2 : p1 ≤ p2) (h3 : p2 ≤ p3) (h4 : p3 ≤ p4) {b j : Nat} (h : owner p0 p1 p2 p3 p4 b = some j) : p0 ≤ b ∧ b < p4 := by
  unfold owner at h
  split at h
  · omega
  · split at h
    · omega
    · split at h
      · omega
      · split at h
        · omega
        · cases h
theorem box_cells (x : Option (Int × Int)) : ∃ e i : Int, fltVal x = .agg #[.int .i64 e, .int .i64 0, .int .i64 i, .string ⟨#[]⟩] := by
  match x with
  | none => exact ⟨_, _, rfl⟩
  | some (e, i) => exact ⟨_, _, rfl⟩
theorem Below.box {W w : World} {N : Nat} (h : Below N W w) (hN : N ≤ w.heap.size) (o : Obj) : Below N W (w.alloc o) := h.alloc hN o
def BoxAt (w : World) (b : Nat) (e i : Int) : Prop := w.heap[b]? = some (.cells #[.int .i64 e, .int .i64 0, .int .i64 i, .string ⟨#[]⟩] 26 (0, 0))
theorem BoxAt.keep {w w' : World} {b : Nat} {e i : Int} (h : BoxAt w b e i) (hb : Below w.heap.size w w') : BoxAt w' b e i := (hb.block b (Array.getElem?_eq_some_iff.1 h).1).trans h
theorem BoxAt.c {w : World} {b : Nat} {e i : Int} (h : BoxAt w b e i) : w.cell? ⟨b, 0, none⟩ = some (.int .i64 e) ∧ w.cell? ⟨b, 1, none⟩ = some (.int .i64 0) ∧ w.cell? ⟨b, 2, none⟩ = some (.int .i64 i) ∧ w.cell? ⟨b, 3, none⟩ = some (.string ⟨#[]⟩) := by
  have hh := fun j => cell_of_row w b j _ 26 (0, 0) h
  exact ⟨(hh 0).trans rfl, (hh 1).trans rfl, (hh 2).trans rfl, (hh 3).trans rfl⟩
theorem RowAt.grow {w w' : World} {v : Value} {l : List Tok} (h : RowAt w.heap.size w v l) (hb : Below w.heap.size w w') : RowAt w'.heap.size w' v l := by
  obtain ⟨a, cap, rfl, h1, h2, h3⟩ := h.keep hb.block
  exact ⟨a, cap, rfl, h1, h2, fun hne => by obtain ⟨b, o, e, hlt, hc⟩ := h3 hne; exact ⟨b, o, e, Nat.lt_of_lt_of_le hlt hb.size, hc⟩⟩

structure Way (W w : World) (S T : List Tok) (l1 l2 : Value) (k1 k2 : Nat) (xe xi ye yi : Int) : Prop where
  b : Below W.heap.size W w
  g : GlobRel w (There w) GT
  r1 : RowAt w.heap.size w l1 S
  r2 : RowAt w.heap.size w l2 T
  bx : BoxAt w k1 xe xi
  bY : BoxAt w k2 ye yi
theorem Way.keep {W w w' : World} {S T : List Tok} {l1 l2 : Value} {k1 k2 : Nat} {xe xi ye yi : Int} (h : Way W w S T l1 l2 k1 k2 xe xi ye yi) (hb : Below w.heap.size w w') : Way W w' S T l1 l2 k1 k2 xe xi ye yi :=
  ⟨h.b.trans (hb.mono h.b.size), glob_keep h.g hb.size hb.block, h.r1.grow hb, h.r2.grow hb, h.bx.keep hb, h.bY.keep hb⟩
theorem Way.size {W w : World} {S T : List Tok} {l1 l2 : Value} {k1 k2 : Nat} {xe xi ye yi : Int} (h : Way W w S T l1 l2 k1 k2 xe xi ye yi) : W.heap.size ≤ w.heap.size := h.b.size

structure Four (w : World) (S T : BS) (p0 p1 p2 p3 p4 : Nat) (va ea vb eb vc ec vd ed : Value) : Prop where
  oa : OwnRow p0 p1 w va (toksOf S)
  xa : ErrAt w ea (fltOf S)
  ob : OwnRow p1 p2 w vb (toksOf S)
  xb : ErrAt w eb (fltOf S)
  oc : OwnRow p2 p3 w vc (toksOf T)
  xc : ErrAt w ec (fltOf T)
  od : OwnRow p3 p4 w vd (toksOf S)
  xd : ErrAt w ed (fltOf S)
theorem Four.keep {w w' : World} {S T : BS} {p0 p1 p2 p3 p4 : Nat} {va ea vb eb vc ec vd ed : Value} (h : Four w S T p0 p1 p2 p3 p4 va ea vb eb vc ec vd ed) (hb : Below w.heap.size w w') : Four w' S T p0 p1 p2 p3 p4 va ea vb eb vc ec vd ed :=
  ⟨h.oa.keep hb, h.xa.keep hb, h.ob.keep hb, h.xb.keep hb, h.oc.keep hb, h.xc.keep hb, h.od.keep hb, h.xd.keep hb⟩
theorem Four.ow {W w : World} {S T : BS} {p0 p1 p2 p3 p4 : Nat} {va ea vb eb vc ec vd ed : Value} (h : Four w S T p0 p1 p2 p3 p4 va ea vb eb vc ec vd ed) (h0 : W.heap.size ≤ p0) (h1 : p0 ≤ p1) (h2 : p1 ≤ p2) (h3 : p2 ≤ p3) (h4 : p3 ≤ p4) (h5 : p4 ≤ w.heap.size) (hb : Below W.heap.size W w) :
    Ow (w.alloc (.cells #[va, vb, vc, vd] 23)) W.heap.size [rowK w.heap.size [va, vb, vc, vd]] [va, vb, vc, vd] (fun i => if i = 2 then (toksOf T).length else (toksOf S).length) (mk1 (fun i => if i = 2 then (toksOf T).length else (toksOf S).length) 0) (.slice none 0 0) [] (owner p0 p1 p2 p3 p4) (w.alloc (.cells #[va, vb, vc, vd] 23)) := by
  have b1 := (Below.refl w.heap.size w).alloc (Nat.le_refl _) (.cells #[va, vb, vc, vd] 23)
  have f := h.keep b1
  have hlt : ∀ b j, owner p0 p1 p2 p3 p4 b = some j → p0 ≤ b ∧ b < p4 := fun b j => owner_lt h1 h2 h3 h4
  have hS := toks_most S
  have hT := toks_most T
  have hsz : (w.alloc (.cells #[va, vb, vc, vd] 23)).heap.size = w.heap.size + 1 := by simp
  refine ⟨rfl, rfl, rfl, Nat.le_refl _, fun _ _ => rfl, by omega, fun p hp => ?_, fun b j hb => ⟨by have := hlt b j hb; omega, by have := hlt b j hb; omega⟩, fun i v hv => ?_, ⟨rfl, .inl ⟨rfl, rfl⟩⟩, fun k hk => (by cases hk), fun j u hj => (by simp at hj)⟩
  · obtain rfl := List.mem_singleton.1 hp
    refine ⟨heap_alloc_new w _, ?_, fun e => by cases e⟩
    cases ho : owner p0 p1 p2 p3 p4 w.heap.size with
    | none => exact ho
    | some j => have := hlt _ j ho; omega
  · have hm : ∀ i, mk1 (fun i => if i = 2 then (toksOf T).length else (toksOf S).length) 0 i = 0 := fun i => by unfold mk1; rw [if_neg (by omega)]
    rw [hm]
    match i, hv with
    | 0, hv =>
      simp only [List.getElem?_cons_zero, Option.some.injEq] at hv
      subst hv
      exact f.oa.mks (by omega) (by omega) (fun b g1 g2 => by unfold owner; rw [if_pos ⟨g1, g2⟩])
    | 1, hv =>
      simp only [List.getElem?_cons_zero, List.getElem?_cons_succ, Option.some.injEq] at hv
      subst hv
      exact f.ob.mks (by omega) (by omega) (fun b g1 g2 => by unfold owner; rw [if_neg (by omega), if_pos ⟨g1, g2⟩])
    | 2, hv =>
      simp only [List.getElem?_cons_zero, List.getElem?_cons_succ, Option.some.injEq] at hv
      subst hv
      exact f.oc.mks (by omega) (by omega) (fun b g1 g2 => by unfold owner; rw [if_neg (by omega), if_neg (by omega), if_pos ⟨g1, g2⟩])
    | 3, hv =>
      simp only [List.getElem?_cons_zero, List.getElem?_cons_succ, Option.some.injEq] at hv
      subst hv
      exact f.od.mks (by omega) (by omega) (fun b g1 g2 => by unfold owner; rw [if_neg (by omega), if_neg (by omega), if_neg (by omega), if_pos ⟨g1, g2⟩])
    | i + 4, hv => simp at hv

set_option maxRecDepth 100000 in
set_option maxHeartbeats 4000000 in
theorem reads_walk (W : World) (hG : GlobRel W (There W) GT) (s t : ByteArray) (hs : s.data.toList.length ≤ 2000000) (ht : t.data.toList.length ≤ 2000000) :
    Calls Tryz.prog 3 #[.string s, .string t] W fun e w' => e = .returned (.bool true) ∧ Below W.heap.size W w' := by
  obtain ⟨xe, xi, hX⟩ := box_cells (fltOf s.data.toList)
  obtain ⟨ye, yi, hY⟩ := box_cells (fltOf t.data.toList)
  go_enter Tryz.func3, Tryz.ntmps3
  go_wp2_with (go_at_call 4; refine (c4z hG).mono ?_)
  rintro ev w1 ⟨rfl, b1⟩
  have g1 := glob_keep hG b1.size b1.block
  go_wp2_with (go_at_call 5; refine (c5z g1 s hs).mono ?_)
  rintro ev w2 ⟨l1, rfl, b2', r1⟩
  have b2 := b1.trans (b2'.mono b1.size)
  rw [hX]
  have g2 := glob_keep hG b2.size b2.block
  have b3' := (Below.refl w2.heap.size w2).alloc (Nat.le_refl _) (.cells #[.int .i64 xe, .int .i64 0, .int .i64 xi, .string ⟨#[]⟩] 26)
  have bx0 : BoxAt (w2.alloc (.cells #[.int .i64 xe, .int .i64 0, .int .i64 xi, .string ⟨#[]⟩] 26)) w2.heap.size xe xi := heap_alloc_new w2 _
  have b3 := b2.trans (b3'.mono b2.size)
  have r3 := r1.grow b3'
  have g3 := glob_keep hG b3.size b3.block
  clear b3' r1 g1 b1 b2' g2
  go_wp2_with (go_at_call 5; refine (c5z g3 t ht).mono ?_)
  rintro ev w4 ⟨l2, rfl, b4', r4'⟩
  have b4 := b3.trans (b4'.mono b3.size)
  have r4 := r3.grow b4'
  have bx4 := bx0.keep b4'
  rw [hY]
  have b5' := (Below.refl w4.heap.size w4).alloc (Nat.le_refl _) (.cells #[.int .i64 ye, .int .i64 0, .int .i64 yi, .string ⟨#[]⟩] 26)
  have by5 : BoxAt (w4.alloc (.cells #[.int .i64 ye, .int .i64 0, .int .i64 yi, .string ⟨#[]⟩] 26)) w4.heap.size ye yi := heap_alloc_new w4 _
  have b5 := b4.trans (b5'.mono b4.size)
  have r5 := r4.grow b5'
  have r5' := r4'.grow b5'
  have bx5 := bx4.keep b5'
  have g5 := glob_keep hG b5.size b5.block
  have s5 : W.heap.size ≤ (w4.alloc (.cells #[.int .i64 ye, .int .i64 0, .int .i64 yi, .string ⟨#[]⟩] 26)).heap.size := b5.size
  clear b5' r4 r4' bx4 b4 b4' r3 bx0 g3 b3 b2
  have y5 : Way W (w4.alloc (.cells #[.int .i64 ye, .int .i64 0, .int .i64 yi, .string ⟨#[]⟩] 26)) (toksOf s.data.toList) (toksOf t.data.toList) l1 l2 w2.heap.size w4.heap.size xe xi ye yi := ⟨b5, g5, r5, r5', bx5, by5⟩
  clear b5 g5 r5 r5' bx5 by5
  have hns := toks_most s.data.toList
  have hnt := toks_most t.data.toList
  have fs := fun e i => fltOf_ne s.data.toList (e := e) (i := i)
  have ft := fun e i => fltOf_ne t.data.toList (e := e) (i := i)
  go_wp2_with (go_at_call 6; refine (c6z y5.g s hs).mono ?_)
  rintro ev w6 ⟨va, ea, rfl, b6, oa, xa⟩
  have y6 := y5.keep b6
  generalize hp0 : (w4.alloc (.cells #[.int .i64 ye, .int .i64 0, .int .i64 yi, .string ⟨#[]⟩] 26)).heap.size = p0 at s5 oa
  have hp1 : p0 ≤ w6.heap.size := by rw [← hp0]; exact b6.size
  clear y5 b6 hp0
  generalize w2.heap.size = k1 at y6
  generalize w4.heap.size = k2 at y6
  go_wp2_with (go_at_call 6; refine (c6z y6.g s hs).mono ?_)
  rintro ev w7 ⟨vb, eb, rfl, b7, ob, xb⟩
  have y7 := y6.keep b7
  have oa := oa.keep b7
  have xa := xa.keep b7
  have hp2 := b7.size
  clear y6 b7
  go_wp2_with (go_at_call 6; refine (c6z y7.g t ht).mono ?_)
  rintro ev w8 ⟨vc, ec, rfl, b8, oc, xc⟩
  have y8 := y7.keep b8
  have oa := oa.keep b8
  have xa := xa.keep b8
  have ob := ob.keep b8
  have xb := xb.keep b8
  have hp3 := b8.size
  clear y7 b8
  go_wp2_with (go_at_call 6; refine (c6z y8.g s hs).mono ?_)
  rintro ev w9 ⟨vd, ed, rfl, b9, od, xd⟩
  have y9 := y8.keep b9
  have oa := oa.keep b9
  have xa := xa.keep b9
  have ob := ob.keep b9
  have xb := xb.keep b9
  have oc := oc.keep b9
  have xc := xc.keep b9
  have hp4 := b9.size
  clear y8 b9
  have hpW : W.heap.size ≤ p0 := s5
  clear s5
  generalize w6.heap.size = p1 at *
  generalize w7.heap.size = p2 at *
  generalize w8.heap.size = p3 at *
  generalize hp9 : w9.heap.size = p4 at od hp4
  have q9 : Four w9 s.data.toList t.data.toList p0 p1 p2 p3 p4 va ea vb eb vc ec vd ed := ⟨oa, xa, ob, xb, oc, xc, od, xd⟩
  have hp9' : p4 ≤ w9.heap.size := by omega
  clear oa xa ob xb oc xc od xd
  obtain ⟨cx0, cx1, cx2, cx3⟩ := y9.bx.c
  go_wp2_with (go_at_call 7; rw [← hX]; refine (c7z y9.g ea _ fs q9.xa).mono ?_)
  rintro ev w10 ⟨rfl, b10⟩
  have y10 := y9.keep b10
  have q10 := q9.keep b10
  have z10 : p4 ≤ w10.heap.size := Nat.le_trans hp9' b10.size
  clear cx0 cx1 cx2 cx3 y9 q9 b10
  obtain ⟨cx0, cx1, cx2, cx3⟩ := y10.bx.c
  go_wp2_with (go_at_call 7; rw [← hX]; refine (c7z y10.g eb _ fs q10.xb).mono ?_)
  rintro ev w11 ⟨rfl, b11⟩
  have y11 := y10.keep b11
  have q11 := q10.keep b11
  have z11 : p4 ≤ w11.heap.size := Nat.le_trans z10 b11.size
  clear cx0 cx1 cx2 cx3 y10 q10 b11
  obtain ⟨cx0, cx1, cx2, cx3⟩ := y11.bY.c
  go_wp2_with (go_at_call 7; rw [← hY]; refine (c7z y11.g ec _ ft q11.xc).mono ?_)
  rintro ev w12 ⟨rfl, b12⟩
  have y12 := y11.keep b12
  have q12 := q11.keep b12
  have z12 : p4 ≤ w12.heap.size := Nat.le_trans z11 b12.size
  clear cx0 cx1 cx2 cx3 y11 q11 b12
  obtain ⟨cx0, cx1, cx2, cx3⟩ := y12.bx.c
  go_wp2_with (go_at_call 7; rw [← hX]; refine (c7z y12.g ed _ fs q12.xd).mono ?_)
  rintro ev w13 ⟨rfl, b13⟩
  have y13 := y12.keep b13
  have q13 := q12.keep b13
  have z13 : p4 ≤ w13.heap.size := Nat.le_trans z12 b13.size
  clear cx0 cx1 cx2 cx3 y12 q12 b13
  go_wp2_with (go_at_call 8; refine (c8z y13.g (by omega) (by omega) q13.oa.at y13.r1).mono ?_)
  rintro ev w14 rfl b14
  have y14 := y13.keep b14
  have q14 := q13.keep b14
  have z14 : p4 ≤ w14.heap.size := Nat.le_trans z13 b14.size
  clear y13 q13 b14
  go_wp2_with (go_at_call 8; refine (c8z y14.g (by omega) (by omega) q14.ob.at y14.r1).mono ?_)
  rintro ev w15 rfl b15
  have y15 := y14.keep b15
  have q15 := q14.keep b15
  have z15 : p4 ≤ w15.heap.size := Nat.le_trans z14 b15.size
  clear y14 q14 b15
  go_wp2_with (go_at_call 8; refine (c8z y15.g (by omega) (by omega) q15.oc.at y15.r2).mono ?_)
  rintro ev w16 rfl b16
  have y16 := y15.keep b16
  have q16 := q15.keep b16
  have z16 : p4 ≤ w16.heap.size := Nat.le_trans z15 b16.size
  clear y15 q15 b16
  go_wp2_with (go_at_call 8; refine (c8z y16.g (by omega) (by omega) q16.od.at y16.r1).mono ?_)
  rintro ev w17 rfl b17
  have y17 := y16.keep b17
  have q17 := q16.keep b17
  have z17 : p4 ≤ w17.heap.size := Nat.le_trans z16 b17.size
  clear y16 q16 b17
  obtain ⟨aa, ca, rfl, _⟩ := id q17.oa
  obtain ⟨ab, cb, rfl, _⟩ := id q17.ob
  obtain ⟨ac, cc, rfl, _⟩ := id q17.oc
  obtain ⟨ad, cd, rfl, _⟩ := id q17.od
  have own := q17.ow hpW hp1 hp2 hp3 hp4 z17 y17.b
  have hn : ∀ i, (if i = 2 then (toksOf t.data.toList).length else (toksOf s.data.toList).length) ≤ 20000 := fun i => by split <;> omega
  go_wp2_with (go_at_call 9; refine (owned_walk _ _ _ _ _ _ rfl own hn).mono ?_)
  rintro ev w' ⟨rfl, bb⟩
  have bf := (y17.b.alloc y17.size (.cells #[.slice aa (toksOf s.data.toList).length ca, .slice ab (toksOf s.data.toList).length cb, .slice ac (toksOf t.data.toList).length cc, .slice ad (toksOf s.data.toList).length cd] 23)).trans bb
  go_wp2
  go_returns
  exact ⟨rfl, bf⟩
end Go.Vm
end

section
namespace Go.Vm
open Go.ChangeShapes Go.WideShapes Go.ChangeAt Go.RowKit Go.Proofs Go.Proofs.YtmmbgofnllcaeaaGreatDoor
set_option linter.unusedVariables false

theorem ownD : ownKnob Tryz.prog.godebug = none := by kernel_rfl
theorem gCls : Tryz.prog.globalNamed "sloth/lex.classes" = some 0 := by kernel_rfl
theorem gClsT : (Tryz.prog.globals[0]?).map (·.type) = some 67 := by kernel_rfl
theorem gP10T : (Tryz.prog.globals[4]?).map (·.type) = some 138 := by kernel_rfl

def laidL : List (String × DataW Unit) := [("math/bits.deBruijn32tab", Rows.laid_math_bits_deBruijn32tab), ("math/bits.deBruijn64tab", Rows.laid_math_bits_deBruijn64tab), ("internal/strconv.uint64pow10", Rows.laid_internal_strconv_uint64pow10), ("unicode/utf8.acceptRanges", Rows.laid_unicode_utf8_acceptRanges), ("sloth/lex.classes", Rows.laid_sloth_lex_classes), ("unicode/utf8.first", Rows.laid_unicode_utf8_first)]

def Reads (P : Program) (w : World) (n : String) (d : DataW Unit) : Prop :=
  ∃ g t cs fuel p, P.globalNamed n = some g ∧ (P.globals[g]?).map (·.type) = some t ∧ w.var? P n = some cs ∧ DataW.trod (fun _ => ()) P w 0 (fun _ => true) false fuel t cs.toList = some (d, p)
theorem reads_of {P : Program} {w : World} : ∀ {l : List (String × DataW Unit)} {ps : List MemPlace}, DataW.LaidVars P w l ps → ∀ n d, (n, d) ∈ l → Reads P w n d
  | [], _, _, _, _, hm => by cases hm
  | (n', d') :: r, ps, h, n, d, hm => by
    obtain ⟨g, t, cs, fuel, p, q, h1, h2, h3, h4, h5, _⟩ := h
    rcases List.mem_cons.1 hm with e | e
    · cases e
      exact ⟨g, t, cs, fuel, p, h1, h2, h3, h4⟩
    · exact reads_of h5 n d e
theorem tab_of_reads {P : Program} {W : World} {name : String} {k : IntKind} {zs : List Int} {g : Nat} {t e : TypeId} {n : Nat}
    (hg : P.globalNamed name = some g) (hty : (P.globals[g]?).map (·.type) = some t) (ht : P.underlying t = some (.array n e)) (he : P.underlying e = some (.int k)) (hce : P.cellsOf e = 1) (hct : P.cellsOf t = n)
    (h : Reads P W name (Lib.tabData k zs)) : Lib.TabIs P W name k zs := by
  obtain ⟨g', t', cs, fuel, p, hg', ht', hvar, hd⟩ := h
  obtain rfl := Option.some.inj (hg.symm.trans hg')
  obtain rfl := Option.some.inj (hty.symm.trans ht')
  unfold Lib.TabIs
  rw [hvar, ← Lib.cells_of_tab ht he hce hct hd]

theorem clsData : (Rows.laid_sloth_lex_classes : DataW Unit) = Lib.tabData .u8 (clTab.map fun n => ((n : Nat) : Int)) := by kernel_rfl
theorem p10Data : (Rows.laid_internal_strconv_uint64pow10 : DataW Unit) = Lib.tabData .u64 Lib.pow10Tab := by kernel_rfl

theorem glob_of_tab {W : World} {name : String} {k : IntKind} {zs : List Int} {g : Nat} (h : Lib.TabIs Tryz.prog W name k zs) (hg : Tryz.prog.globalNamed name = some g) :
    RepD W (There W) (.pointer (some ⟨g, 0, none⟩)) (.ptr (zs.map fun z => .int k z)) ∧ ∃ cs t fz, W.heap[g]? = some (.cells cs t fz) ∧ cs.size = (zs.map fun z => D.int k z).length := by
  have hb : ∃ cs t fz, W.heap[g]? = some (.cells cs t fz) ∧ cs.size = (zs.map fun z => D.int k z).length := by
    unfold Lib.TabIs World.var? at h
    rw [hg] at h
    replace h : (match W.heap[g]? with | some (.cells cs _ _) => some cs | _ => none) = some (zs.map fun z => Value.int k z).toArray := h
    split at h
    · rename_i cs t fz hh
      obtain rfl := Option.some.inj h
      exact ⟨_, t, fz, hh, by simp⟩
    · cases h
  refine ⟨?_, hb⟩
  obtain ⟨cs, t, fz, hh, hsz⟩ := hb
  refine .ptr g 0 _ (fun j => .int k (zs.getD j 0)) ?_ (fun j d hd => ?_) (fun j d hd => ?_)
  · show g < W.heap.size
    rcases Nat.lt_or_ge g W.heap.size with h' | h'
    · exact h'
    · simp [Array.getElem?_eq_none h'] at hh
  · have hj : j < zs.length := by
      rcases Nat.lt_or_ge j zs.length with h' | h'
      · exact h'
      · rw [List.getElem?_eq_none (by simpa using h')] at hd; cases hd
    rw [Nat.zero_add]
    exact h.cell hg j hj
  · rw [List.getElem?_map, Option.map_eq_some_iff] at hd
    obtain ⟨z, hz, rfl⟩ := hd
    have : zs.getD j 0 = z := by rw [List.getD_eq_getElem?_getD, hz]; rfl
    rw [this]
    exact .int k z

def laidJ : List (String × DataW Unit) := [("math/bits.deBruijn32tab", Rows.laid_math_bits_deBruijn32tab), ("math/bits.deBruijn64tab", Rows.laid_math_bits_deBruijn64tab), ("internal/strconv.uint64pow10", Rows.laid_internal_strconv_uint64pow10), ("unicode/utf8.acceptRanges", Rows.laid_unicode_utf8_acceptRanges), ("errors.errorType", Rows.laid_errors_errorType), ("sloth/lex.classes", Rows.laid_sloth_lex_classes), ("unicode/utf8.first", Rows.laid_unicode_utf8_first)]
theorem hanEt : Tryz.prog.globalNamed "errors.errorType" = some 1 := by kernel_rfl
theorem hanRt : (Tryz.prog.cutTypes.find? (·.1 == "internal/reflectlite.rtype")).map (·.2) = some 108 := by kernel_rfl
theorem hanRow : ((List.range 172).filter fun t => Tryz.prog.rowNamed t [101, 114, 114, 111, 114]) = [30] := by kernel_rfl
theorem hanSize : Tryz.prog.types.size = 172 := by kernel_rfl
theorem handle_of_laid {W : World} (h : handlesMet Tryz.prog [("errors.errorType", Rows.laid_errors_errorType)] W) : W.cell? ⟨1, 0, none⟩ = some (.iface 108 (.agg #[.pointer (some ⟨8, 30, none⟩)])) := by
  obtain ⟨name, u, ty, e1, e2, e3, e4, e5⟩ := h _ (List.mem_singleton.2 rfl)
  have en : name = [101, 114, 114, 111, 114] := (Option.some.inj e1).symm
  subst en
  obtain rfl := Option.some.inj (hanRt.symm.trans e2)
  have hm : ty ∈ (List.range 172).filter fun t => Tryz.prog.rowNamed t [101, 114, 114, 111, 114] := List.mem_filter.2 ⟨List.mem_range.2 (by rw [← hanSize]; exact e3), e4⟩
  rw [hanRow] at hm
  obtain rfl := List.mem_singleton.1 hm
  have hh : typeHandle Tryz.prog 30 = .pointer (some ⟨8, 30, none⟩) := by kernel_rfl
  rw [hh] at e5
  simpa using World.var?_cell hanEt e5 0

theorem glob_of_laidJ {W : World} (h : laidMetH Tryz.prog laidJ W) : GlobRel W (There W) GT := by
  have h' : laidMet Tryz.prog laidL W ∧ handlesMet Tryz.prog [("errors.errorType", Rows.laid_errors_errorType)] W := h
  obtain ⟨ps, hv, _⟩ : laidMet Tryz.prog laidL W := h'.1
  have hc := handle_of_laid h'.2
  have h0 := reads_of hv "sloth/lex.classes" Rows.laid_sloth_lex_classes (by simp [laidL])
  have h2 := reads_of hv "internal/strconv.uint64pow10" Rows.laid_internal_strconv_uint64pow10 (by simp [laidL])
  rw [clsData] at h0
  rw [p10Data] at h2
  have t0 := tab_of_reads gCls gClsT Tryz.underlying67 Tryz.underlying5 (by kernel_rfl) (by kernel_rfl) h0
  have t2 := tab_of_reads gP10 gP10T Tryz.underlying138 Tryz.underlying124 (by kernel_rfl) (by kernel_rfl) h2
  intro g cells hg
  match g, hg with
  | 0, hg =>
    obtain rfl := Option.some.inj hg
    rw [if_neg (show ¬ isHandle (clTab.map fun n => D.int .u8 (n : Nat)) = true from fun e => Bool.noConfusion (show false = true from e))]
    have := glob_of_tab t0 gCls
    rw [List.map_map] at this
    exact this
  | 4, hg =>
    obtain rfl := Option.some.inj hg
    rw [if_neg (show ¬ isHandle (Lib.pow10Tab.map fun z => D.int .u64 z) = true from fun e => Bool.noConfusion (show false = true from e))]
    exact glob_of_tab t2 gP10
  | 1, hg =>
    obtain rfl := Option.some.inj hg
    rw [if_pos (show isHandle [D.nilfn, .int .i64 108, .int .i64 8, .int .i64 30] = true from rfl)]
    refine ⟨?_, hc⟩
    show 1 < W.heap.size
    rcases Nat.lt_or_ge 1 W.heap.size with h | h
    · exact h
    · simp [World.cell?, Array.getElem?_eq_none h] at hc
  | 2, hg => cases hg
  | 3, hg => cases hg
  | n + 5, hg => cases hg

def flatN : Nat → DataW Unit → List Value
  | _, .lit (.int k n) => [.int k n]
  | n + 1, .agg ps => ps.flatMap (flatN n)
  | _, _ => []
def lay (g : Nat) (d : DataW Unit) (h : Array Obj) : Array Obj := h.modify g fun
  | .cells _ t frozen => .cells (flatN 3 d).toArray t frozen
  | o => o
def layH (h : Array Obj) : Array Obj := h.modify 1 fun
  | .cells _ t frozen => .cells #[.iface 108 (.agg #[.pointer (some ⟨8, 30, none⟩)])] t frozen
  | o => o
noncomputable def laidWorldJ (os : Os) : World :=
  { World.holding Tryz.prog os ⟨#[], #[], []⟩ with heap := layH (lay 7 Rows.laid_math_bits_deBruijn64tab (lay 6 Rows.laid_math_bits_deBruijn32tab (lay 3 Rows.laid_unicode_utf8_acceptRanges (lay 2 Rows.laid_unicode_utf8_first (lay 4 Rows.laid_internal_strconv_uint64pow10 (lay 0 Rows.laid_sloth_lex_classes (World.holding Tryz.prog os ⟨#[], #[], []⟩).heap)))))) }
set_option maxRecDepth 100000 in
theorem laid_metJ (os : Os) (args : Array Value) : laidMetH Tryz.prog laidJ ((laidWorldJ os).forCall (fun _ _ => 0) ⟨#[], args, []⟩).memory :=
  laidMetH_of_parts (show laidMet Tryz.prog laidL _ from (LaidIn.of_run [0, 2, 3, 4, 6, 7] 8 (by kernel_rfl) (by kernel_rfl) (by kernel_rfl) (by kernel_rfl)).met) (by kernel_rfl)
end Go.Vm
end

section
namespace Go.Proofs.YtmmbgofnllcaeaaGreatDoor.lexReads
open Go.ChangeShapes Go.WideShapes Go.ChangeAt Go.RowKit Go.Vm Go.ChangeMaps
set_option linter.unusedVariables false

theorem post_below {H : Type} {enc : TypeId × Value → H} {P : Program} {f : Func} {s : ChangeSpec} {apart fresh handsOn again : Bool} {W W' : World} {args : Array Value} {v : Value} {ds gs : List (DataW H)} {before : List MemPlace}
    (hW : DataW.Whole enc P f.params.toList s.vars apart W args.toList ds gs before) (hb : Below W.heap.size W W')
    (hres : ∀ (b : Nat) (sp : Nat → Bool) (hd : Bool), DataW.TrodAll enc P W' b sp hd f.resultTypes.toList (v.resultList f.resultTypes.size) (s.fn H (ds ++ gs)).results [])
    (hargs : ∀ sp : Nat → Bool, (∀ p ∈ before, sp p.block = true) → DataW.TrodAll enc P W' 0 sp true f.params.toList args.toList (s.fn H (ds ++ gs)).args before)
    (hvars : ∀ sp : Nat → Bool, DataW.TrodVars enc P W' sp s.vars (s.fn H (ds ++ gs)).vars [])
    (hok : ∀ (j : Nat) (t : TypeId) (r : Value), f.resultTypes[j]? = some t → (v.resultList f.resultTypes.size)[j]? = some r → Value.okWide P W' .any 0 t r) :
    s.post enc P f apart fresh handsOn again W args v W' := by
  have hlt := hW.lt
  have hsp : ∀ p ∈ before, (fun b => decide (b < W.heap.size)) p.block = true := fun p hp => decide_eq_true (hlt p hp)
  have all := trodAll_append (hargs (fun _ => true) (fun _ _ => rfl)) (hres 0 (fun _ => true) true)
  rw [List.nil_append] at all
  obtain ⟨_, _, _, _, _, hz, hn⟩ := id hW
  refine ⟨ds, gs, before, [], before, [], hW, hres _ _ _, hargs _ hsp, hvars _, hb.frame _, fun _ => ⟨hok, _, _, before, ⟨before, [], all, hvars _, by simp, fun b off hp => ?_, hn⟩, fun p hp _ => hp⟩⟩
  rw [hb.frozen (hlt _ hp)]
  exact hz b off hp

theorem bulkN {H : Type} {a b : DataW H} (h : Rows.uptoSmall H ([a, b] ++ []) = true) : Rows.uptoBulk a + Rows.uptoBulk b ≤ 1048576 := by
  have h := of_decide_eq_true h
  simpa only [List.append_nil, Rows.uptoBulkAll, Nat.add_zero] using h
theorem bulk_str {H : Type} (l : List UInt8) : Rows.uptoBulk (DataW.lit (H := H) (.string l)) = l.length + 1 := by simp only [Rows.uptoBulk]

set_option maxRecDepth 100000 in
theorem contract (H : Type) (enc : TypeId × Value → H) (W : World) (base : Nat) (args : Array Value) (ds gs : List (DataW H)) (before : List MemPlace)
    (hval : ∀ (j : Nat) t v, Tryz.f3.params[j]? = some t → args[j]? = some v → Value.okWide Tryz.prog W .any base t v)
    (hW : DataW.Whole enc Tryz.prog Tryz.f3.params.toList Rows.lexReadsSpec.vars false W args.toList ds gs before) (hk : Rows.uptoSmall H (ds ++ gs) = true) (hL : laidMetH Tryz.prog laidJ W) :
    Calls Tryz.prog 3 args W fun e W' => ∃ v, e = .returned v ∧ Rows.lexReadsSpec.post enc Tryz.prog Tryz.f3 false true false false W args v W' := by
  have hW' := hW
  obtain ⟨p, q, hA0, hV, rfl, hfz, hnd⟩ := hW
  have hA : DataW.TrodAll enc Tryz.prog W 0 (fun _ => true) true Tryz.f3.params.toList args.toList ds p := hA0
  rw [Tryz.params3] at hA hval
  obtain ⟨v0, vs0, d0, ds0, p0, q0, hargs, rfl, rfl, h0, r0⟩ := trodAll_cons hA
  obtain ⟨v1, vs1, d1, ds1, p1, q1, rfl, rfl, rfl, h1, r1⟩ := trodAll_cons r0
  obtain ⟨rfl, rfl, rfl⟩ := trodAll_nil r1
  obtain rfl : args = #[v0, v1] := by cases args; simp_all
  obtain ⟨rfl, rfl⟩ := trodVars_none hV
  obtain ⟨t0, rfl, rfl, rfl, m0⟩ := open_string Tryz.underlying9 (hval 0 9 v0 rfl rfl) h0
  obtain ⟨t1, rfl, rfl, rfl, m1⟩ := open_string Tryz.underlying9 (hval 1 9 v1 rfl rfl) h1
  clear hA0
  simp only [List.append_nil] at hW'
  have hb := bulkN hk
  rw [bulk_str, bulk_str] at hb
  have hcall := reads_walk W (glob_of_laidJ hL) t0 t1 (by omega) (by omega)
  refine hcall.mono fun e W' ⟨he, hbel⟩ => ?_
  subst he
  exact ⟨_, rfl, post_below hW' hbel (fun _ _ _ => (trodAll_cons_mk (shut_bool Tryz.underlying4 _) trodAll_mk0))
    (fun sp _ => trodAll_cons_mk (shut_string Tryz.underlying9 m0) (trodAll_cons_mk (shut_string Tryz.underlying9 m1) trodAll_mk0))
    (fun _ => rfl) (ok_one (by kernel_rfl) rfl (okWide_bool_mk Tryz.underlying4 _))⟩

def wargs : Array Value := #[.string ⟨#[]⟩, .string ⟨#[]⟩]
theorem reads (os : Os) {H : Type} (enc : TypeId × Value → H) : ∃ places, DataW.whole enc Tryz.prog ((laidWorldJ os).forCall (fun _ _ => 0) ⟨#[], wargs, []⟩).memory Tryz.f3.params.toList Rows.lexReadsSpec.vars false wargs.toList 8 = some ([.lit (.string []), .lit (.string [])], [], places) :=
  ⟨[], by kernel_rfl⟩

set_option maxRecDepth 100000 in
theorem liftedUpto (os : Os) (started : os.Started) (H : Type) (enc : TypeId × Value → H) (F : Stop.Interp) :
    ReturnsInHanded {} Tryz.checked os 3 .any ((Rows.OpenSpec.upto Rows.lexReadsSpec).preRow enc Tryz.prog Tryz.f3 Rows.lexReadsUptoRow.domain false Rows.lexReadsUptoRow.laid) (((Rows.OpenSpec.upto Rows.lexReadsSpec).at F).post enc Tryz.prog Tryz.f3 false true false false) := by
  obtain ⟨places, hx⟩ := reads os enc
  refine returnsInHanded_of_row (C := Tryz.checked) (s := Rows.OpenSpec.upto Rows.lexReadsSpec) ownD started (by kernel_rfl) Tryz.func3
    (witness_row_at (enc := enc) (C := Tryz.checked) false (laidWorldJ os) wargs rfl (by kernel_rfl) (by kernel_rfl) (by kernel_rfl)
      (OpenSpec.preRow_of_cond 8 hx (by kernel_rfl) (fun k hk => by cases hk; kernel_rfl) (by kernel_rfl) (laid_metJ os wargs))) ?_
  intro W base args ds gs before hval hW _ hcond _ hL _ _
  exact contract H enc W base args ds gs before hval hW (hcond _ rfl) hL

theorem saidUpto : Rows.LexReadsUptoSaid :=
  OpenClaim.holds_of_cond 3 Tryz.f3 rfl rfl rfl rfl rfl rfl rfl ⟨rfl, rfl, rfl, rfl, rfl⟩ rfl rfl rfl rfl rfl (by kernel_rfl) Tryz.func3 (by kernel_rfl)
    (of_decide_eq_true (by kernel_rfl)) (by unfold Func.isWrapper; first | (rw [if_pos (by decide +kernel)]; kernel_rfl) | (rw [if_neg (by decide +kernel)]; exact ⟨rfl, rfl⟩))
    (fun os started H enc _ F => by rw [OpenClaim.pre_eq_preRow]; exact liftedUpto os started H enc F)

theorem plain (f : FuncId) (fn : Func) (hf : Tryz.pinned.checked.prog.funcNamed "sloth/slothlaw01.LexReads" = some f) (hfn : Tryz.pinned.checked.prog.funcs[f]? = some fn) :
    true = Tryz.pinned.checked.prog.looks [] ∧ ∀ (j : Nat) t, fn.params[j]? = some t → Tryz.pinned.checked.prog.wantsStandIn t = false := by
  obtain rfl : f = 3 := Option.some.inj ((show Tryz.prog.funcNamed "sloth/slothlaw01.LexReads" = some 3 by kernel_rfl).symm.trans hf) |>.symm
  obtain rfl : fn = Tryz.f3 := (Option.some.inj (Tryz.func3.symm.trans hfn)).symm
  refine ⟨by kernel_rfl, fun j t ht => ?_⟩
  rw [Tryz.params3] at ht
  have h9 : Tryz.prog.wantsStandIn 9 = false := by kernel_rfl
  match j, ht with
  | 0, ht => simp at ht; subst ht; exact h9
  | 1, ht => simp at ht; subst ht; exact h9
  | j + 2, ht => simp at ht

theorem cardUpto : Rows.LexReadsUptoCardSaid :=
  Claim7.holds_tied_plain_at .later [] _ _ _ _ saidUpto (fun _ h => by cases h) (by kernel_rfl) (fun _ h => by cases h) lexReadsUpto_row_tie rfl ⟨rfl, rfl⟩ (by kernel_rfl) rfl plain (by kernel_rfl)
#print axioms cardUpto
end Go.Proofs.YtmmbgofnllcaeaaGreatDoor.lexReads
end
