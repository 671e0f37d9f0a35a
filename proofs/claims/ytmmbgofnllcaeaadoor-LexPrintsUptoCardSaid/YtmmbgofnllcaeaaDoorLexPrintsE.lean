/-
  Parts of the proof: lex: numbers. lex: what stands between quotes. lex: the token at a place. lex.Lex: one step. lex.Lex: what it answers. lex.escaped: bytes within a quote. lex.written, lex.isToken: a token as text. lex.Print: a row of tokens as text. The statements' own helpers: same, alike, moved, plain. awake: evaluated. Tokens' places; a text's answer. lex in plain words: names and classes of a text cut short. The document's lexer: bytes, names, runs, reserved words. Conditions: none.
-/
import Derived.Test.YtmmbgofnllcaeaaDoorLexJoinsD
import Derived.Lib.ItoaNum
set_option linter.unusedVariables false
set_option linter.unusedSimpArgs false

section
namespace Go.Vm
set_option maxRecDepth 20000
/- 'sloth/lex.number' -/
def f45_L0 : C :=
 (.seq
  (.seq
   (.reg [⟨[], [(44, (.and (.bin .geq (.sl 12) (.int .i64 0)) (.bin .lss (.sl 12) (.sl 7))))], [], none, [0, 1, 4, 7, 8, 9, 10, 11, 12], 7, [], [], []⟩])
   (.cond (.sl 44)
    .skip
    (.seq
     (.tidy 0 [0, 1, 4, 7, 8, 9, 10, 11])
     (.exit 0))))
  (.seq
   (.block 1
    (.seq
     (.seq
      (.reg [⟨[], [(53, (.bin .gtr (.sl 10) (.bin .quo (.bin .sub (.int .i64 4611686018427387903) (.sl 12)) (.sl 7))))], [], none, [0, 1, 4, 7, 8, 9, 10, 11, 12], 6, [], [], []⟩])
      (.cond (.sl 53)
       (.seq
        (.reg [⟨[], [(11, (.bool true))], [], none, [0, 1, 4, 7, 8, 9, 12], 1, [], [], []⟩])
        (.reg [⟨[], [(10, (.int .i64 0))], [], none, [0, 1, 4, 7, 8, 9, 11, 12], 1, [], [], []⟩]))
       .skip))
     (.seq
      (.reg [⟨[], [(10, (.bin .add (.bin .mul (.sl 10) (.sl 7)) (.sl 12)))], [], none, [0, 1, 4, 7, 8, 9, 11], 6, [], [], []⟩])
      (.reg [⟨[], [(8, (.bin .add (.sl 8) (.int .i64 1)))], [], none, [0, 1, 4, 7, 9, 10, 11], 3, [], [], []⟩]))))
   (.reg [⟨[], [(12, (.call 69 (.cons (.sl 0) (.cons (.sl 8) .nil))))], [], none, [0, 1, 4, 7, 8, 9, 10, 11], 4, [], [], []⟩])))
def f45 : Fun := ⟨
 (.seq
  (.reg [⟨[(4, .box (.agg (.cons (.int .i64 0) (.cons (.str []) (.cons (.int .i64 0) (.cons (.int .i64 0) .nil))))))], [], [], none, [0, 1, 4], 3, [], [], []⟩])
  (.seq
   (.reg [⟨[], [(7, (.int .i64 10)), (8, (.sl 1))], [], none, [0, 1, 4], 3, [], [], []⟩])
   (.seq
    (.seq
     (.reg [⟨[], [(31, (.and (.and (.bin .eql (.ix (.sl 0) (.sl 1)) (.int .u8 48)) (.bin .eql (.call 68 (.cons (.sl 0) (.cons (.bin .add (.sl 1) (.int .i64 1)) .nil))) (.int .u8 120))) (.bin .geq (.call 69 (.cons (.sl 0) (.cons (.bin .add (.sl 1) (.int .i64 2)) .nil))) (.int .i64 0))))], [], none, [0, 1, 4, 7, 8], 18, [], [], []⟩])
     (.cond (.sl 31)
      (.reg [⟨[], [(7, (.int .i64 16)), (8, (.bin .add (.sl 1) (.int .i64 2)))], [], none, [0, 1, 4], 4, [], [], []⟩])
      .skip))
    (.seq
     (.reg [⟨[], [(9, (.sl 8)), (10, (.int .i64 0)), (11, (.bool false))], [], none, [0, 1, 4, 7, 8], 4, [], [], []⟩])
     (.seq
      (.seq
       (.reg [⟨[], [(12, (.call 69 (.cons (.sl 0) (.cons (.sl 8) .nil))))], [], none, [0, 1, 4, 7, 8, 9, 10, 11], 4, [], [], []⟩])
       (.block 0
        (.seq (.tidy 0 [0, 1, 4, 7, 8, 9, 10, 11, 12]) (.loop (.seq (.tidy 0 [0, 1, 4, 7, 8, 9, 10, 11, 12]) f45_L0)))))
      (.seq
       (.seq
        (.reg [⟨[], [(82, (.or (.or (.sl 11) (.and (.and (.bin .eql (.sl 7) (.int .i64 10)) (.bin .eql (.ix (.sl 0) (.sl 9)) (.int .u8 48))) (.bin .gtr (.sl 8) (.bin .add (.sl 9) (.int .i64 1))))) (.call 48 (.cons (.sl 0) (.cons (.sl 8) .nil)))))], [], none, [1, 4, 8, 10], 22, [], [], []⟩])
        (.cond (.sl 82)
         (.seq
          (.reg [⟨[], [], [], some (none, .store 4 (.sl 4) (.agg (.cons (.int .i64 0) (.cons (.str []) (.cons (.int .i64 0) (.cons (.int .i64 0) .nil)))))), [4], 2, [], [], []⟩, ⟨[], [(5, (.int .i64 0)), (6, (.int .i64 11))], [], none, [4], 2, [], [], []⟩])
          (.seq
           (.tidy 0 [4, 5, 6])
           .ret))
         .skip))
       (.seq
        (.reg [⟨[], [(87, (.sl 8))], [], some (none, .store 4 (.sl 4) (.set 3 1 (.sl 1) (.set 2 1 (.sl 10) (.set 0 1 (.int .i64 6) (.agg (.cons (.int .i64 0) (.cons (.str []) (.cons (.int .i64 0) (.cons (.int .i64 0) .nil))))))))), [4], 5, [], [], []⟩, ⟨[], [(5, (.sl 87)), (6, (.int .i64 0))], [], none, [4], 2, [], [], []⟩])
        (.seq
         (.tidy 0 [4, 5, 6])
         .ret)))))))),
 [(.ld 4 true (.sl 4)), (.sl 5), (.sl 6)], false⟩
theorem f45_ok : funOk Go.Proofs.Tryd.prog 45 0 2 f45 = true := by kernel_rfl


abbrev vI (n : Int) : V := .d false (.int .i64 n)
abbrev vS (s : BS) : V := .d false (.str s)
def tok0 : V := .agg [vI 0, vS [], vI 0, vI 0]
def stV (i : Nat) : St → V
  | .bad e => .tup [.agg [vI 0, vS [], vI 0, vI 0], vI 0, vI e]
  | .skip _ => .tup []
  | .tok k t m n => .tup [.agg [vI k, vS t, vI m, vI i], vI ((i + n : Nat)), vI 0]
theorem stV_bad (i e : Nat) : stV i (.bad e) = .tup [.agg [vI 0, vS [], vI 0, vI 0], vI 0, vI e] := rfl
theorem stV_tok (i k t m n) : stV i (.tok k t m n) = .tup [.agg [vI k, vS t, vI m, vI i], vI ((i + n : Nat)), vI 0] := rfl
def K45 (K : Cx) : Prop := ∀ (s : BS) (i : Nat), i < s.length → s.length ≤ 2000000 → K.call 45 [vS s, vI i] = some (stV i (numS (s.drop i)), [])

def box0 : Blk := .mix 4 [[vI 0, vS [], vI 0, vI 0]]

theorem hexL_nil : hexL [] = -1 := by decide
theorem num_loop (K : Cx) (h69 : K69 K) (s : BS) (hs : s.length ≤ 2000000) (i f b : Int) (hb : b = 10 ∨ b = 16) : ∀ (r : BS) (e : Nat) (g : Bool) (n : Int), s.drop e = r → e ≤ s.length → 0 ≤ n → n ≤ 4611686018427387903 →
    lp K 0 [0, 1, 4, 7, 8, 9, 10, 11, 12] f45_L0 ⟨[(0, vS s), (1, vI i), (4, .ptr 0 0 0), (7, vI b), (8, vI e), (9, vI f), (10, vI n), (11, .d false (.bool g)), (12, vI (hexL r))], [(0, .mix 4 [[vI 0, vS [], vI 0, vI 0]])], 1, []⟩ =
    some (.exit 0, ⟨[(0, vS s), (1, vI i), (4, .ptr 0 0 0), (7, vI b), (8, vI ((e + (numL b r g n).2.2 : Nat))), (9, vI f), (10, vI (numL b r g n).2.1), (11, .d false (.bool (numL b r g n).1))], [(0, .mix 4 [[vI 0, vS [], vI 0, vI 0]])], 1, []⟩) := by
  intro r
  induction r with
  | nil =>
    intro e g n hr he h0 h1
    rw [hexL_nil]
    simp only [numL, Nat.add_zero]
    rw [lp_un f45_L0.eq_1]
    simp (disch := first | decide | omega | (simp only [LN]; omega) | (simp only [LN]; done) | fail) only [SV, Int.reduceNeg, Nat.reduceBEq, beq_self_eq_true, evBin, intBin, decide_false, if_true, decide_true, Bool.and_true, V.refs, not_false_eq_true, and_self, Bool.and_self, Bool.or_false, cond_true, Nat.zero_add]
  | cons c r ih =>
    intro e g n hr he h0 h1
    have hlt : e < s.length := by
      apply Classical.byContradiction
      intro h
      rw [List.drop_eq_nil_of_le (by omega)] at hr
      cases hr
    have hr2 : s.drop (e + 1) = r := by rw [dd, hr]; rfl
    have h2 := h69 s (e + 1) hs
    rw [hr2] at h2
    have hx : hexL (c :: r) = hexB c := rfl
    have hd16 := hexB_lt c
    rw [hx]
    simp only [numL]
    generalize hexB c = d at hd16 ⊢
    have hb0 : (b = 0) = False := eq_false (by omega)
    rw [lp_un f45_L0.eq_1]
    by_cases g1 : 0 ≤ d ∧ d < b
    · rw [if_pos g1]
      obtain ⟨d0, d1⟩ := g1
      have hq : (4611686018427387903 - d).tdiv b = (4611686018427387903 - d) / b := Int.tdiv_eq_ediv_of_nonneg (by omega)
      have hq0 : 0 ≤ (4611686018427387903 - d) / b := Int.ediv_nonneg (by omega) (by omega)
      have hq1 : (4611686018427387903 - d) / b ≤ 4611686018427387903 := by
        have := Int.ediv_le_self (a := 4611686018427387903 - d) b (by omega)
        omega
      have key : ¬ (4611686018427387903 - d) / b < n → n * b ≤ 4611686018427387903 - d := by
        intro h
        exact (Int.le_ediv_iff_mul_le (by omega)).1 (by omega)
      have hnb : 0 ≤ n * b := Int.mul_nonneg h0 (by omega)
      generalize (4611686018427387903 - d) / b = q at hq hq0 hq1 key ⊢
      have cast : ∀ k : Nat, ((e + (k + 1) : Nat)) = e + 1 + k := fun k => by omega
      by_cases g2 : q < n
      · rw [if_pos g2]
        have ih := ih (e + 1) true d hr2 (by omega) d0 (by omega)
        rw [cast]
        clear key hb
        generalize hz : n * b = z at hnb
        simp (disch := first | decide | omega | (simp only [LN]; omega) | (simp only [LN]; done) | fail) only [SV, Nat.reduceBEq, beq_self_eq_true, evBin, intBin, decide_true, if_true, Bool.and_self, hb0, hq, if_false, Int.zero_mul, Int.zero_add, cast1, V.own, V.own1, Bool.or_self, V.new, V.new1, D.flat, Bool.or_true, V.flatV, V.flat1, Bool.not_true, Bool.and_false, Bool.false_and, view, viewD, h2, Bool.false_eq_true, V.refs, not_false_eq_true, and_self, Bool.or_false, cond_true, Nat.zero_add]
        exact ih
      · rw [if_neg g2]
        have hk := key g2
        generalize hz : n * b = z at hnb hk ⊢
        have ih := ih (e + 1) g (z + d) hr2 (by omega) (by omega) (by omega)
        rw [cast]
        clear key hb
        simp (disch := first | decide | omega | (simp only [LN]; omega) | (simp only [LN]; done) | fail) only [SV, Nat.reduceBEq, beq_self_eq_true, evBin, intBin, decide_true, if_true, Bool.and_self, hb0, hq, if_false, decide_false, hz, cast1, V.own, V.own1, Bool.or_self, V.new, V.new1, D.flat, Bool.or_true, V.flatV, V.flat1, Bool.not_true, Bool.and_false, Bool.false_and, view, viewD, h2, Bool.false_eq_true, V.refs, not_false_eq_true, and_self, Bool.or_false, cond_true, Nat.zero_add]
        exact ih
    · rw [if_neg g1]
      simp only [Nat.add_zero]
      by_cases g2 : 0 ≤ d
      · have g3 : ¬ d < b := fun h => g1 ⟨g2, h⟩
        clear g1 hb
        simp (disch := first | decide | omega | (simp only [LN]; omega) | (simp only [LN]; done) | fail) only [SV, Nat.reduceBEq, beq_self_eq_true, evBin, intBin, decide_true, if_true, decide_false, Bool.and_false, V.refs, not_false_eq_true, and_self, Bool.and_self, Bool.or_false, cond_true, Nat.zero_add]
      · clear g1 hb
        simp (disch := first | decide | omega | (simp only [LN]; omega) | (simp only [LN]; done) | fail) only [SV, Nat.reduceBEq, beq_self_eq_true, evBin, intBin, decide_false, if_true, Bool.false_and, V.refs, not_false_eq_true, and_self, decide_true, Bool.and_self, Bool.or_false, cond_true, Nat.zero_add]

theorem ev_number (K : Cx) (h68 : K68 K) (h69 : K69 K) (h48 : K48 K) (s : BS) (i : Nat) (hi : i < s.length) (hs : s.length ≤ 2000000) :
    runFun K f45 [vS s, vI i] [] = some (stV i (numS (s.drop i)), [], []) := by
  have h1 := h68 s (i + 1) hs
  have h2 := h69 s (i + 2) hs
  have h0 := h69 s i hs
  have hn := nth_bAt hi
  have hlen : (s.drop i).length = s.length - i := List.length_drop ..
  have k48 := fun k => h48 s (i + k)
  rw [dd] at h1 h2
  simp only [dd s i] at k48
  have L16 := num_loop K h69 s hs i ((i + 2 : Nat) : Int) 16 (Or.inr rfl) ((s.drop i).drop 2) (i + 2) false 0 (by rw [dd])
  have L10 := num_loop K h69 s hs i i 10 (Or.inl rfl) (s.drop i) i false 0 rfl (by omega) (by omega) (by omega)
  have hn2 := nth_bAt (s := s) (i := i + 2)
  rw [dd] at hn2
  unfold numS
  simp only
  generalize s.drop i = r at *
  have c48 : ∀ n : Int, n = 48 → bAt r = 48 → ((bAt r).toNat : Int) = n := fun n hn h => by rw [hn, h]; rfl
  by_cases hp : hexP r = true
  · simp only [hp, if_true]
    have hl3 := hexP_len hp
    unfold hexP at hp
    simp only [Bool.and_eq_true, decide_eq_true_eq] at hp
    obtain ⟨⟨p1, p2⟩, p3⟩ := hp
    have q1 := u8y 48 rfl p1
    have q2 := u8y 120 rfl p2
    have L16 := L16 (by omega) (by omega) (by omega)
    have hle := numL_le 16 (r.drop 2) false 0
    rw [List.length_drop] at hle
    generalize numL 16 (r.drop 2) false 0 = x at L16 hle ⊢
    obtain ⟨g, n, k⟩ := x
    simp only at L16 hle ⊢
    have h3 := k48 (2 + k) (by omega)
    rw [show i + (2 + k) = i + 2 + k from by omega] at h3
    clear L10 k48 hn2 c48 p1 p2
    cases g with
    | true =>
      rw [if_pos (Or.inl rfl), stV_bad]
      simp (disch := first | decide | omega | (simp only [LN]; omega) | (simp only [LN]; done) | fail) only [SV, f45, Nat.zero_add, Nat.reduceAdd, V.laid, V.cells, if_true, Nat.reduceBEq, beq_self_eq_true, hn, q1, evBin, intBin, cast1, V.own, V.own1, Bool.or_self, V.new, V.new1, D.flat, Bool.or_true, Bool.and_self, V.flatV, V.flat1, Bool.not_true, Bool.and_false, Bool.false_and, view, viewD, h1, q2, Bool.false_eq_true, if_false, cast2, h2, decide_true, V.refs, not_false_eq_true, and_self, Bool.or_false, cond_true, L16, orV_true, Nat.le_refl, lose, List.getElem?_cons_zero, oneOr, finV, finA, finC, nc]
    | false =>
      cases g2 : inNm (r.drop (2 + k)) with
      | true =>
        rw [if_pos (Or.inr (Or.inr rfl)), stV_bad]
        rw [g2] at h3
        simp (disch := first | decide | omega | (simp only [LN]; omega) | (simp only [LN]; done) | fail) only [SV, f45, Nat.zero_add, Nat.reduceAdd, V.laid, V.cells, if_true, Nat.reduceBEq, beq_self_eq_true, hn, q1, evBin, intBin, cast1, V.own, V.own1, Bool.or_self, V.new, V.new1, D.flat, Bool.or_true, Bool.and_self, V.flatV, V.flat1, Bool.not_true, Bool.and_false, Bool.false_and, view, viewD, h1, q2, Bool.false_eq_true, if_false, cast2, h2, decide_true, V.refs, not_false_eq_true, and_self, Bool.or_false, cond_true, L16, h3, Nat.le_refl, lose, List.getElem?_cons_zero, oneOr, finV, finA, finC, nc]
      | false =>
        rw [if_neg (by rintro (h | h | h) <;> simp at h), stV_tok]
        rw [g2] at h3
        rw [show i + (2 + k) = i + 2 + k from by omega]
        simp (disch := first | decide | omega | (simp only [LN]; omega) | (simp only [LN]; done) | fail) only [SV, f45, Nat.zero_add, Nat.reduceAdd, V.laid, V.cells, if_true, Nat.reduceBEq, beq_self_eq_true, hn, q1, evBin, intBin, cast1, V.own, V.own1, Bool.or_self, V.new, V.new1, D.flat, Bool.or_true, Bool.and_self, V.flatV, V.flat1, Bool.not_true, Bool.and_false, Bool.false_and, view, viewD, h1, q2, Bool.false_eq_true, if_false, cast2, h2, decide_true, V.refs, not_false_eq_true, and_self, Bool.or_false, cond_true, L16, h3, evSet, V.cell, Nat.le_refl, lose, List.getElem?_cons_zero, oneOr, finV, finA, finC, nc]
  · have hp' : hexP r = false := by simpa using hp
    simp only [hp', Bool.false_eq_true, if_false, List.drop_zero, Nat.zero_add, true_and]
    have hle := numL_le 10 r false 0
    generalize numL 10 r false 0 = x at L10 hle ⊢
    obtain ⟨g, n, k⟩ := x
    simp only at L10 hle ⊢
    have h3 := k48 k (by omega)
    clear L16 k48 hn2 hp
    unfold hexP at hp'
    have fin : ∀ rr : V, rr = stV i (if g = true ∨ (bAt r = 48 ∧ 1 < k) ∨ inNm (r.drop k) = true then .bad 11 else .tok 6 [] n k) → runFun K f45 [vS s, vI i] [] = some (rr, [], []) := by
      intro rr hrr
      by_cases p1 : bAt r = 48
      · have q1 := u8y 48 rfl p1
        have pre3 : ¬ (((bAt (r.drop 1)).toNat : Int) = 120) ∨ ¬ 0 ≤ hexL (r.drop 2) := by
          by_cases p2 : bAt (r.drop 1) = 120
          · right
            intro h
            rw [p1, p2] at hp'
            simp [h] at hp'
          · left; exact u8n 120 rfl p2
        subst hrr
        cases g with
        | true =>
          rw [if_pos (Or.inl rfl), stV_bad]
          rcases pre3 with p | p
          · clear p1 hp' c48
            simp (disch := first | decide | omega | (simp only [LN]; omega) | (simp only [LN]; done) | fail) only [SV, f45, Nat.zero_add, Nat.reduceAdd, V.laid, V.cells, if_true, Nat.reduceBEq, beq_self_eq_true, hn, q1, evBin, intBin, cast1, V.own, V.own1, Bool.or_self, V.new, V.new1, D.flat, Bool.or_true, Bool.and_self, V.flatV, V.flat1, Bool.not_true, Bool.and_false, Bool.false_and, view, viewD, h1, Bool.false_eq_true, if_false, cast2, h2, h0, V.refs, not_false_eq_true, and_self, decide_true, Bool.or_false, cond_true, L10, Bool.true_and, Bool.true_or, orV_true, Nat.le_refl, lose, List.getElem?_cons_zero, oneOr, finV, finA, finC, nc]
          · clear p1 hp' c48
            by_cases p2 : ((bAt (r.drop 1)).toNat : Int) = 120
            · simp (disch := first | decide | omega | (simp only [LN]; omega) | (simp only [LN]; done) | fail) only [SV, f45, Nat.zero_add, Nat.reduceAdd, V.laid, V.cells, if_true, Nat.reduceBEq, beq_self_eq_true, hn, q1, evBin, intBin, cast1, V.own, V.own1, Bool.or_self, V.new, V.new1, D.flat, Bool.or_true, Bool.and_self, V.flatV, V.flat1, Bool.not_true, Bool.and_false, Bool.false_and, view, viewD, h1, p2, Bool.false_eq_true, if_false, cast2, h2, decide_false, h0, V.refs, not_false_eq_true, and_self, decide_true, Bool.or_false, cond_true, L10, Bool.true_and, Bool.true_or, orV_true, Nat.le_refl, lose, List.getElem?_cons_zero, oneOr, finV, finA, finC, nc]
            · simp (disch := first | decide | omega | (simp only [LN]; omega) | (simp only [LN]; done) | fail) only [SV, f45, Nat.zero_add, Nat.reduceAdd, V.laid, V.cells, if_true, Nat.reduceBEq, beq_self_eq_true, hn, q1, evBin, intBin, cast1, V.own, V.own1, Bool.or_self, V.new, V.new1, D.flat, Bool.or_true, Bool.and_self, V.flatV, V.flat1, Bool.not_true, Bool.and_false, Bool.false_and, view, viewD, h1, Bool.false_eq_true, if_false, cast2, h2, decide_false, h0, V.refs, not_false_eq_true, and_self, decide_true, Bool.or_false, cond_true, L10, Bool.true_and, Bool.true_or, orV_true, Nat.le_refl, lose, List.getElem?_cons_zero, oneOr, finV, finA, finC, nc]
        | false =>
          by_cases g1 : 1 < k
          · rw [if_pos (Or.inr (Or.inl ⟨p1, g1⟩)), stV_bad]
            clear p1 hp' c48
            rcases pre3 with p | p
            · simp (disch := first | decide | omega | (simp only [LN]; omega) | (simp only [LN]; done) | fail) only [SV, f45, Nat.zero_add, Nat.reduceAdd, V.laid, V.cells, if_true, Nat.reduceBEq, beq_self_eq_true, hn, q1, evBin, intBin, cast1, V.own, V.own1, Bool.or_self, V.new, V.new1, D.flat, Bool.or_true, Bool.and_self, V.flatV, V.flat1, Bool.not_true, Bool.and_false, Bool.false_and, view, viewD, h1, Bool.false_eq_true, if_false, cast2, h2, h0, V.refs, not_false_eq_true, and_self, decide_true, Bool.or_false, cond_true, L10, orV_true, Nat.le_refl, lose, List.getElem?_cons_zero, oneOr, finV, finA, finC, nc]
            · by_cases p2 : ((bAt (r.drop 1)).toNat : Int) = 120
              · simp (disch := first | decide | omega | (simp only [LN]; omega) | (simp only [LN]; done) | fail) only [SV, f45, Nat.zero_add, Nat.reduceAdd, V.laid, V.cells, if_true, Nat.reduceBEq, beq_self_eq_true, hn, q1, evBin, intBin, cast1, V.own, V.own1, Bool.or_self, V.new, V.new1, D.flat, Bool.or_true, Bool.and_self, V.flatV, V.flat1, Bool.not_true, Bool.and_false, Bool.false_and, view, viewD, h1, p2, Bool.false_eq_true, if_false, cast2, h2, decide_false, h0, V.refs, not_false_eq_true, and_self, decide_true, Bool.or_false, cond_true, L10, orV_true, Nat.le_refl, lose, List.getElem?_cons_zero, oneOr, finV, finA, finC, nc]
              · simp (disch := first | decide | omega | (simp only [LN]; omega) | (simp only [LN]; done) | fail) only [SV, f45, Nat.zero_add, Nat.reduceAdd, V.laid, V.cells, if_true, Nat.reduceBEq, beq_self_eq_true, hn, q1, evBin, intBin, cast1, V.own, V.own1, Bool.or_self, V.new, V.new1, D.flat, Bool.or_true, Bool.and_self, V.flatV, V.flat1, Bool.not_true, Bool.and_false, Bool.false_and, view, viewD, h1, Bool.false_eq_true, if_false, cast2, h2, decide_false, h0, V.refs, not_false_eq_true, and_self, decide_true, Bool.or_false, cond_true, L10, orV_true, Nat.le_refl, lose, List.getElem?_cons_zero, oneOr, finV, finA, finC, nc]
          · cases g2 : inNm (r.drop k) with
            | true =>
              rw [if_pos (Or.inr (Or.inr rfl)), stV_bad]
              rw [g2] at h3
              clear p1 hp' c48
              rcases pre3 with p | p
              · simp (disch := first | decide | omega | (simp only [LN]; omega) | (simp only [LN]; done) | fail) only [SV, f45, Nat.zero_add, Nat.reduceAdd, V.laid, V.cells, if_true, Nat.reduceBEq, beq_self_eq_true, hn, q1, evBin, intBin, cast1, V.own, V.own1, Bool.or_self, V.new, V.new1, D.flat, Bool.or_true, Bool.and_self, V.flatV, V.flat1, Bool.not_true, Bool.and_false, Bool.false_and, view, viewD, h1, Bool.false_eq_true, if_false, cast2, h2, h0, V.refs, not_false_eq_true, and_self, decide_true, Bool.or_false, cond_true, L10, decide_false, h3, Nat.le_refl, lose, List.getElem?_cons_zero, oneOr, finV, finA, finC, nc]
              · by_cases p2 : ((bAt (r.drop 1)).toNat : Int) = 120
                · simp (disch := first | decide | omega | (simp only [LN]; omega) | (simp only [LN]; done) | fail) only [SV, f45, Nat.zero_add, Nat.reduceAdd, V.laid, V.cells, if_true, Nat.reduceBEq, beq_self_eq_true, hn, q1, evBin, intBin, cast1, V.own, V.own1, Bool.or_self, V.new, V.new1, D.flat, Bool.or_true, Bool.and_self, V.flatV, V.flat1, Bool.not_true, Bool.and_false, Bool.false_and, view, viewD, h1, p2, Bool.false_eq_true, if_false, cast2, h2, decide_false, h0, V.refs, not_false_eq_true, and_self, decide_true, Bool.or_false, cond_true, L10, h3, Nat.le_refl, lose, List.getElem?_cons_zero, oneOr, finV, finA, finC, nc]
                · simp (disch := first | decide | omega | (simp only [LN]; omega) | (simp only [LN]; done) | fail) only [SV, f45, Nat.zero_add, Nat.reduceAdd, V.laid, V.cells, if_true, Nat.reduceBEq, beq_self_eq_true, hn, q1, evBin, intBin, cast1, V.own, V.own1, Bool.or_self, V.new, V.new1, D.flat, Bool.or_true, Bool.and_self, V.flatV, V.flat1, Bool.not_true, Bool.and_false, Bool.false_and, view, viewD, h1, Bool.false_eq_true, if_false, cast2, h2, decide_false, h0, V.refs, not_false_eq_true, and_self, decide_true, Bool.or_false, cond_true, L10, h3, Nat.le_refl, lose, List.getElem?_cons_zero, oneOr, finV, finA, finC, nc]
            | false =>
              rw [if_neg (by rintro (h | h | h); simp at h; exact g1 h.2; simp at h), stV_tok]
              rw [g2] at h3
              clear p1 hp' c48
              rcases pre3 with p | p
              · simp (disch := first | decide | omega | (simp only [LN]; omega) | (simp only [LN]; done) | fail) only [SV, f45, Nat.zero_add, Nat.reduceAdd, V.laid, V.cells, if_true, Nat.reduceBEq, beq_self_eq_true, hn, q1, evBin, intBin, cast1, V.own, V.own1, Bool.or_self, V.new, V.new1, D.flat, Bool.or_true, Bool.and_self, V.flatV, V.flat1, Bool.not_true, Bool.and_false, Bool.false_and, view, viewD, h1, Bool.false_eq_true, if_false, cast2, h2, h0, V.refs, not_false_eq_true, and_self, decide_true, Bool.or_false, cond_true, L10, decide_false, h3, evSet, V.cell, Nat.le_refl, lose, List.getElem?_cons_zero, oneOr, finV, finA, finC, nc]
              · by_cases p2 : ((bAt (r.drop 1)).toNat : Int) = 120
                · simp (disch := first | decide | omega | (simp only [LN]; omega) | (simp only [LN]; done) | fail) only [SV, f45, Nat.zero_add, Nat.reduceAdd, V.laid, V.cells, if_true, Nat.reduceBEq, beq_self_eq_true, hn, q1, evBin, intBin, cast1, V.own, V.own1, Bool.or_self, V.new, V.new1, D.flat, Bool.or_true, Bool.and_self, V.flatV, V.flat1, Bool.not_true, Bool.and_false, Bool.false_and, view, viewD, h1, p2, Bool.false_eq_true, if_false, cast2, h2, decide_false, h0, V.refs, not_false_eq_true, and_self, decide_true, Bool.or_false, cond_true, L10, h3, evSet, V.cell, Nat.le_refl, lose, List.getElem?_cons_zero, oneOr, finV, finA, finC, nc]
                · simp (disch := first | decide | omega | (simp only [LN]; omega) | (simp only [LN]; done) | fail) only [SV, f45, Nat.zero_add, Nat.reduceAdd, V.laid, V.cells, if_true, Nat.reduceBEq, beq_self_eq_true, hn, q1, evBin, intBin, cast1, V.own, V.own1, Bool.or_self, V.new, V.new1, D.flat, Bool.or_true, Bool.and_self, V.flatV, V.flat1, Bool.not_true, Bool.and_false, Bool.false_and, view, viewD, h1, Bool.false_eq_true, if_false, cast2, h2, decide_false, h0, V.refs, not_false_eq_true, and_self, decide_true, Bool.or_false, cond_true, L10, h3, evSet, V.cell, Nat.le_refl, lose, List.getElem?_cons_zero, oneOr, finV, finA, finC, nc]
      · have q1 := u8n 48 rfl p1
        subst hrr
        cases g with
        | true =>
          rw [if_pos (Or.inl rfl), stV_bad]
          clear p1 hp' c48
          simp (disch := first | decide | omega | (simp only [LN]; omega) | (simp only [LN]; done) | fail) only [SV, f45, Nat.zero_add, Nat.reduceAdd, V.laid, V.cells, if_true, Nat.reduceBEq, beq_self_eq_true, hn, evBin, intBin, cast1, V.own, V.own1, Bool.or_self, V.new, V.new1, D.flat, Bool.or_true, Bool.and_self, V.flatV, V.flat1, Bool.not_true, Bool.and_false, Bool.false_and, view, viewD, h1, Bool.false_eq_true, if_false, cast2, h2, h0, V.refs, not_false_eq_true, and_self, decide_true, Bool.or_false, cond_true, L10, orV_true, Nat.le_refl, lose, List.getElem?_cons_zero, oneOr, finV, finA, finC, nc]
        | false =>
          cases g2 : inNm (r.drop k) with
          | true =>
            rw [if_pos (Or.inr (Or.inr rfl)), stV_bad]
            rw [g2] at h3
            clear p1 hp' c48
            simp (disch := first | decide | omega | (simp only [LN]; omega) | (simp only [LN]; done) | fail) only [SV, f45, Nat.zero_add, Nat.reduceAdd, V.laid, V.cells, if_true, Nat.reduceBEq, beq_self_eq_true, hn, evBin, intBin, cast1, V.own, V.own1, Bool.or_self, V.new, V.new1, D.flat, Bool.or_true, Bool.and_self, V.flatV, V.flat1, Bool.not_true, Bool.and_false, Bool.false_and, view, viewD, h1, Bool.false_eq_true, if_false, cast2, h2, h0, V.refs, not_false_eq_true, and_self, decide_true, Bool.or_false, cond_true, L10, h3, Nat.le_refl, lose, List.getElem?_cons_zero, oneOr, finV, finA, finC, nc]
          | false =>
            rw [if_neg (by rintro (h | h | h); simp at h; exact p1 h.1; simp at h), stV_tok]
            rw [g2] at h3
            clear p1 hp' c48
            simp (disch := first | decide | omega | (simp only [LN]; omega) | (simp only [LN]; done) | fail) only [SV, f45, Nat.zero_add, Nat.reduceAdd, V.laid, V.cells, if_true, Nat.reduceBEq, beq_self_eq_true, hn, evBin, intBin, cast1, V.own, V.own1, Bool.or_self, V.new, V.new1, D.flat, Bool.or_true, Bool.and_self, V.flatV, V.flat1, Bool.not_true, Bool.and_false, Bool.false_and, view, viewD, h1, Bool.false_eq_true, if_false, cast2, h2, h0, V.refs, not_false_eq_true, and_self, decide_true, Bool.or_false, cond_true, L10, h3, evSet, V.cell, Nat.le_refl, lose, List.getElem?_cons_zero, oneOr, finV, finA, finC, nc]
    exact fin _ rfl
end Go.Vm
end

section
namespace Go.Vm
set_option maxRecDepth 20000
/- 'sloth/lex.quoted' -/
def f47_L0 : C :=
 (.seq
  (.seq
   (.reg [⟨[], [(21, (.bin .neq (.call 68 (.cons (.sl 0) (.cons (.sl 9) .nil))) (.sl 7)))], [], none, [0, 1, 4, 7, 8, 9], 5, [], [], []⟩])
   (.cond (.sl 21)
    .skip
    (.seq
     (.tidy 0 [1, 4, 7, 8, 9])
     (.exit 0))))
  (.block 1
   (.seq
    (.reg [⟨[], [(10, (.ext 0 (.call 70 (.cons (.sl 0) (.cons (.sl 9) (.cons (.sl 7) .nil)))))), (11, (.ext 1 (.call 70 (.cons (.sl 0) (.cons (.sl 9) (.cons (.sl 7) .nil))))))], [], none, [0, 1, 4, 7, 8], 9, [], [], []⟩])
    (.seq
     (.seq
      (.reg [⟨[], [(30, (.bin .lss (.sl 11) (.int .i64 0)))], [], none, [0, 1, 4, 7, 8, 10, 11], 2, [], [], []⟩])
      (.cond (.sl 30)
       (.seq
        (.reg [⟨[], [], [], some (none, .store 4 (.sl 4) (.agg (.cons (.int .i64 0) (.cons (.str []) (.cons (.int .i64 0) (.cons (.int .i64 0) .nil)))))), [4], 2, [], [], []⟩, ⟨[], [(5, (.int .i64 0)), (6, (.int .i64 12))], [], none, [4], 2, [], [], []⟩])
        (.seq
         (.tidy 0 [4, 5, 6])
         .ret))
       .skip))
     (.seq
      (.reg [⟨[(34, .lits 1 (.cons (.sl 10) .nil))], [], [], some (some 35, .app 1 (.sl 8) (.sl 34)), [0, 1, 4, 7, 11], 4, [], [], []⟩, ⟨[], [(8, (.sl 35))], [], none, [0, 1, 4, 7, 11], 1, [], [], []⟩])
      (.reg [⟨[], [(9, (.sl 11))], [], none, [0, 1, 4, 7, 8], 2, [], [], []⟩]))))))
def f47 : Fun := ⟨
 (.seq
  (.reg [⟨[(4, .box (.agg (.cons (.int .i64 0) (.cons (.str []) (.cons (.int .i64 0) (.cons (.int .i64 0) .nil))))))], [], [], none, [0, 1, 4], 3, [], [], []⟩])
  (.seq
   (.reg [⟨[], [(7, (.ix (.sl 0) (.sl 1)))], [], none, [0, 1, 4], 4, [], [], []⟩])
   (.seq
    (.reg [⟨[], [(8, (.nilsl 1))], [], none, [0, 1, 4, 7], 1, [], [], []⟩])
    (.seq
     (.reg [⟨[], [(9, (.bin .add (.sl 1) (.int .i64 1)))], [], none, [0, 1, 4, 7, 8], 3, [], [], []⟩])
     (.seq
      (.block 0
       (.seq (.tidy 0 [0, 1, 4, 7, 8, 9]) (.loop (.seq (.tidy 0 [0, 1, 4, 7, 8, 9]) f47_L0))))
      (.seq
       (.reg [⟨[], [(9, (.bin .add (.sl 9) (.int .i64 1)))], [], none, [1, 4, 7, 8], 3, [], [], []⟩])
       (.seq
        (.seq
         (.reg [⟨[], [(40, (.bin .eql (.sl 7) (.int .u8 34)))], [], none, [1, 4, 8, 9], 2, [], [], []⟩])
         (.cond (.sl 40)
          (.seq
           (.reg [⟨[], [(45, (.sl 9))], [], some (none, .store 4 (.sl 4) (.set 3 1 (.sl 1) (.set 1 1 (.b2s (.sl 8)) (.set 0 1 (.int .i64 8) (.agg (.cons (.int .i64 0) (.cons (.str []) (.cons (.int .i64 0) (.cons (.int .i64 0) .nil))))))))), [4], 6, [], [], []⟩, ⟨[], [(5, (.sl 45)), (6, (.int .i64 0))], [], none, [4], 2, [], [], []⟩])
           (.seq
            (.tidy 0 [4, 5, 6])
            .ret))
          .skip))
        (.seq
         (.seq
          (.reg [⟨[], [(48, (.bin .neq (.len false (.sl 8)) (.int .i64 1)))], [], none, [1, 4, 8, 9], 3, [], [], []⟩])
          (.cond (.sl 48)
           (.seq
            (.reg [⟨[], [], [], some (none, .store 4 (.sl 4) (.agg (.cons (.int .i64 0) (.cons (.str []) (.cons (.int .i64 0) (.cons (.int .i64 0) .nil)))))), [4], 2, [], [], []⟩, ⟨[], [(5, (.int .i64 0)), (6, (.int .i64 12))], [], none, [4], 2, [], [], []⟩])
            (.seq
             (.tidy 0 [4, 5, 6])
             .ret))
           .skip))
         (.seq
          (.reg [⟨[], [(56, (.sl 9))], [], some (none, .store 4 (.sl 4) (.set 3 1 (.sl 1) (.set 2 1 (.conv .i64 (.ld 1 false (.ia 1 (.sl 8) (.int .i64 0)))) (.set 0 1 (.int .i64 7) (.agg (.cons (.int .i64 0) (.cons (.str []) (.cons (.int .i64 0) (.cons (.int .i64 0) .nil))))))))), [4], 8, [], [], []⟩, ⟨[], [(5, (.sl 56)), (6, (.int .i64 0))], [], none, [4], 2, [], [], []⟩])
          (.seq
           (.tidy 0 [4, 5, 6])
           .ret)))))))))),
 [(.ld 4 true (.sl 4)), (.sl 5), (.sl 6)], false⟩
theorem f47_ok : funOk Go.Proofs.Tryd.prog 47 0 2 f47 = true := by kernel_rfl


def eU8 (c : UInt8) : List D := [.int .u8 c.toNat]
def K47 (K : Cx) : Prop := ∀ (s : BS) (i : Nat), i < s.length → s.length ≤ 2000000 → bAt (s.drop i) = 34 ∨ bAt (s.drop i) = 39 → K.call 47 [vS s, vI i] = some (stV i (quotS (s.drop i)), [])

theorem bytesOf_map : ∀ l : BS, bytesOf (l.map eU8) = some l
  | [] => rfl
  | c :: l => by
    simp only [List.map_cons, eU8, bytesOf, bytesOf_map l]
    simp
theorem b2s_bsl (H : List (Nat × Blk)) (b n : Nat) (c : Bool) (l : BS) (hb : look H b = some (.dat c 1 (l.map eU8))) (hn : n = l.length) : evB2s H (.bsl b 0 n) = some (vS l) := by
  subst hn
  unfold evB2s
  have := viewD_datm 5 H b 0 l.length c 1 l eU8 hb (by omega)
  rw [show viewDepth = 6 from rfl, this]
  simp only [List.drop_zero, List.take_length, b2sD, bytesOf_map, Option.map_some]
theorem b2s_nil (H : List (Nat × Blk)) : evB2s H (.fs true 1 []) = some (vS []) := rfl

def qSt (s : BS) (i : Int) (q : UInt8) (e : Nat) : BS → S
  | [] => ⟨[(0, vS s), (1, vI i), (4, .ptr 0 0 0), (7, .d false (.int .u8 q.toNat)), (8, .fs true 1 []), (9, vI e)], [(0, .mix 4 [[vI 0, vS [], vI 0, vI 0]])], 1, []⟩
  | l => ⟨[(0, vS s), (1, vI i), (4, .ptr 0 0 0), (7, .d false (.int .u8 q.toNat)), (8, .bsl 1 0 l.length), (9, vI e)], [(0, .mix 4 [[vI 0, vS [], vI 0, vI 0]]), (1, .dat true 1 (l.map eU8))], 2, []⟩
def qEnd (i : Int) (q : UInt8) (e : Nat) : BS → S
  | [] => ⟨[(1, vI i), (4, .ptr 0 0 0), (7, .d false (.int .u8 q.toNat)), (8, .fs true 1 []), (9, vI e)], [(0, .mix 4 [[vI 0, vS [], vI 0, vI 0]])], 1, []⟩
  | l => ⟨[(1, vI i), (4, .ptr 0 0 0), (7, .d false (.int .u8 q.toNat)), (8, .bsl 1 0 l.length), (9, vI e)], [(0, .mix 4 [[vI 0, vS [], vI 0, vI 0]]), (1, .dat true 1 (l.map eU8))], 2, []⟩
theorem qSt_nil (s i q e) : qSt s i q e [] = ⟨[(0, vS s), (1, vI i), (4, .ptr 0 0 0), (7, .d false (.int .u8 q.toNat)), (8, .fs true 1 []), (9, vI e)], [(0, .mix 4 [[vI 0, vS [], vI 0, vI 0]])], 1, []⟩ := rfl
theorem qSt_app (s i q e) (l : BS) (x : UInt8) : qSt s i q e (l ++ [x]) = ⟨[(0, vS s), (1, vI i), (4, .ptr 0 0 0), (7, .d false (.int .u8 q.toNat)), (8, .bsl 1 0 (l.length + 1)), (9, vI e)], [(0, .mix 4 [[vI 0, vS [], vI 0, vI 0]]), (1, .dat true 1 (l.map eU8 ++ [[.int .u8 x.toNat]]))], 2, []⟩ := by
  cases l with
  | nil => rfl
  | cons a l => simp [qSt, eU8]
theorem qSt_ne (s i q e) {l : BS} (h : l ≠ []) : qSt s i q e l = ⟨[(0, vS s), (1, vI i), (4, .ptr 0 0 0), (7, .d false (.int .u8 q.toNat)), (8, .bsl 1 0 l.length), (9, vI e)], [(0, .mix 4 [[vI 0, vS [], vI 0, vI 0]]), (1, .dat true 1 (l.map eU8))], 2, []⟩ := by
  cases l with
  | nil => exact absurd rfl h
  | cons a l => rfl
theorem qEnd_nil (i q e) : qEnd i q e [] = ⟨[(1, vI i), (4, .ptr 0 0 0), (7, .d false (.int .u8 q.toNat)), (8, .fs true 1 []), (9, vI e)], [(0, .mix 4 [[vI 0, vS [], vI 0, vI 0]])], 1, []⟩ := rfl
theorem qEnd_ne (i q e) {l : BS} (h : l ≠ []) : qEnd i q e l = ⟨[(1, vI i), (4, .ptr 0 0 0), (7, .d false (.int .u8 q.toNat)), (8, .bsl 1 0 l.length), (9, vI e)], [(0, .mix 4 [[vI 0, vS [], vI 0, vI 0]]), (1, .dat true 1 (l.map eU8))], 2, []⟩ := by
  cases l with
  | nil => exact absurd rfl h
  | cons a l => rfl
def qOut (i : Int) (q : UInt8) (e : Nat) (l : BS) : Option (BS × Nat) → Ex × S
  | none => (.ret, ⟨[(4, .ptr 0 0 0), (5, vI 0), (6, vI 12)], [(0, .mix 4 [[vI 0, vS [], vI 0, vI 0]])], 1, []⟩)
  | some (bs, k) => (.exit 0, qEnd i q (e + k) (l ++ bs))

theorem quot_loop (K : Cx) (h68 : K68 K) (h70 : K70 K) (s : BS) (hs : s.length ≤ 2000000) (i : Int) (q : UInt8) (hq : q = 34 ∨ q = 39) : ∀ (n : Nat) (r : BS), r.length = n → ∀ (e : Nat) (l : BS), s.drop e = r → e ≤ s.length → l.length ≤ e →
    lp K 0 [0, 1, 4, 7, 8, 9] f47_L0 (qSt s i q e l) = some (qOut i q e l (quotL q r)) := by
  intro n
  induction n using Nat.strongRecOn with
  | ind n ih =>
    intro r hr e l hd he hle
    subst hr
    have h1 := h68 s e hs
    have h2 := h70 s e q hs he
    rw [hd] at h1 h2
    match r, ih, hd, h1, h2 with
    | [], ih, hd, h1, h2 =>
      have hq0 : ¬ (((bAt ([] : BS)).toNat : Int) = (q.toNat : Int)) := by
        rcases hq with rfl | rfl <;> decide
      have hs0 : soundS ([] : BS) q = none := by
        unfold soundS
        rw [if_pos (by decide), if_pos (Or.inl (by decide))]
      rw [hs0, vSound_none] at h2
      have hx : quotL q [] = none := by rw [quotL]
      rw [hx]
      simp only [qOut]
      generalize ((bAt ([] : BS)).toNat : Int) = z at h1 hq0
      have hq1 : (z != (q.toNat : Int)) = true := by simpa using hq0
      clear hq ih
      by_cases hl0 : l = []
      · subst hl0
        rw [qSt_nil, lp_un f47_L0.eq_1]
        simp (disch := first | decide | omega | (simp only [LN]; omega) | (simp only [LN]; done) | fail) only [SV, beq_self_eq_true, Nat.reduceBEq, V.own, V.own1, Bool.or_self, V.new, V.new1, D.flat, Bool.or_true, Bool.and_self, V.flatV, V.flat1, Bool.not_true, Bool.and_false, Bool.false_and, view, viewD, h1, Bool.false_eq_true, if_false, evBin, intBin, hq1, if_true, h2, Int.reduceNeg, evExt, List.getElem?_cons_zero, List.getElem?_cons_succ, decide_true, V.laid, V.cells, Nat.zero_add, Nat.reduceAdd, Nat.le_refl, lose, V.refs, not_false_eq_true, and_self, Bool.or_false, cond_true]
      · skip
        rw [qSt_ne _ _ _ _ hl0, lp_un f47_L0.eq_1]
        clear hl0
        simp (disch := first | decide | omega | (simp only [LN]; omega) | (simp only [LN]; done) | fail) only [SV, beq_self_eq_true, Nat.reduceBEq, V.own, V.own1, Bool.or_self, V.new, V.new1, D.flat, Bool.or_true, Bool.and_self, V.flatV, V.flat1, Bool.not_true, Bool.and_false, Bool.false_and, view, viewD, h1, Bool.false_eq_true, if_false, evBin, intBin, hq1, if_true, h2, Int.reduceNeg, evExt, List.getElem?_cons_zero, List.getElem?_cons_succ, decide_true, V.laid, V.cells, Nat.zero_add, Nat.reduceAdd, Nat.le_refl, lose, V.refs, not_false_eq_true, and_self, Bool.or_false, cond_true]
    | c :: r', ih, hd, h1, h2 =>
      have hlt : e + 1 ≤ s.length := by
        have := congrArg List.length hd
        rw [List.length_drop, List.length_cons] at this
        omega
      have hb : bAt (c :: r') = c := rfl
      rw [hb] at h1
      rw [quotL]
      by_cases g : c = q
      · subst g
        rw [if_pos rfl]
        simp only [qOut, Nat.add_zero, List.append_nil]
        have hq1 : ((c.toNat : Int) != (c.toNat : Int)) = false := by simp
        clear hq ih
        by_cases hl0 : l = []
        · subst hl0
          rw [qSt_nil, qEnd_nil, lp_un f47_L0.eq_1]
          simp (disch := first | decide | omega | (simp only [LN]; omega) | (simp only [LN]; done) | fail) only [SV, beq_self_eq_true, Nat.reduceBEq, V.own, V.own1, Bool.or_self, V.new, V.new1, D.flat, Bool.or_true, Bool.and_self, V.flatV, V.flat1, Bool.not_true, Bool.and_false, Bool.false_and, view, viewD, h1, Bool.false_eq_true, if_false, evBin, intBin, bne_self_eq_false, if_true, V.refs, not_false_eq_true, and_self, decide_true, Bool.or_false, cond_true, Nat.zero_add]
        · skip
          rw [qSt_ne _ _ _ _ hl0, qEnd_ne _ _ _ hl0, lp_un f47_L0.eq_1]
          clear hl0
          simp (disch := first | decide | omega | (simp only [LN]; omega) | (simp only [LN]; done) | fail) only [SV, beq_self_eq_true, Nat.reduceBEq, V.own, V.own1, Bool.or_self, V.new, V.new1, D.flat, Bool.or_true, Bool.and_self, V.flatV, V.flat1, Bool.not_true, Bool.and_false, Bool.false_and, view, viewD, h1, Bool.false_eq_true, if_false, evBin, intBin, bne_self_eq_false, if_true, V.refs, reduceCtorEq, or_self, not_false_eq_true, and_self, decide_true, Bool.or_false, cond_false, cond_true, Nat.zero_add, Nat.reduceAdd]
      · rw [if_neg g]
        have hq1 : ((c.toNat : Int) != (q.toNat : Int)) = true := by
          rw [bne_iff_ne, ne_eq, u8eq]; exact g
        cases hsd : soundS (c :: r') q with
        | none =>
          rw [hsd, vSound_none] at h2
          simp only [qOut]
          clear hq ih g
          by_cases hl0 : l = []
          · subst hl0
            rw [qSt_nil, lp_un f47_L0.eq_1]
            simp (disch := first | decide | omega | (simp only [LN]; omega) | (simp only [LN]; done) | fail) only [SV, beq_self_eq_true, Nat.reduceBEq, V.own, V.own1, Bool.or_self, V.new, V.new1, D.flat, Bool.or_true, Bool.and_self, V.flatV, V.flat1, Bool.not_true, Bool.and_false, Bool.false_and, view, viewD, h1, Bool.false_eq_true, if_false, evBin, intBin, hq1, if_true, h2, Int.reduceNeg, evExt, List.getElem?_cons_zero, List.getElem?_cons_succ, decide_true, V.laid, V.cells, Nat.zero_add, Nat.reduceAdd, Nat.le_refl, lose, V.refs, not_false_eq_true, and_self, Bool.or_false, cond_true]
          · skip
            rw [qSt_ne _ _ _ _ hl0, lp_un f47_L0.eq_1]
            clear hl0
            simp (disch := first | decide | omega | (simp only [LN]; omega) | (simp only [LN]; done) | fail) only [SV, beq_self_eq_true, Nat.reduceBEq, V.own, V.own1, Bool.or_self, V.new, V.new1, D.flat, Bool.or_true, Bool.and_self, V.flatV, V.flat1, Bool.not_true, Bool.and_false, Bool.false_and, view, viewD, h1, Bool.false_eq_true, if_false, evBin, intBin, hq1, if_true, h2, Int.reduceNeg, evExt, List.getElem?_cons_zero, List.getElem?_cons_succ, decide_true, V.laid, V.cells, Nat.zero_add, Nat.reduceAdd, Nat.le_refl, lose, V.refs, not_false_eq_true, and_self, Bool.or_false, cond_true]
        | some y =>
          obtain ⟨x, k⟩ := y
          have hk := soundS_len hsd
          simp only [List.length_cons] at hk
          have hlr : r'.length + 1 + e = s.length := by
            have := congrArg List.length hd
            rw [List.length_drop, List.length_cons] at this
            omega
          rw [hsd, vSound_some] at h2
          have ih := ih (r'.drop (k - 1)).length (by rw [List.length_drop, List.length_cons]; omega) (r'.drop (k - 1)) rfl (e + k) (l ++ [x]) (by rw [dd, hd, drop_pred hk.1]) (by omega) (by simp; omega)
          rw [qSt_app] at ih
          simp only
          have ho : qOut i q e l (Option.map (fun y => (x :: y.1, k + y.2)) (quotL q (r'.drop (k - 1)))) = qOut i q (e + k) (l ++ [x]) (quotL q (r'.drop (k - 1))) := by
            cases quotL q (r'.drop (k - 1)) with
            | none => rfl
            | some z => simp [qOut, Nat.add_assoc]
          rw [ho, ← ih]
          clear ho ih hq g hsd hd hb
          have hn : ¬ (((e + k : Nat) : Int) < 0) := by omega
          by_cases hl0 : l = []
          · subst hl0
            rw [qSt_nil, lp_un f47_L0.eq_1]
            simp (disch := first | decide | omega | (simp only [LN]; omega) | (simp only [LN]; done) | fail) only [SV, beq_self_eq_true, Nat.reduceBEq, V.own, V.own1, Bool.or_self, V.new, V.new1, D.flat, Bool.or_true, Bool.and_self, V.flatV, V.flat1, Bool.not_true, Bool.and_false, Bool.false_and, view, viewD, h1, Bool.false_eq_true, if_false, evBin, intBin, hq1, if_true, h2, evExt, List.getElem?_cons_zero, List.getElem?_cons_succ, decide_false, V.laid, V.cell, V.cells, Nat.zero_add, decide_true, asD, Nat.reduceAdd, Nat.le_refl, lose, V.refs, reduceCtorEq, or_self, not_false_eq_true, and_self, Bool.or_false, cond_false, cond_true]
          · skip
            rw [qSt_ne _ _ _ _ hl0, lp_un f47_L0.eq_1]
            clear hl0
            simp (disch := first | decide | omega | (simp only [LN]; omega) | (simp only [LN]; done) | fail) only [SV, beq_self_eq_true, Nat.reduceBEq, V.own, V.own1, Bool.or_self, V.new, V.new1, D.flat, Bool.or_true, Bool.and_self, V.flatV, V.flat1, Bool.not_true, Bool.and_false, Bool.false_and, view, viewD, h1, Bool.false_eq_true, if_false, evBin, intBin, hq1, if_true, h2, evExt, List.getElem?_cons_zero, List.getElem?_cons_succ, decide_false, V.laid, V.cell, V.cells, Nat.zero_add, decide_true, asD, Nat.reduceAdd, Nat.le_refl, lose, V.forget, V.drop1, beq_iff_eq, V.ref0, reduceCtorEq, V.refs, or_self, not_false_eq_true, and_self, Bool.or_false, cond_false, cond_true]

theorem ev_quoted (K : Cx) (h68 : K68 K) (h70 : K70 K) (s : BS) (i : Nat) (hi : i < s.length) (hs : s.length ≤ 2000000) (hq : bAt (s.drop i) = 34 ∨ bAt (s.drop i) = 39) :
    runFun K f47 [vS s, vI i] [] = some (stV i (quotS (s.drop i)), [], []) := by
  have hn := nth_bAt hi
  have hd1 : s.drop (i + 1) = (s.drop i).drop 1 := dd s i 1
  unfold quotS
  generalize bAt (s.drop i) = q at hn hq ⊢
  have hl := quot_loop K h68 h70 s hs i q hq _ ((s.drop i).drop 1) rfl (i + 1) [] hd1 (by omega) (by simp)
  rw [qSt_nil] at hl
  have hlen : ∀ bs k, quotL q ((s.drop i).drop 1) = some (bs, k) → k + i + 1 < s.length := by
    intro bs k h
    have := quotL_len _ _ _ rfl _ h
    simp only [List.length_drop] at this
    omega
  cases hx : quotL q ((s.drop i).drop 1) with
  | none =>
    rw [hx] at hl
    simp only [qOut] at hl
    simp only
    rw [stV_bad]
    clear hlen hq
    simp (disch := first | decide | omega | (simp only [LN]; omega) | (simp only [LN]; done) | fail) only [SV, f47, Nat.zero_add, Nat.reduceAdd, V.laid, V.cells, if_true, Nat.reduceBEq, beq_self_eq_true, hn, evBin, intBin, cast1, V.refs, not_false_eq_true, and_self, decide_true, Bool.and_self, Bool.or_false, cond_true, hl, List.getElem?_cons_zero, Nat.le_refl, oneOr, Bool.false_eq_true, if_false, finV, finA, finC, nc]
  | some y =>
    obtain ⟨bs, k⟩ := y
    have hk := hlen bs k hx
    rw [hx] at hl
    simp only [qOut, List.nil_append] at hl
    simp only
    have hik : i + 1 + k + 1 = i + (k + 2) := by omega
    rcases hq with rfl | rfl
    · rw [if_pos rfl, stV_tok]
      have e34 : ((34 : UInt8).toNat : Int) = 34 := rfl
      clear hlen
      by_cases hb0 : bs = []
      · subst hb0
        rw [qEnd_nil] at hl
        have hb := b2s_nil
        simp only [e34] at hl hn
        simp (disch := first | decide | omega | (simp only [LN]; omega) | (simp only [LN]; done) | fail) only [SV, f47, Nat.zero_add, Nat.reduceAdd, V.laid, V.cells, if_true, Nat.reduceBEq, beq_self_eq_true, hn, e34, evBin, intBin, cast1, V.refs, not_false_eq_true, and_self, decide_true, Bool.and_self, Bool.or_false, cond_true, hl, hik, e_b2s, hb, evSet, V.cell, Nat.le_refl, lose, List.getElem?_cons_zero, oneOr, Bool.false_eq_true, if_false, finV, finA, finC, nc]
      · rw [qEnd_ne _ _ _ hb0] at hl
        have hb := b2s_bsl [(0, .mix 4 [[vI 0, vS [], vI 0, vI 0]]), (1, .dat true 1 (bs.map eU8))] 1 bs.length true bs rfl rfl
        clear hb0
        simp only [e34] at hl hn
        simp (disch := first | decide | omega | (simp only [LN]; omega) | (simp only [LN]; done) | fail) only [SV, f47, Nat.zero_add, Nat.reduceAdd, V.laid, V.cells, if_true, Nat.reduceBEq, beq_self_eq_true, hn, e34, evBin, intBin, cast1, V.refs, not_false_eq_true, and_self, decide_true, Bool.and_self, Bool.or_false, cond_true, hl, hik, e_b2s, hb, evSet, V.cell, Nat.le_refl, lose, List.getElem?_cons_zero, oneOr, Bool.false_eq_true, if_false, finV, finA, finC, nc]
    · rw [if_neg (by decide)]
      have e39 : ((39 : UInt8).toNat : Int) = 39 := rfl
      clear hlen
      match bs, hl with
      | [], hl =>
        rw [if_neg (by simp), stV_bad]
        rw [qEnd_nil] at hl
        simp only [e39] at hl hn
        simp (disch := first | decide | omega | (simp only [LN]; omega) | (simp only [LN]; done) | fail) only [SV, f47, Nat.zero_add, Nat.reduceAdd, V.laid, V.cells, if_true, Nat.reduceBEq, beq_self_eq_true, hn, e39, evBin, intBin, cast1, V.refs, not_false_eq_true, and_self, decide_true, Bool.and_self, Bool.or_false, cond_true, hl, hik, evLen, nc, Nat.le_refl, lose, List.getElem?_cons_zero, oneOr, Bool.false_eq_true, if_false, finV, finA, finC]
      | [a], hl =>
        rw [if_pos (show [a].length = 1 from rfl), stV_tok]
        rw [qEnd_ne _ _ _ (by simp)] at hl
        simp only [e39] at hl hn
        have hba : bAt [a] = a := rfl
        have hlt := a.toNat_lt
        have hw : IntKind.i64.wrap (a.toNat : Int) = a.toNat := wrap64 (by omega) (by omega)
        simp (disch := first | decide | omega | (simp only [LN]; omega) | (simp only [LN]; done) | fail) only [SV, f47, Nat.zero_add, Nat.reduceAdd, V.laid, V.cells, if_true, Nat.reduceBEq, beq_self_eq_true, hn, e39, evBin, intBin, cast1, V.refs, not_false_eq_true, and_self, decide_true, Bool.and_self, Bool.or_false, cond_true, hl, eU8, hik, evLen, nc, bne_self_eq_false, e_conv, Int.toNat_zero, Nat.add_zero, Blk.row?, List.getElem?_cons_zero, D.flat, evConv, hw, evSet, V.cell, Nat.le_refl, lose, oneOr, Bool.false_eq_true, if_false, finV, finA, finC, hba]
      | a :: b :: bs, hl =>
        rw [if_neg (by simp), stV_bad]
        rw [qEnd_ne _ _ _ (by simp)] at hl
        simp only [e39] at hl hn
        simp (disch := first | decide | omega | (simp only [LN]; omega) | (simp only [LN]; done) | fail) only [SV, f47, Nat.zero_add, Nat.reduceAdd, V.laid, V.cells, if_true, Nat.reduceBEq, beq_self_eq_true, hn, e39, evBin, intBin, cast1, V.refs, not_false_eq_true, and_self, decide_true, Bool.and_self, Bool.or_false, cond_true, hl, hik, evLen, Nat.le_refl, lose, List.getElem?_cons_zero, oneOr, Bool.false_eq_true, if_false, finV, finA, finC, nc]
end Go.Vm
end

section
namespace Go.Vm
set_option maxRecDepth 20000
/- 'sloth/lex.token' -/
def f32 : Fun := ⟨
 (.seq
  (.reg [⟨[(4, .box (.agg (.cons (.int .i64 0) (.cons (.str []) (.cons (.int .i64 0) (.cons (.int .i64 0) .nil))))))], [], [], none, [0, 1, 4], 3, [], [], []⟩])
  (.seq
   (.reg [⟨[(7, .box (.agg (.cons (.int .i64 0) (.cons (.str []) (.cons (.int .i64 0) (.cons (.int .i64 0) .nil))))))], [], [], some (none, .store 4 (.sl 7) (.set 3 1 (.sl 1) (.agg (.cons (.int .i64 0) (.cons (.str []) (.cons (.int .i64 0) (.cons (.int .i64 0) .nil))))))), [0, 1, 4, 7], 4, [], [], []⟩])
   (.seq
    (.reg [⟨[], [(8, (.bin .add (.sl 1) (.int .i64 1)))], [], none, [0, 1, 4, 7], 3, [], [], []⟩])
    (.seq
     (.seq
      (.reg [⟨[], [(16, (.call 27 (.cons (.sl 0) (.cons (.sl 1) .nil))))], [], none, [0, 1, 4, 7, 8], 3, [], [], []⟩])
      (.block 0
       (.seq
        (.reg [⟨[], [(28, (.bin .eql (.sl 16) (.int .u8 1)))], [], none, [0, 1, 4, 7, 8, 16], 2, [], [], []⟩])
        (.cond (.sl 28)
         (.seq
          (.reg [⟨[], [(8, (.call 42 (.cons (.sl 0) (.cons (.sl 1) .nil))))], [], none, [0, 1, 4, 7], 4, [], [], []⟩])
          (.seq
           (.reg [⟨[], [], [], some (none, .store 1 (.fa 0 (.sl 7)) (.int .i64 1)), [0, 1, 4, 7, 8], 2, [], [], []⟩])
           (.seq
            (.reg [⟨[], [(38, (.call 43 (.cons (.cut true true true false 0 (.sl 0) (.sl 1) (.sl 8) .nil) .nil)))], [], none, [0, 1, 4, 7, 8], 5, [], [], []⟩])
            (.cond (.sl 38)
             (.reg [⟨[], [], [], some (none, .store 1 (.fa 0 (.sl 7)) (.int .i64 10)), [0, 1, 4, 7, 8], 2, [], [], []⟩])
             .skip))))
         (.seq
          (.reg [⟨[], [(40, (.bin .eql (.sl 16) (.int .u8 2)))], [], none, [0, 1, 4, 7, 8, 16], 2, [], [], []⟩])
          (.cond (.sl 40)
           (.reg [⟨[], [(47, (.ext 1 (.call 44 (.cons (.sl 0) (.cons (.sl 1) .nil)))))], [], some (none, .store 1 (.fa 0 (.sl 7)) (.ext 0 (.call 44 (.cons (.sl 0) (.cons (.sl 1) .nil))))), [0, 1, 4, 7], 8, [], [], []⟩, ⟨[], [(8, (.sl 47))], [], none, [0, 1, 4, 7], 1, [], [], []⟩])
           (.seq
            (.reg [⟨[], [(49, (.bin .eql (.sl 16) (.int .u8 3)))], [], none, [0, 1, 4, 7, 8, 16], 2, [], [], []⟩])
            (.cond (.sl 49)
             (.seq
              (.reg [⟨[], [(55, (.ext 1 (.call 45 (.cons (.sl 0) (.cons (.sl 1) .nil))))), (56, (.ext 2 (.call 45 (.cons (.sl 0) (.cons (.sl 1) .nil)))))], [], some (none, .store 4 (.sl 4) (.ext 0 (.call 45 (.cons (.sl 0) (.cons (.sl 1) .nil))))), [4], 7, [], [], []⟩, ⟨[], [(5, (.sl 55)), (6, (.sl 56))], [], none, [4], 2, [], [], []⟩])
              (.seq
               (.tidy 0 [4, 5, 6])
               .ret))
             (.seq
              (.reg [⟨[], [(57, (.bin .eql (.sl 16) (.int .u8 5)))], [], none, [0, 1, 4, 7, 8, 16], 2, [], [], []⟩])
              (.cond (.sl 57)
               (.seq
                (.reg [⟨[], [(8, (.call 30 (.cons (.sl 0) (.cons (.sl 1) (.cons (.int .u8 5) .nil)))))], [], none, [0, 1, 4, 7], 4, [], [], []⟩])
                (.seq
                 (.reg [⟨[], [], [], some (none, .store 1 (.fa 0 (.sl 7)) (.int .i64 5)), [0, 1, 4, 7, 8], 2, [], [], []⟩])
                 (.seq
                  (.reg [⟨[], [(9, (.cut true true true false 0 (.sl 0) (.sl 1) (.sl 8) .nil))], [], none, [0, 1, 4, 7, 8], 5, [], [], []⟩])
                  (.block 1
                   (.seq
                    (.reg [⟨[], [(67, (.call 46 (.cons (.sl 9) .nil)))], [], none, [0, 1, 4, 7, 8, 9], 3, [], [], []⟩])
                    (.cond (.sl 67)
                     (.reg [⟨[], [], [], some (none, .store 1 (.fa 0 (.sl 7)) (.int .i64 11)), [0, 1, 4, 7, 8], 2, [], [], []⟩])
                     (.seq
                      (.reg [⟨[], [(71, (.and (.bin .eql (.ix (.sl 9) (.int .i64 0)) (.int .u8 58)) (.bin .neq (.sl 9) (.str [58]))))], [], none, [0, 1, 4, 7, 8], 8, [], [], []⟩])
                      (.cond (.sl 71)
                       (.seq
                        (.reg [⟨[], [], [], some (none, .store 4 (.sl 4) (.agg (.cons (.int .i64 0) (.cons (.str []) (.cons (.int .i64 0) (.cons (.int .i64 0) .nil)))))), [4], 2, [], [], []⟩, ⟨[], [(5, (.int .i64 0)), (6, (.int .i64 14))], [], none, [4], 2, [], [], []⟩])
                        (.seq
                         (.tidy 0 [4, 5, 6])
                         .ret))
                       .skip))))))))
               (.seq
                (.reg [⟨[], [(80, (.bin .eql (.sl 16) (.int .u8 6)))], [], none, [0, 1, 4, 7, 8, 16], 2, [], [], []⟩])
                (.cond (.sl 80)
                 (.reg [⟨[], [], [], some (none, .store 1 (.fa 0 (.sl 7)) (.int .i64 9)), [0, 1, 4, 7, 8], 2, [], [], []⟩])
                 (.seq
                  (.reg [⟨[], [(83, (.bin .eql (.sl 16) (.int .u8 4)))], [], none, [0, 1, 4, 7, 8], 2, [], [], []⟩])
                  (.cond (.sl 83)
                   (.seq
                    (.seq
                     (.reg [⟨[], [(88, (.bin .eql (.ix (.sl 0) (.sl 1)) (.int .u8 39)))], [], none, [0, 1, 4, 7, 8], 4, [], [], []⟩])
                     (.cond (.sl 88)
                      (.seq
                       (.reg [⟨[], [(93, (.ext 1 (.call 47 (.cons (.sl 0) (.cons (.sl 1) .nil))))), (94, (.ext 2 (.call 47 (.cons (.sl 0) (.cons (.sl 1) .nil)))))], [], some (none, .store 4 (.sl 4) (.ext 0 (.call 47 (.cons (.sl 0) (.cons (.sl 1) .nil))))), [4], 7, [], [], []⟩, ⟨[], [(5, (.sl 93)), (6, (.sl 94))], [], none, [4], 2, [], [], []⟩])
                       (.seq
                        (.tidy 0 [4, 5, 6])
                        .ret))
                      .skip))
                    (.seq
                     (.seq
                      (.reg [⟨[], [(97, (.call 48 (.cons (.sl 0) (.cons (.sl 8) .nil))))], [], none, [0, 1, 4, 7, 8], 3, [], [], []⟩])
                      (.cond (.sl 97)
                       (.seq
                        (.reg [⟨[], [], [], some (none, .store 4 (.sl 4) (.agg (.cons (.int .i64 0) (.cons (.str []) (.cons (.int .i64 0) (.cons (.int .i64 0) .nil)))))), [4], 2, [], [], []⟩, ⟨[], [(5, (.int .i64 0)), (6, (.int .i64 10))], [], none, [4], 2, [], [], []⟩])
                        (.seq
                         (.tidy 0 [4, 5, 6])
                         .ret))
                       .skip))
                     (.reg [⟨[], [], [], some (none, .store 1 (.fa 0 (.sl 7)) (.int .i64 9)), [0, 1, 4, 7, 8], 2, [], [], []⟩])))
                   (.seq
                    (.seq
                     (.reg [⟨[], [(20, (.bin .eql (.ix (.sl 0) (.sl 1)) (.int .u8 34)))], [], none, [0, 1, 4], 4, [], [], []⟩])
                     (.cond (.sl 20)
                      (.seq
                       (.reg [⟨[], [(25, (.ext 1 (.call 47 (.cons (.sl 0) (.cons (.sl 1) .nil))))), (26, (.ext 2 (.call 47 (.cons (.sl 0) (.cons (.sl 1) .nil)))))], [], some (none, .store 4 (.sl 4) (.ext 0 (.call 47 (.cons (.sl 0) (.cons (.sl 1) .nil))))), [4], 7, [], [], []⟩, ⟨[], [(5, (.sl 25)), (6, (.sl 26))], [], none, [4], 2, [], [], []⟩])
                       (.seq
                        (.tidy 0 [4, 5, 6])
                        .ret))
                      .skip))
                    (.seq
                     (.reg [⟨[], [], [], some (none, .store 4 (.sl 4) (.agg (.cons (.int .i64 0) (.cons (.str []) (.cons (.int .i64 0) (.cons (.int .i64 0) .nil)))))), [4], 2, [], [], []⟩, ⟨[], [(5, (.int .i64 0)), (6, (.int .i64 10))], [], none, [4], 2, [], [], []⟩])
                     (.seq
                      (.tidy 0 [4, 5, 6])
                      .ret)))))))))))))))))
     (.seq
      (.reg [⟨[], [], [], some (none, .store 1 (.fa 1 (.sl 7)) (.cut true true true false 0 (.sl 0) (.sl 1) (.sl 8) .nil)), [4, 7, 8], 6, [], [], []⟩])
      (.seq
       (.reg [⟨[], [(106, (.sl 8))], [], some (none, .store 4 (.sl 4) (.ld 4 true (.sl 7))), [4], 3, [], [], []⟩, ⟨[], [(5, (.sl 106)), (6, (.int .i64 0))], [], none, [4], 2, [], [], []⟩])
       (.seq
        (.tidy 0 [4, 5, 6])
        .ret))))))),
 [(.ld 4 true (.sl 4)), (.sl 5), (.sl 6)], false⟩
theorem f32_ok : funOk Go.Proofs.Tryd.prog 32 0 2 f32 = true := by kernel_rfl


def K32 (K : Cx) : Prop := ∀ (s : BS) (i : Nat), i < s.length → s.length ≤ 2000000 → K.call 32 [vS s, vI i] = some (stV i (tokS (s.drop i)), [])

theorem ev_token (K : Cx) (h27 : K27 K) (h42 : K42 K) (h43 : K43 K) (h44 : K44 K) (h45 : K45 K) (h30 : K30 K) (h46 : K46 K) (h47 : K47 K) (h48 : K48 K) (s : BS) (i : Nat) (hi : i < s.length) (hs : s.length ≤ 2000000) :
    runFun K f32 [vS s, vI i] [] = some (stV i (tokS (s.drop i)), [], []) := by
  have hlen : (s.drop i).length = s.length - i := List.length_drop ..
  have c0 := h27 s i (by omega)
  have n0 := h42 s i (by omega) hs
  have nle := nameL_le (s.drop i)
  have u0 := h44 s i (by omega) hs
  have d0 := h45 s i hi hs
  have r0 := h30 s i 5 (by omega) hs (by decide)
  have rle := runL_le 5 (s.drop i)
  have q0 := h47 s i hi hs
  have x0 := h48 s (i + 1) (by omega)
  have hn := nth_bAt hi
  have cut := fun k (hk : i + k ≤ s.length) => cut_slh [] s i (i + k) (by omega) hk
  simp only [Nat.add_sub_cancel_left] at cut
  have cutB := fun (H : List (Nat × Blk)) k (hk : i + k ≤ s.length) => cut_slh H s i (i + k) (by omega) hk
  simp only [Nat.add_sub_cancel_left] at cutB
  rw [dd] at x0
  have hur : (upS (s.drop i)).2 ≤ (s.drop i).length := by
    unfold upS
    have a := nameL_le (s.drop i)
    have b := nameL_le ((s.drop i).drop (nameL (s.drop i) + 1))
    rw [List.length_drop] at b
    simp only
    split
    · exact a
    · split
      · split
        · exact a
        · simp only; omega
      · split
        · simp only; omega
        · exact a
  have hne : s.drop i ≠ [] := by rw [ne_eq, List.drop_eq_nil_iff]; omega
  have hr5 : cls (s.drop i) = 5 → 1 ≤ runL 5 (s.drop i) := by
    intro h
    cases hd : s.drop i with
    | nil => exact absurd hd hne
    | cons c t =>
      rw [hd] at h
      have h' : clB c = 5 := h
      simp only [runL]; rw [if_pos h']; omega
  have k43 := h43
  have k46 := h46
  unfold tokS
  generalize s.drop i = r at *
  by_cases g1 : cls r = 1
  · rw [if_pos g1, stV_tok]
    rw [g1] at c0
    have h1 := h43 (r.take (nameL r))
    have h2 := cut (nameL r) (by omega)
    have h3 := fun H => cutB H (nameL r) (by omega)
    clear q0 hr5 cut cutB h43 h46 k43 k46 hne
    generalize nameL r = n at *
    cases g2 : resv (r.take n) with
    | true =>
      rw [g2] at h1
      rw [if_pos rfl]
      simp (disch := first | decide | omega | (simp only [LN]; omega) | (simp only [LN]; done) | fail) only [SV, f32, Nat.zero_add, Nat.reduceAdd, V.laid, V.cells, if_true, Nat.reduceBEq, beq_self_eq_true, evSet, V.cell, Bool.and_self, Nat.le_refl, decide_true, lose, evBin, intBin, cast1, V.own, V.own1, Bool.or_self, V.new, V.new1, D.flat, Bool.or_true, V.flatV, V.flat1, Bool.not_true, Bool.and_false, Bool.false_and, view, viewD, c0, nc, Bool.false_eq_true, if_false, n0, evFa, Nat.add_zero, e_cut, o4_some, h3, h1, List.getElem?_cons_zero, V.refs, not_false_eq_true, and_self, Bool.or_false, cond_true, oneOr, finV, finA, finC]
    | false =>
      rw [g2] at h1
      rw [if_neg (by simp)]
      simp (disch := first | decide | omega | (simp only [LN]; omega) | (simp only [LN]; done) | fail) only [SV, f32, Nat.zero_add, Nat.reduceAdd, V.laid, V.cells, if_true, Nat.reduceBEq, beq_self_eq_true, evSet, V.cell, Bool.and_self, Nat.le_refl, decide_true, lose, evBin, intBin, cast1, V.own, V.own1, Bool.or_self, V.new, V.new1, D.flat, Bool.or_true, V.flatV, V.flat1, Bool.not_true, Bool.and_false, Bool.false_and, view, viewD, c0, nc, Bool.false_eq_true, if_false, n0, evFa, Nat.add_zero, e_cut, o4_some, h3, h1, List.getElem?_cons_zero, V.refs, not_false_eq_true, and_self, Bool.or_false, cond_true, oneOr, finV, finA, finC]
  · rw [if_neg g1]
    have g1' : ¬ ((cls r : Int) = 1) := by omega
    by_cases g2 : cls r = 2
    · rw [if_pos g2, stV_tok]
      rw [g2] at c0
      have h3 := fun H => cutB H (upS r).2 (by omega)
      clear q0 hr5 cut cutB h43 h46 k43 k46 hne g1 g1'
      generalize upS r = u at *
      simp (disch := first | decide | omega | (simp only [LN]; omega) | (simp only [LN]; done) | fail) only [SV, f32, Nat.zero_add, Nat.reduceAdd, V.laid, V.cells, if_true, Nat.reduceBEq, beq_self_eq_true, evSet, V.cell, Bool.and_self, Nat.le_refl, decide_true, lose, evBin, intBin, cast1, V.own, V.own1, Bool.or_self, V.new, V.new1, D.flat, Bool.or_true, V.flatV, V.flat1, Bool.not_true, Bool.and_false, Bool.false_and, view, viewD, c0, nc, Bool.false_eq_true, if_false, u0, evExt, List.getElem?_cons_succ, List.getElem?_cons_zero, evFa, Nat.add_zero, e_cut, o4_some, h3, V.refs, not_false_eq_true, and_self, Bool.or_false, cond_true, oneOr, finV, finA, finC]
    · rw [if_neg g2]
      have g2' : ¬ ((cls r : Int) = 2) := by omega
      by_cases g3 : cls r = 3
      · rw [if_pos g3]
        rw [g3] at c0
        clear q0 hr5 cut cutB h43 h46 k43 k46 hne g1 g1' g2 g2'
        have hns := numS_ns r
        generalize numS r = z at *
        cases z with
        | bad e =>
          rw [stV_bad] at d0 ⊢
          simp (disch := first | decide | omega | (simp only [LN]; omega) | (simp only [LN]; done) | fail) only [SV, f32, Nat.zero_add, Nat.reduceAdd, V.laid, V.cells, if_true, Nat.reduceBEq, beq_self_eq_true, evSet, V.cell, Bool.and_self, Nat.le_refl, decide_true, lose, evBin, intBin, cast1, V.own, V.own1, Bool.or_self, V.new, V.new1, D.flat, Bool.or_true, V.flatV, V.flat1, Bool.not_true, Bool.and_false, Bool.false_and, view, viewD, c0, nc, Bool.false_eq_true, if_false, d0, evExt, List.getElem?_cons_succ, List.getElem?_cons_zero, V.refs, not_false_eq_true, and_self, Bool.or_false, cond_true, oneOr, finV, finA, finC]
        | skip k => exact absurd rfl (hns k)
        | tok k t m n =>
          rw [stV_tok] at d0 ⊢
          simp (disch := first | decide | omega | (simp only [LN]; omega) | (simp only [LN]; done) | fail) only [SV, f32, Nat.zero_add, Nat.reduceAdd, V.laid, V.cells, if_true, Nat.reduceBEq, beq_self_eq_true, evSet, V.cell, Bool.and_self, Nat.le_refl, decide_true, lose, evBin, intBin, cast1, V.own, V.own1, Bool.or_self, V.new, V.new1, D.flat, Bool.or_true, V.flatV, V.flat1, Bool.not_true, Bool.and_false, Bool.false_and, view, viewD, c0, nc, Bool.false_eq_true, if_false, d0, evExt, List.getElem?_cons_succ, List.getElem?_cons_zero, V.refs, not_false_eq_true, and_self, Bool.or_false, cond_true, oneOr, finV, finA, finC]
      · rw [if_neg g3]
        have g3' : ¬ ((cls r : Int) = 3) := by omega
        have noq : stV i (quotS r) = .tup [.agg [vI 0, vS [], vI 0, vI 0], vI 0, vI 0] ∨ True := Or.inr trivial
        clear noq
        by_cases g4 : cls r = 5
        · rw [if_pos g4]
          have hp := hr5 g4
          rw [g4] at c0
          unfold opS
          simp only
          have h1 := h46 (r.take (runL 5 r))
          have h2 := cut (runL 5 r) (by omega)
          have h3 := fun H => cutB H (runL 5 r) (by omega)
          have hxl : (r.take (runL 5 r)).length = runL 5 r := by rw [List.length_take]; omega
          have hn0 : nth (r.take (runL 5 r)) 0 = bAt (r.take (runL 5 r)) := by
            have := nth_bAt (s := r.take (runL 5 r)) (i := 0) (by rw [hxl]; omega)
            rw [List.drop_zero] at this
            exact this
          have hil : i + runL 5 r ≤ s.length := by omega
          have r0 : K.call 30 [vS s, vI i, .d false (.int .u8 5)] = some (vI ((i + runL 5 r : Nat)), []) := r0
          clear q0 hr5 cut cutB h43 h46 k43 k46 hne g1 g1' g2 g2' g3 g3' u0 n0 d0 x0
          generalize r.take (runL 5 r) = x at *
          generalize runL 5 r = n at *
          cases g5 : isSg x with
          | true =>
            rw [g5] at h1
            rw [if_pos rfl, stV_tok]
            simp (disch := first | decide | omega | (simp only [LN]; omega) | (simp only [LN]; done) | fail) only [SV, f32, Nat.zero_add, Nat.reduceAdd, V.laid, V.cells, if_true, Nat.reduceBEq, beq_self_eq_true, evSet, V.cell, Bool.and_self, Nat.le_refl, decide_true, lose, evBin, intBin, cast1, V.own, V.own1, Bool.or_self, V.new, V.new1, D.flat, Bool.or_true, V.flatV, V.flat1, Bool.not_true, Bool.and_false, Bool.false_and, view, viewD, c0, nc, Bool.false_eq_true, if_false, r0, evFa, Nat.add_zero, e_cut, o4_some, h3, h1, List.getElem?_cons_zero, V.refs, not_false_eq_true, and_self, Bool.or_false, cond_true, oneOr, finV, finA, finC]
          | false =>
            rw [g5] at h1
            rw [if_neg (by simp)]
            by_cases g6 : bAt x = 58
            · have g6' := u8y 58 rfl g6
              by_cases g7 : x = [58]
              · rw [if_neg (fun h => h.2 g7), stV_tok]
                have g7' := eq_true g7
                clear g6 g7
                simp (disch := first | decide | omega | (simp only [LN]; omega) | (simp only [LN]; done) | fail) only [SV, f32, Nat.zero_add, Nat.reduceAdd, V.laid, V.cells, if_true, Nat.reduceBEq, beq_self_eq_true, evSet, V.cell, Bool.and_self, Nat.le_refl, decide_true, lose, evBin, intBin, cast1, V.own, V.own1, Bool.or_self, V.new, V.new1, D.flat, Bool.or_true, V.flatV, V.flat1, Bool.not_true, Bool.and_false, Bool.false_and, view, viewD, c0, nc, Bool.false_eq_true, if_false, r0, evFa, Nat.add_zero, e_cut, o4_some, h3, h1, hn0, eq_t, strBin, g7', List.getElem?_cons_zero, V.refs, not_false_eq_true, and_self, Bool.or_false, cond_true, oneOr, finV, finA, finC]
              · rw [if_pos ⟨g6, g7⟩, stV_bad]
                have g7' := eq_false g7
                clear g6 g7
                simp (disch := first | decide | omega | (simp only [LN]; omega) | (simp only [LN]; done) | fail) only [SV, f32, Nat.zero_add, Nat.reduceAdd, V.laid, V.cells, if_true, Nat.reduceBEq, beq_self_eq_true, evSet, V.cell, Bool.and_self, Nat.le_refl, decide_true, lose, evBin, intBin, cast1, V.own, V.own1, Bool.or_self, V.new, V.new1, D.flat, Bool.or_true, V.flatV, V.flat1, Bool.not_true, Bool.and_false, Bool.false_and, view, viewD, c0, nc, Bool.false_eq_true, if_false, r0, evFa, Nat.add_zero, e_cut, o4_some, h3, h1, hn0, eq_t, strBin, g7', decide_false, Bool.not_false, V.refs, not_false_eq_true, and_self, Bool.or_false, cond_true, List.getElem?_cons_zero, oneOr, finV, finA, finC]
            · rw [if_neg (fun h => g6 h.1), stV_tok]
              have g6' := u8n 58 rfl g6
              clear g6
              simp (disch := first | decide | omega | (simp only [LN]; omega) | (simp only [LN]; done) | fail) only [SV, f32, Nat.zero_add, Nat.reduceAdd, V.laid, V.cells, if_true, Nat.reduceBEq, beq_self_eq_true, evSet, V.cell, Bool.and_self, Nat.le_refl, decide_true, lose, evBin, intBin, cast1, V.own, V.own1, Bool.or_self, V.new, V.new1, D.flat, Bool.or_true, V.flatV, V.flat1, Bool.not_true, Bool.and_false, Bool.false_and, view, viewD, c0, nc, Bool.false_eq_true, if_false, r0, evFa, Nat.add_zero, e_cut, o4_some, h3, h1, hn0, strBin, List.getElem?_cons_zero, V.refs, not_false_eq_true, and_self, Bool.or_false, cond_true, oneOr, finV, finA, finC]
        · rw [if_neg g4]
          have g4' : ¬ ((cls r : Int) = 5) := by omega
          have h3 := fun H => cutB H 1 (by omega)
          by_cases g5 : cls r = 6
          · rw [if_pos g5, stV_tok]
            rw [g5] at c0
            clear q0 hr5 cut cutB h43 h46 k43 k46 hne g1 g1' g2 g2' g3 g3' g4 g4'
            simp (disch := first | decide | omega | (simp only [LN]; omega) | (simp only [LN]; done) | fail) only [SV, f32, Nat.zero_add, Nat.reduceAdd, V.laid, V.cells, if_true, Nat.reduceBEq, beq_self_eq_true, evSet, V.cell, Bool.and_self, Nat.le_refl, decide_true, lose, evBin, intBin, cast1, V.own, V.own1, Bool.or_self, V.new, V.new1, D.flat, Bool.or_true, V.flatV, V.flat1, Bool.not_true, Bool.and_false, Bool.false_and, view, viewD, c0, nc, Bool.false_eq_true, if_false, evFa, Nat.add_zero, e_cut, o4_some, h3, List.getElem?_cons_zero, V.refs, not_false_eq_true, and_self, Bool.or_false, cond_true, oneOr, finV, finA, finC]
          · rw [if_neg g5]
            have g5' : ¬ ((cls r : Int) = 6) := by omega
            have hqs := quotS_ns r
            by_cases g6 : cls r = 4
            · rw [if_pos g6]
              rw [g6] at c0
              by_cases g7 : bAt r = 39
              · rw [if_pos g7]
                have q1 := q0 (Or.inr g7)
                have g7' := u8y 39 rfl g7
                clear q0 hr5 cut cutB h43 h46 k43 k46 hne g1 g1' g2 g2' g3 g3' g4 g4' g5 g5' g7
                generalize quotS r = z at *
                cases z with
                | bad e =>
                  rw [stV_bad] at q1 ⊢
                  simp (disch := first | decide | omega | (simp only [LN]; omega) | (simp only [LN]; done) | fail) only [SV, f32, Nat.zero_add, Nat.reduceAdd, V.laid, V.cells, if_true, Nat.reduceBEq, beq_self_eq_true, evSet, V.cell, Bool.and_self, Nat.le_refl, decide_true, lose, evBin, intBin, cast1, V.own, V.own1, Bool.or_self, V.new, V.new1, D.flat, Bool.or_true, V.flatV, V.flat1, Bool.not_true, Bool.and_false, Bool.false_and, view, viewD, c0, nc, Bool.false_eq_true, if_false, hn, eq_t, q1, evExt, List.getElem?_cons_succ, List.getElem?_cons_zero, V.refs, not_false_eq_true, and_self, Bool.or_false, cond_true, oneOr, finV, finA, finC]
                | skip k => exact absurd rfl (hqs k)
                | tok k t m n =>
                  rw [stV_tok] at q1 ⊢
                  simp (disch := first | decide | omega | (simp only [LN]; omega) | (simp only [LN]; done) | fail) only [SV, f32, Nat.zero_add, Nat.reduceAdd, V.laid, V.cells, if_true, Nat.reduceBEq, beq_self_eq_true, evSet, V.cell, Bool.and_self, Nat.le_refl, decide_true, lose, evBin, intBin, cast1, V.own, V.own1, Bool.or_self, V.new, V.new1, D.flat, Bool.or_true, V.flatV, V.flat1, Bool.not_true, Bool.and_false, Bool.false_and, view, viewD, c0, nc, Bool.false_eq_true, if_false, hn, eq_t, q1, evExt, List.getElem?_cons_succ, List.getElem?_cons_zero, V.refs, not_false_eq_true, and_self, Bool.or_false, cond_true, oneOr, finV, finA, finC]
              · rw [if_neg g7]
                have g7' := u8n 39 rfl g7
                clear q0 hr5 cut cutB h43 h46 k43 k46 hne g1 g1' g2 g2' g3 g3' g4 g4' g5 g5' g7 hqs
                cases g8 : inNm (r.drop 1) with
                | true =>
                  rw [g8] at x0
                  rw [if_pos rfl, stV_bad]
                  simp (disch := first | decide | omega | (simp only [LN]; omega) | (simp only [LN]; done) | fail) only [SV, f32, Nat.zero_add, Nat.reduceAdd, V.laid, V.cells, if_true, Nat.reduceBEq, beq_self_eq_true, evSet, V.cell, Bool.and_self, Nat.le_refl, decide_true, lose, evBin, intBin, cast1, V.own, V.own1, Bool.or_self, V.new, V.new1, D.flat, Bool.or_true, V.flatV, V.flat1, Bool.not_true, Bool.and_false, Bool.false_and, view, viewD, c0, nc, Bool.false_eq_true, if_false, hn, x0, V.refs, not_false_eq_true, and_self, Bool.or_false, cond_true, List.getElem?_cons_zero, oneOr, finV, finA, finC]
                | false =>
                  rw [g8] at x0
                  rw [if_neg (by simp), stV_tok]
                  simp (disch := first | decide | omega | (simp only [LN]; omega) | (simp only [LN]; done) | fail) only [SV, f32, Nat.zero_add, Nat.reduceAdd, V.laid, V.cells, if_true, Nat.reduceBEq, beq_self_eq_true, evSet, V.cell, Bool.and_self, Nat.le_refl, decide_true, lose, evBin, intBin, cast1, V.own, V.own1, Bool.or_self, V.new, V.new1, D.flat, Bool.or_true, V.flatV, V.flat1, Bool.not_true, Bool.and_false, Bool.false_and, view, viewD, c0, nc, Bool.false_eq_true, if_false, hn, x0, evFa, Nat.add_zero, e_cut, o4_some, h3, List.getElem?_cons_zero, V.refs, not_false_eq_true, and_self, Bool.or_false, cond_true, oneOr, finV, finA, finC]
            · rw [if_neg g6]
              have g6' : ¬ ((cls r : Int) = 4) := by omega
              by_cases g7 : bAt r = 34
              · rw [if_pos g7]
                have q1 := q0 (Or.inl g7)
                have g7' := u8y 34 rfl g7
                clear q0 hr5 cut cutB h43 h46 k43 k46 hne g1 g2 g3 g4 g5 g7
                generalize quotS r = z at *
                cases z with
                | bad e =>
                  rw [stV_bad] at q1 ⊢
                  simp (disch := first | decide | omega | (simp only [LN]; omega) | (simp only [LN]; done) | fail) only [SV, f32, Nat.zero_add, Nat.reduceAdd, V.laid, V.cells, if_true, Nat.reduceBEq, beq_self_eq_true, evSet, V.cell, Bool.and_self, Nat.le_refl, decide_true, lose, evBin, intBin, cast1, V.own, V.own1, Bool.or_self, V.new, V.new1, D.flat, Bool.or_true, V.flatV, V.flat1, Bool.not_true, Bool.and_false, Bool.false_and, view, viewD, c0, Bool.false_eq_true, if_false, hn, eq_t, q1, evExt, List.getElem?_cons_succ, List.getElem?_cons_zero, V.refs, not_false_eq_true, and_self, Bool.or_false, cond_true, oneOr, finV, finA, finC]
                | skip k => exact absurd rfl (hqs k)
                | tok k t m n =>
                  rw [stV_tok] at q1 ⊢
                  simp (disch := first | decide | omega | (simp only [LN]; omega) | (simp only [LN]; done) | fail) only [SV, f32, Nat.zero_add, Nat.reduceAdd, V.laid, V.cells, if_true, Nat.reduceBEq, beq_self_eq_true, evSet, V.cell, Bool.and_self, Nat.le_refl, decide_true, lose, evBin, intBin, cast1, V.own, V.own1, Bool.or_self, V.new, V.new1, D.flat, Bool.or_true, V.flatV, V.flat1, Bool.not_true, Bool.and_false, Bool.false_and, view, viewD, c0, Bool.false_eq_true, if_false, hn, eq_t, q1, evExt, List.getElem?_cons_succ, List.getElem?_cons_zero, V.refs, not_false_eq_true, and_self, Bool.or_false, cond_true, oneOr, finV, finA, finC]
              · rw [if_neg g7, stV_bad]
                have g7' := u8n 34 rfl g7
                clear q0 hr5 cut cutB h43 h46 k43 k46 hne g1 g2 g3 g4 g5 g7 hqs
                simp (disch := first | decide | omega | (simp only [LN]; omega) | (simp only [LN]; done) | fail) only [SV, f32, Nat.zero_add, Nat.reduceAdd, V.laid, V.cells, if_true, Nat.reduceBEq, beq_self_eq_true, evSet, V.cell, Bool.and_self, Nat.le_refl, decide_true, lose, evBin, intBin, cast1, V.own, V.own1, Bool.or_self, V.new, V.new1, D.flat, Bool.or_true, V.flatV, V.flat1, Bool.not_true, Bool.and_false, Bool.false_and, view, viewD, c0, Bool.false_eq_true, if_false, hn, V.refs, not_false_eq_true, and_self, Bool.or_false, cond_true, List.getElem?_cons_zero, oneOr, finV, finA, finC, nc]
end Go.Vm
end

section
namespace Go.Vm
set_option maxRecDepth 20000
/- 'sloth/lex.Lex' -/
def f13_L0 : C :=
 (.seq
  (.seq
   (.reg [⟨[], [(52, (.and (.bin .lss (.sl 7) (.len true (.sl 0))) (.bin .neq (.ix (.sl 0) (.sl 7)) (.int .u8 10))))], [], none, [0, 4, 5, 7], 10, [], [], []⟩])
   (.cond (.sl 52)
    .skip
    (.seq
     (.tidy 0 [0, 4, 5, 7])
     (.exit 0))))
  (.block 1
   (.reg [⟨[], [(7, (.bin .add (.sl 7) (.int .i64 1)))], [], none, [0, 4, 5], 3, [], [], []⟩])))
def f13_G0 : C :=
 (.seq
  .skip
  (.seq
   (.seq
    (.reg [⟨[], [(18, (.bin .eql (.sl 7) (.len true (.sl 0))))], [], none, [0, 4, 5, 7], 4, [], [], []⟩])
    (.cond (.sl 18)
     (.seq
      (.tidy 0 [4])
      (.goto 0))
     .skip))
   (.seq
    (.seq
     (.reg [⟨[], [(22, (.bin .eql (.call 27 (.cons (.sl 0) (.cons (.sl 7) .nil))) (.int .u8 7)))], [], none, [0, 4, 5, 7], 4, [], [], []⟩])
     (.cond (.sl 22)
      (.seq
       (.reg [⟨[], [(7, (.bin .add (.sl 7) (.int .i64 1)))], [], none, [0, 4, 5], 3, [], [], []⟩])
       (.seq
        (.tidy 0 [0, 4, 5, 7])
        (.goto 1)))
      .skip))
    (.seq
     (.seq
      (.reg [⟨[], [(28, (.call 28 (.cons (.cut true true false false 0 (.sl 0) (.sl 7) .nil .nil) (.cons (.str [123, 45]) .nil))))], [], none, [0, 4, 5, 7], 4, [], [], []⟩])
      (.cond (.sl 28)
       (.seq
        (.seq
         (.reg [⟨[], [(8, (.call 29 (.cons (.sl 0) (.cons (.sl 7) .nil))))], [], none, [0, 4, 5, 7], 4, [], [], []⟩])
         (.seq
          (.reg [⟨[], [(33, (.bin .lss (.sl 8) (.int .i64 0)))], [], none, [0, 4, 5, 7, 8], 2, [], [], []⟩])
          (.cond (.sl 33)
           (.seq
            (.reg [⟨[], [(6, (.int .i64 13))], [], none, [7], 1, [], [], []⟩])
            (.seq
             (.tidy 0 [6, 7])
             (.goto 2)))
           .skip)))
        (.seq
         (.reg [⟨[], [(7, (.sl 8))], [], none, [0, 4, 5], 2, [], [], []⟩])
         (.seq
          (.tidy 0 [0, 4, 5, 7])
          (.goto 1))))
       .skip))
     (.seq
      (.seq
       (.reg [⟨[], [(8, (.call 30 (.cons (.sl 0) (.cons (.sl 7) (.cons (.int .u8 5) .nil)))))], [], none, [0, 4, 5, 7], 4, [], [], []⟩])
       (.seq
        (.reg [⟨[], [(42, (.call 31 (.cons (.cut true true true false 0 (.sl 0) (.sl 7) (.sl 8) .nil) .nil)))], [], none, [0, 4, 5, 7], 5, [], [], []⟩])
        (.cond (.sl 42)
         (.seq
          (.block 0
           (.seq (.tidy 0 [0, 4, 5, 7]) (.loop (.seq (.tidy 0 [0, 4, 5, 7]) f13_L0))))
          (.seq
           (.tidy 0 [0, 4, 5, 7])
           (.goto 1)))
         .skip)))
      (.seq
       (.seq
        (.reg [⟨[], [(60, (.ext 1 (.call 32 (.cons (.sl 0) (.cons (.sl 7) .nil))))), (61, (.ext 2 (.call 32 (.cons (.sl 0) (.cons (.sl 7) .nil)))))], [], some (none, .store 4 (.sl 5) (.ext 0 (.call 32 (.cons (.sl 0) (.cons (.sl 7) .nil))))), [0, 4, 5, 7], 8, [], [], []⟩, ⟨[], [(8, (.sl 60)), (6, (.sl 61))], [], none, [0, 4, 5, 7], 2, [], [], []⟩])
        (.seq
         (.reg [⟨[], [(63, (.bin .neq (.sl 6) (.int .i64 0)))], [], none, [0, 4, 5, 6, 7, 8], 2, [], [], []⟩])
         (.cond (.sl 63)
          (.seq
           (.tidy 0 [6, 7])
           (.goto 2))
          .skip)))
       (.seq
        (.seq
         (.reg [⟨[], [(66, (.bin .eql (.len false (.sl 4)) (.int .i64 20000)))], [], none, [0, 4, 5, 7, 8], 3, [], [], []⟩])
         (.cond (.sl 66)
          (.seq
           (.reg [⟨[], [(6, (.int .i64 4))], [], none, [7], 1, [], [], []⟩])
           (.seq
            (.tidy 0 [6, 7])
            (.goto 2)))
          .skip))
        (.seq
         (.reg [⟨[(69, .lits 4 (.cons (.ld 4 true (.sl 5)) .nil))], [], [], some (some 70, .app 4 (.sl 4) (.sl 69)), [0, 5, 8], 4, [], [], []⟩, ⟨[], [(4, (.sl 70))], [], none, [0, 5, 8], 1, [], [], []⟩])
         (.seq
          (.reg [⟨[], [(7, (.sl 8))], [], none, [0, 4, 5], 2, [], [], []⟩])
          (.seq
           (.seq
            (.tidy 0 [0, 4, 5, 7])
            (.goto 1))
           (.seq
            (.label 2)
            (.seq
             (.seq
              (.reg [⟨[(75, .box (.set 2 1 (.sl 7) (.set 0 1 (.sl 6) (.agg (.cons (.int .i64 0) (.cons (.int .i64 0) (.cons (.int .i64 0) (.cons (.str []) .nil))))))))], [(2, (.nilsl 4)), (3, (.mki 57 (.sl 75)))], [], none, [], 7, [], [], []⟩])
              (.seq
               (.tidy 0 [2, 3])
               .ret))
             (.seq
              (.label 0)
              (.seq
               (.reg [⟨[], [(2, (.sl 4)), (3, .nilif)], [], none, [], 3, [], [], []⟩])
               (.seq
                (.tidy 0 [2, 3])
                .ret)))))))))))))))
def f13_G1 : C :=
 (.seq
  .skip
  (.seq
   (.seq
    (.reg [⟨[(75, .box (.set 2 1 (.sl 7) (.set 0 1 (.sl 6) (.agg (.cons (.int .i64 0) (.cons (.int .i64 0) (.cons (.int .i64 0) (.cons (.str []) .nil))))))))], [(2, (.nilsl 4)), (3, (.mki 57 (.sl 75)))], [], none, [], 7, [], [], []⟩])
    (.seq
     (.tidy 0 [2, 3])
     .ret))
   (.seq
    (.label 0)
    (.seq
     (.reg [⟨[], [(2, (.sl 4)), (3, .nilif)], [], none, [], 3, [], [], []⟩])
     (.seq
      (.tidy 0 [2, 3])
      .ret)))))
def f13_G2 : C :=
 (.seq
  .skip
  (.seq
   (.reg [⟨[], [(2, (.sl 4)), (3, .nilif)], [], none, [], 3, [], [], []⟩])
   (.seq
    (.tidy 0 [2, 3])
    .ret)))
def f13 : Fun := ⟨
 (.seq
  (.reg [⟨[], [], [.nilif, (.nilsl 4)], none, [0], 2, [], [], []⟩])
  (.scope
   (.seq
    (.seq
     (.reg [⟨[], [(11, (.bin .gtr (.len true (.sl 0)) (.int .i64 65536)))], [], none, [0], 3, [], [], []⟩])
     (.cond (.sl 11)
      (.seq
       (.reg [⟨[(13, .box (.set 2 1 (.int .i64 (-1)) (.set 0 1 (.int .i64 2) (.agg (.cons (.int .i64 0) (.cons (.int .i64 0) (.cons (.int .i64 0) (.cons (.str []) .nil))))))))], [(2, (.nilsl 4)), (3, (.mki 57 (.sl 13)))], [], none, [], 5, [], [], []⟩])
       (.seq
        (.tidy 0 [2, 3])
        .ret))
      .skip))
    (.seq
     (.reg [⟨[], [(4, (.nilsl 4))], [], none, [0], 1, [], [], []⟩])
     (.seq
      (.reg [⟨[(5, .box (.agg (.cons (.int .i64 0) (.cons (.str []) (.cons (.int .i64 0) (.cons (.int .i64 0) .nil))))))], [], [], none, [0, 4, 5], 1, [], [], []⟩])
      (.seq
       (.reg [⟨[], [], [(.int .i64 0)], none, [0, 4, 5], 1, [], [], []⟩])
       (.seq
        (.reg [⟨[], [(7, (.int .i64 0))], [], none, [0, 4, 5], 2, [], [], []⟩])
        (.seq
         (.label 1)
         (.seq
          (.seq
           (.reg [⟨[], [(18, (.bin .eql (.sl 7) (.len true (.sl 0))))], [], none, [0, 4, 5, 7], 4, [], [], []⟩])
           (.cond (.sl 18)
            (.seq
             (.tidy 0 [4])
             (.goto 0))
            .skip))
          (.seq
           (.seq
            (.reg [⟨[], [(22, (.bin .eql (.call 27 (.cons (.sl 0) (.cons (.sl 7) .nil))) (.int .u8 7)))], [], none, [0, 4, 5, 7], 4, [], [], []⟩])
            (.cond (.sl 22)
             (.seq
              (.reg [⟨[], [(7, (.bin .add (.sl 7) (.int .i64 1)))], [], none, [0, 4, 5], 3, [], [], []⟩])
              (.seq
               (.tidy 0 [0, 4, 5, 7])
               (.goto 1)))
             .skip))
           (.seq
            (.seq
             (.reg [⟨[], [(28, (.call 28 (.cons (.cut true true false false 0 (.sl 0) (.sl 7) .nil .nil) (.cons (.str [123, 45]) .nil))))], [], none, [0, 4, 5, 7], 4, [], [], []⟩])
             (.cond (.sl 28)
              (.seq
               (.seq
                (.reg [⟨[], [(8, (.call 29 (.cons (.sl 0) (.cons (.sl 7) .nil))))], [], none, [0, 4, 5, 7], 4, [], [], []⟩])
                (.seq
                 (.reg [⟨[], [(33, (.bin .lss (.sl 8) (.int .i64 0)))], [], none, [0, 4, 5, 7, 8], 2, [], [], []⟩])
                 (.cond (.sl 33)
                  (.seq
                   (.reg [⟨[], [(6, (.int .i64 13))], [], none, [7], 1, [], [], []⟩])
                   (.seq
                    (.tidy 0 [6, 7])
                    (.goto 2)))
                  .skip)))
               (.seq
                (.reg [⟨[], [(7, (.sl 8))], [], none, [0, 4, 5], 2, [], [], []⟩])
                (.seq
                 (.tidy 0 [0, 4, 5, 7])
                 (.goto 1))))
              .skip))
            (.seq
             (.seq
              (.reg [⟨[], [(8, (.call 30 (.cons (.sl 0) (.cons (.sl 7) (.cons (.int .u8 5) .nil)))))], [], none, [0, 4, 5, 7], 4, [], [], []⟩])
              (.seq
               (.reg [⟨[], [(42, (.call 31 (.cons (.cut true true true false 0 (.sl 0) (.sl 7) (.sl 8) .nil) .nil)))], [], none, [0, 4, 5, 7], 5, [], [], []⟩])
               (.cond (.sl 42)
                (.seq
                 (.block 0
                  (.seq (.tidy 0 [0, 4, 5, 7]) (.loop (.seq (.tidy 0 [0, 4, 5, 7]) f13_L0))))
                 (.seq
                  (.tidy 0 [0, 4, 5, 7])
                  (.goto 1)))
                .skip)))
             (.seq
              (.seq
               (.reg [⟨[], [(60, (.ext 1 (.call 32 (.cons (.sl 0) (.cons (.sl 7) .nil))))), (61, (.ext 2 (.call 32 (.cons (.sl 0) (.cons (.sl 7) .nil)))))], [], some (none, .store 4 (.sl 5) (.ext 0 (.call 32 (.cons (.sl 0) (.cons (.sl 7) .nil))))), [0, 4, 5, 7], 8, [], [], []⟩, ⟨[], [(8, (.sl 60)), (6, (.sl 61))], [], none, [0, 4, 5, 7], 2, [], [], []⟩])
               (.seq
                (.reg [⟨[], [(63, (.bin .neq (.sl 6) (.int .i64 0)))], [], none, [0, 4, 5, 6, 7, 8], 2, [], [], []⟩])
                (.cond (.sl 63)
                 (.seq
                  (.tidy 0 [6, 7])
                  (.goto 2))
                 .skip)))
              (.seq
               (.seq
                (.reg [⟨[], [(66, (.bin .eql (.len false (.sl 4)) (.int .i64 20000)))], [], none, [0, 4, 5, 7, 8], 3, [], [], []⟩])
                (.cond (.sl 66)
                 (.seq
                  (.reg [⟨[], [(6, (.int .i64 4))], [], none, [7], 1, [], [], []⟩])
                  (.seq
                   (.tidy 0 [6, 7])
                   (.goto 2)))
                 .skip))
               (.seq
                (.reg [⟨[(69, .lits 4 (.cons (.ld 4 true (.sl 5)) .nil))], [], [], some (some 70, .app 4 (.sl 4) (.sl 69)), [0, 5, 8], 4, [], [], []⟩, ⟨[], [(4, (.sl 70))], [], none, [0, 5, 8], 1, [], [], []⟩])
                (.seq
                 (.reg [⟨[], [(7, (.sl 8))], [], none, [0, 4, 5], 2, [], [], []⟩])
                 (.seq
                  (.seq
                   (.tidy 0 [0, 4, 5, 7])
                   (.goto 1))
                  (.seq
                   (.label 2)
                   (.seq
                    (.seq
                     (.reg [⟨[(75, .box (.set 2 1 (.sl 7) (.set 0 1 (.sl 6) (.agg (.cons (.int .i64 0) (.cons (.int .i64 0) (.cons (.int .i64 0) (.cons (.str []) .nil))))))))], [(2, (.nilsl 4)), (3, (.mki 57 (.sl 75)))], [], none, [], 7, [], [], []⟩])
                     (.seq
                      (.tidy 0 [2, 3])
                      .ret))
                    (.seq
                     (.label 0)
                     (.seq
                      (.reg [⟨[], [(2, (.sl 4)), (3, .nilif)], [], none, [], 3, [], [], []⟩])
                      (.seq
                       (.tidy 0 [2, 3])
                       .ret))))))))))))))))))))
   (.lcons 1 f13_G0
    (.lcons 2 f13_G1
     (.lcons 0 f13_G2
      .lnil))))),
 [(.sl 2), (.sl 3)], false⟩
theorem f13_ok : funOk Go.Proofs.Tryd.prog 13 0 1 f13 = true := by kernel_rfl


def eTok (t : Tok) : List D := [.int .i64 t.kind, .str t.text, .int .i64 t.num, .int .i64 t.at_]
def vTok (t : Tok) : List V := [vI t.kind, vS t.text, vI t.num, vI t.at_]
def lxSt (s : BS) (i : Nat) (x : Tok) : List Tok → S
  | [] => ⟨[(0, vS s), (4, .fs true 4 []), (5, .ptr 0 0 0), (7, vI i)], [(0, .mix 4 [vTok x])], 1, []⟩
  | l => ⟨[(0, vS s), (4, .bsl 0 0 l.length), (5, .ptr 1 0 0), (7, vI i)], [(0, .dat true 4 (l.map eTok)), (1, .mix 4 [vTok x])], 2, []⟩
theorem lxSt_nil (s i x) : lxSt s i x [] = ⟨[(0, vS s), (4, .fs true 4 []), (5, .ptr 0 0 0), (7, vI i)], [(0, .mix 4 [vTok x])], 1, []⟩ := rfl
theorem lxSt_ne (s i x) {l : List Tok} (h : l ≠ []) : lxSt s i x l = ⟨[(0, vS s), (4, .bsl 0 0 l.length), (5, .ptr 1 0 0), (7, vI i)], [(0, .dat true 4 (l.map eTok)), (1, .mix 4 [vTok x])], 2, []⟩ := by
  cases l with
  | nil => exact absurd rfl h
  | cons a l => rfl
theorem lxSt_app (s i x) (l : List Tok) (y : Tok) : lxSt s i x (l ++ [y]) = ⟨[(0, vS s), (4, .bsl 0 0 (l.length + 1)), (5, .ptr 1 0 0), (7, vI i)], [(0, .dat true 4 (l.map eTok ++ [eTok y])), (1, .mix 4 [vTok x])], 2, []⟩ := by
  rw [lxSt_ne _ _ _ (by simp)]
  simp
def lxP (s : BS) (i : Nat) (x : Tok) : S := ⟨[(7, vI i), (0, vS s), (4, .fs true 4 []), (5, .ptr 0 0 0)], [(0, .mix 4 [vTok x])], 1, []⟩
def lxDone : List Tok → S
  | [] => ⟨[(4, .fs true 4 [])], [], 0, []⟩
  | l => ⟨[(4, .bsl 0 0 l.length)], [(0, .dat true 4 (l.map eTok))], 1, []⟩
theorem lxDone_nil : lxDone [] = ⟨[(4, .fs true 4 [])], [], 0, []⟩ := rfl
theorem lxDone_ne {l : List Tok} (h : l ≠ []) : lxDone l = ⟨[(4, .bsl 0 0 l.length)], [(0, .dat true 4 (l.map eTok))], 1, []⟩ := by
  cases l with
  | nil => exact absurd rfl h
  | cons a l => rfl
def lxBad (e i : Nat) : S := ⟨[(6, vI e), (7, vI i)], [], 0, []⟩
theorem tokS_bad {r : BS} {e : Nat} (h : tokS r = .bad e) : 10 ≤ e ∧ e ≤ 14 := by
  have quot : quotS r = .bad e → 10 ≤ e ∧ e ≤ 14 := by
    intro h
    unfold quotS at h
    split at h
    · injection h; omega
    · split at h
      · cases h
      · split at h
        · cases h
        · injection h; omega
  unfold tokS at h
  split at h
  · cases h
  · split at h
    · cases h
    · split at h
      · unfold numS at h
        have : ∀ {c : Prop} [Decidable c] {b : St}, (if c then St.bad 11 else b) = .bad e → (∀ e, b ≠ .bad e) → e = 11 := by
          intro c _ b h hb
          split at h
          · injection h with h; exact h.symm
          · exact absurd h (hb e)
        have := this h (fun e h => by cases h)
        omega
      · split at h
        · unfold opS at h
          have : ∀ {c d : Prop} [Decidable c] [Decidable d] {a b : St}, (if c then a else if d then St.bad 14 else b) = .bad e → (∀ e, a ≠ .bad e) → (∀ e, b ≠ .bad e) → e = 14 := by
            intro c d _ _ a b h ha hb
            split at h
            · exact absurd h (ha e)
            · split at h
              · injection h with h; exact h.symm
              · exact absurd h (hb e)
          have := this h (fun e h => by cases h) (fun e h => by cases h)
          omega
        · split at h
          · cases h
          · split at h
            · split at h
              · exact quot h
              · split at h
                · injection h; omega
                · cases h
            · split at h
              · exact quot h
              · injection h; omega

def stepOut (s : BS) (i : Nat) (x : Tok) (l : List Tok) : St → Ex × S
  | .bad e => (.goto 2, lxBad e i)
  | .skip k => (.goto 1, lxSt s (i + k) x l)
  | .tok kd tx nm k => if l.length = 20000 then (.goto 2, lxBad 4 i) else (.goto 1, lxSt s (i + k) ⟨kd, tx, nm, i⟩ (l ++ [⟨kd, tx, nm, i⟩]))

theorem nl_loop_nil (K : Cx) (s : BS) (hs : s.length ≤ 2000000) (x : Tok) : ∀ (r : BS) (i : Nat), s.drop i = r → i ≤ s.length →
    lp K 0 [0, 4, 5, 7] f13_L0 (lxSt s i x []) = some (.exit 0, lxSt s (i + nlL r) x []) := by
  intro r
  induction r with
  | nil =>
    intro i hd hi
    have hlen := congrArg List.length hd
    rw [List.length_drop, List.length_nil] at hlen
    simp only [nlL, Nat.add_zero]
    rw [lxSt_nil, lp_un f13_L0.eq_1]
    skip
    simp (disch := first | decide | omega | (simp only [LN]; omega) | (simp only [LN]; done) | fail) only [SV, vTok, Nat.reduceBEq, beq_self_eq_true, evLen, evBin, intBin, decide_false, if_true, V.refs, not_false_eq_true, and_self, decide_true, Bool.and_self, Bool.or_false, cond_true, Nat.zero_add]
  | cons c r ih =>
    intro i hd hi
    have hlen := congrArg List.length hd
    rw [List.length_drop, List.length_cons] at hlen
    have hn := nth_bAt (s := s) (i := i) (by omega)
    rw [hd] at hn
    have hb : bAt (c :: r) = c := rfl
    rw [hb] at hn
    have ih := ih (i + 1) (by rw [dd, hd]; rfl) (by omega)
    simp only [nlL]
    by_cases g : c = 10
    · rw [if_pos g]
      have g' := u8y 10 rfl g
      simp only [Nat.add_zero]
      rw [lxSt_nil, lp_un f13_L0.eq_1]
      skip
      clear g
      simp (disch := first | decide | omega | (simp only [LN]; omega) | (simp only [LN]; done) | fail) only [SV, vTok, Nat.reduceBEq, beq_self_eq_true, evLen, evBin, intBin, decide_true, if_true, hn, Bool.and_false, V.refs, not_false_eq_true, and_self, Bool.and_self, Bool.or_false, cond_true, Nat.zero_add]
    · rw [if_neg g]
      have g' := u8n 10 rfl g
      rw [show i + (nlL r + 1) = i + 1 + nlL r from by omega, ← ih]
      rw [lxSt_nil, lxSt_nil, lp_un f13_L0.eq_1]
      skip
      clear g ih
      simp (disch := first | decide | omega | (simp only [LN]; omega) | (simp only [LN]; done) | fail) only [SV, vTok, Nat.reduceBEq, beq_self_eq_true, evLen, evBin, intBin, decide_true, if_true, hn, Bool.and_self, cast1, V.refs, not_false_eq_true, and_self, Bool.or_false, cond_true, Nat.zero_add]

theorem lx_end_nil (K : Cx) (s : BS) (hs : s.length ≤ 2000000) (x : Tok) : exec K f13_G0 (lxSt s s.length x []) = some (.goto 0, lxDone []) := by
  rw [lxSt_nil, lxDone_nil]
  skip
  simp (disch := first | decide | omega | (simp only [LN]; omega) | (simp only [LN]; done) | fail) only [SV, f13_G0, vTok, Nat.reduceBEq, beq_self_eq_true, evLen, evBin, intBin, if_true, V.refs, decide_true, Bool.and_self]

theorem lx_step_nil (K : Cx) (h27 : K27 K) (h28 : K28 K) (h29 : K29 K) (h30 : K30 K) (h31 : K31 K) (h32 : K32 K) (s : BS) (hs : s.length ≤ 65536) (i : Nat) (hi : i < s.length) (x : Tok) :
    exec K f13_G0 (lxSt s i x []) = some (stepOut s i x [] (stepS (s.drop i))) := by
  have hlen : (s.drop i).length = s.length - i := List.length_drop ..
  have c0 := h27 s i (by omega)
  have p0 := h28 [123, 45] (s.drop i) (by omega) (by simp)
  have m0 := h29 s i (by omega) (by omega)
  have r0 : K.call 30 [vS s, vI i, .d false (.int .u8 5)] = some (vI ((i + runL 5 (s.drop i) : Nat)), []) := h30 s i 5 (by omega) (by omega) (by decide)
  have rle := runL_le 5 (s.drop i)
  have d0 := h31 ((s.drop i).take (runL 5 (s.drop i))) (by rw [List.length_take]; omega)
  have t0 := h32 s i hi (by omega)
  have tl := fun k t m n => tokS_len (r := s.drop i) (k := k) (t := t) (m := m) (n := n)
  have tb := fun e => tokS_bad (r := s.drop i) (e := e)
  have hcl := fun k => comL_app [] 0 (s.drop i) k
  have cutA := fun H => cut_sl H s i (by omega)
  have cutB := fun (H : List (Nat × Blk)) => cut_slh H s i (i + runL 5 (s.drop i)) (by omega) (by omega)
  simp only [Nat.add_sub_cancel_left] at cutB
  have nl := nl_loop_nil K s (by omega) x (s.drop i) i rfl (by omega)
  have hns := tokS_ns (s.drop i)
  have hi' : ¬ ((i : Int) = (s.length : Int)) := by omega
  unfold stepS
  generalize s.drop i = r at *
  by_cases g1 : cls r = 7
  · rw [if_pos g1]
    rw [g1] at c0
    simp only [stepOut]
    rw [lxSt_nil, lxSt_nil]
    skip
    clear tl tb hcl cutA cutB nl hns
    simp (disch := first | decide | omega | (simp only [LN]; omega) | (simp only [LN]; done) | fail) only [SV, f13_G0, vTok, Nat.reduceBEq, beq_self_eq_true, evLen, evBin, intBin, if_true, V.own, V.own1, Bool.or_self, V.new, V.new1, D.flat, Bool.or_true, Bool.and_self, V.flatV, V.flat1, Bool.not_true, Bool.and_false, Bool.false_and, view, viewD, c0, Bool.false_eq_true, if_false, eq_t, cast1, V.refs, not_false_eq_true, and_self, decide_true, Bool.or_false, cond_true, Nat.zero_add]
  · rw [if_neg g1]
    have g1' : ¬ ((cls r : Int) = 7) := by omega
    cases g2 : pre [123, 45] r with
    | true =>
      rw [if_pos rfl]
      rw [g2] at p0
      cases g3 : comL 0 r with
      | none =>
        rw [g3] at m0
        simp only at m0
        simp only [stepOut, lxBad]
        rw [lxSt_nil]
        skip
        clear tl tb hcl cutB nl hns g1
        simp (disch := first | decide | omega | (simp only [LN]; omega) | (simp only [LN]; done) | fail) only [SV, f13_G0, vTok, Nat.reduceBEq, beq_self_eq_true, evLen, evBin, intBin, if_true, V.own, V.own1, Bool.or_self, V.new, V.new1, D.flat, Bool.or_true, Bool.and_self, V.flatV, V.flat1, Bool.not_true, Bool.and_false, Bool.false_and, view, viewD, c0, Bool.false_eq_true, if_false, e_cut, o4_some, cutA, p0, m0, Int.reduceNeg, decide_true, V.refs, nc]
      | some k =>
        rw [g3] at m0
        simp only at m0
        have hk := (hcl k g3).2
        simp only [stepOut]
        rw [lxSt_nil, lxSt_nil]
        skip
        clear tl tb hcl cutB nl hns g1
        have hik : ¬ (((i + k : Nat) : Int) < 0) := by omega
        simp (disch := first | decide | omega | (simp only [LN]; omega) | (simp only [LN]; done) | fail) only [SV, f13_G0, vTok, Nat.reduceBEq, beq_self_eq_true, evLen, evBin, intBin, if_true, V.own, V.own1, Bool.or_self, V.new, V.new1, D.flat, Bool.or_true, Bool.and_self, V.flatV, V.flat1, Bool.not_true, Bool.and_false, Bool.false_and, view, viewD, c0, Bool.false_eq_true, if_false, e_cut, o4_some, cutA, p0, m0, decide_false, V.refs, not_false_eq_true, and_self, decide_true, Bool.or_false, cond_true, Nat.zero_add]
    | false =>
      rw [if_neg (by simp)]
      rw [g2] at p0
      cases g3 : dsh (r.take (runL 5 r)) with
      | true =>
        rw [if_pos rfl]
        rw [g3] at d0
        simp only [stepOut]
        rw [lxSt_nil, lxSt_nil] at nl
        rw [lxSt_nil, lxSt_nil]
        skip
        clear tl tb hcl hns g1
        simp only [vTok] at nl
        simp (disch := first | decide | omega | (simp only [LN]; omega) | (simp only [LN]; done) | fail) only [SV, f13_G0, vTok, Nat.reduceBEq, beq_self_eq_true, evLen, evBin, intBin, if_true, V.own, V.own1, Bool.or_self, V.new, V.new1, D.flat, Bool.or_true, Bool.and_self, V.flatV, V.flat1, Bool.not_true, Bool.and_false, Bool.false_and, view, viewD, c0, Bool.false_eq_true, if_false, e_cut, o4_some, cutA, p0, r0, cutB, d0, V.refs, not_false_eq_true, and_self, decide_true, Bool.or_false, cond_true, Nat.zero_add, nl]
      | false =>
        rw [if_neg (by simp)]
        rw [g3] at d0
        cases g4 : tokS r with
        | skip k => exact absurd g4 (hns k)
        | bad e =>
          have he := tb e g4
          rw [g4, stV_bad] at t0
          simp only [stepOut, lxBad]
          rw [lxSt_nil]
          skip
          clear tl tb hcl nl hns g1
          have he' : ¬ ((e : Int) = 0) := by omega
          simp (disch := first | decide | omega | (simp only [LN]; omega) | (simp only [LN]; done) | fail) only [SV, f13_G0, vTok, Nat.reduceBEq, beq_self_eq_true, evLen, evBin, intBin, if_true, V.own, V.own1, Bool.or_self, V.new, V.new1, D.flat, Bool.or_true, Bool.and_self, V.flatV, V.flat1, Bool.not_true, Bool.and_false, Bool.false_and, view, viewD, c0, Bool.false_eq_true, if_false, e_cut, o4_some, cutA, p0, r0, cutB, d0, t0, evExt, List.getElem?_cons_succ, List.getElem?_cons_zero, V.laid, V.cells, Nat.zero_add, Nat.reduceAdd, Nat.le_refl, lose, V.refs, decide_true]
        | tok k t m n =>
          have hn := tl k t m n g4
          rw [g4, stV_tok] at t0
          simp only [stepOut]
          clear tl tb hcl nl hns g1
          rw [if_neg (by simp)]
          rw [lxSt_nil, lxSt_app]
          simp (disch := first | decide | omega | (simp only [LN]; omega) | (simp only [LN]; done) | fail) only [SV, f13_G0, vTok, Nat.reduceBEq, beq_self_eq_true, evLen, evBin, intBin, if_true, V.own, V.own1, Bool.or_self, V.new, V.new1, D.flat, Bool.or_true, Bool.and_self, V.flatV, V.flat1, Bool.not_true, Bool.and_false, Bool.false_and, view, viewD, c0, Bool.false_eq_true, if_false, e_cut, o4_some, cutA, p0, r0, cutB, d0, t0, evExt, List.getElem?_cons_succ, List.getElem?_cons_zero, V.laid, V.cells, Nat.zero_add, Nat.reduceAdd, Nat.le_refl, lose, bne_self_eq_false, nc, V.cell, decide_true, asD, V.refs, reduceCtorEq, or_self, not_false_eq_true, and_self, Bool.or_false, cond_false, cond_true, eTok]

theorem nl_loop_ne (K : Cx) (s : BS) (hs : s.length ≤ 2000000) (x : Tok) (l : List Tok) (hl : l ≠ []) : ∀ (r : BS) (i : Nat), s.drop i = r → i ≤ s.length →
    lp K 0 [0, 4, 5, 7] f13_L0 (lxSt s i x l) = some (.exit 0, lxSt s (i + nlL r) x l) := by
  intro r
  induction r with
  | nil =>
    intro i hd hi
    have hlen := congrArg List.length hd
    rw [List.length_drop, List.length_nil] at hlen
    simp only [nlL, Nat.add_zero]
    rw [lxSt_ne _ _ _ hl, lp_un f13_L0.eq_1]
    clear hl
    simp (disch := first | decide | omega | (simp only [LN]; omega) | (simp only [LN]; done) | fail) only [SV, vTok, Nat.reduceBEq, beq_self_eq_true, evLen, evBin, intBin, decide_false, if_true, V.refs, Bool.or_self, reduceCtorEq, or_self, not_false_eq_true, and_self, decide_true, Bool.and_self, Bool.or_false, Bool.or_true, cond_false, cond_true, Nat.zero_add, Nat.reduceAdd]
  | cons c r ih =>
    intro i hd hi
    have hlen := congrArg List.length hd
    rw [List.length_drop, List.length_cons] at hlen
    have hn := nth_bAt (s := s) (i := i) (by omega)
    rw [hd] at hn
    have hb : bAt (c :: r) = c := rfl
    rw [hb] at hn
    have ih := ih (i + 1) (by rw [dd, hd]; rfl) (by omega)
    simp only [nlL]
    by_cases g : c = 10
    · rw [if_pos g]
      have g' := u8y 10 rfl g
      simp only [Nat.add_zero]
      rw [lxSt_ne _ _ _ hl, lp_un f13_L0.eq_1]
      clear hl
      clear g
      simp (disch := first | decide | omega | (simp only [LN]; omega) | (simp only [LN]; done) | fail) only [SV, vTok, Nat.reduceBEq, beq_self_eq_true, evLen, evBin, intBin, decide_true, if_true, hn, Bool.and_false, V.refs, Bool.or_self, reduceCtorEq, or_self, not_false_eq_true, and_self, Bool.and_self, Bool.or_false, Bool.or_true, cond_false, cond_true, Nat.zero_add, Nat.reduceAdd]
    · rw [if_neg g]
      have g' := u8n 10 rfl g
      rw [show i + (nlL r + 1) = i + 1 + nlL r from by omega, ← ih]
      rw [lxSt_ne _ _ _ hl, lxSt_ne _ _ _ hl, lp_un f13_L0.eq_1]
      clear hl
      clear g ih
      simp (disch := first | decide | omega | (simp only [LN]; omega) | (simp only [LN]; done) | fail) only [SV, vTok, Nat.reduceBEq, beq_self_eq_true, evLen, evBin, intBin, decide_true, if_true, hn, Bool.and_self, cast1, V.refs, Bool.or_self, reduceCtorEq, or_self, not_false_eq_true, and_self, Bool.or_false, Bool.or_true, cond_false, cond_true, Nat.zero_add, Nat.reduceAdd]

theorem lx_end_ne (K : Cx) (s : BS) (hs : s.length ≤ 2000000) (x : Tok) (l : List Tok) (hl : l ≠ []) : exec K f13_G0 (lxSt s s.length x l) = some (.goto 0, lxDone l) := by
  rw [lxSt_ne _ _ _ hl, lxDone_ne hl]
  clear hl
  simp (disch := first | decide | omega | (simp only [LN]; omega) | (simp only [LN]; done) | fail) only [SV, f13_G0, vTok, Nat.reduceBEq, beq_self_eq_true, evLen, evBin, intBin, if_true, V.refs, not_false_eq_true, and_self, decide_true, Bool.and_self, Bool.or_false, cond_true, Nat.zero_add]

theorem lx_step_ne (K : Cx) (h27 : K27 K) (h28 : K28 K) (h29 : K29 K) (h30 : K30 K) (h31 : K31 K) (h32 : K32 K) (s : BS) (hs : s.length ≤ 65536) (i : Nat) (hi : i < s.length) (x : Tok) (l : List Tok) (hl : l ≠ []) (hll : l.length ≤ 20000):
    exec K f13_G0 (lxSt s i x l) = some (stepOut s i x l (stepS (s.drop i))) := by
  have hlen : (s.drop i).length = s.length - i := List.length_drop ..
  have c0 := h27 s i (by omega)
  have p0 := h28 [123, 45] (s.drop i) (by omega) (by simp)
  have m0 := h29 s i (by omega) (by omega)
  have r0 : K.call 30 [vS s, vI i, .d false (.int .u8 5)] = some (vI ((i + runL 5 (s.drop i) : Nat)), []) := h30 s i 5 (by omega) (by omega) (by decide)
  have rle := runL_le 5 (s.drop i)
  have d0 := h31 ((s.drop i).take (runL 5 (s.drop i))) (by rw [List.length_take]; omega)
  have t0 := h32 s i hi (by omega)
  have tl := fun k t m n => tokS_len (r := s.drop i) (k := k) (t := t) (m := m) (n := n)
  have tb := fun e => tokS_bad (r := s.drop i) (e := e)
  have hcl := fun k => comL_app [] 0 (s.drop i) k
  have cutA := fun H => cut_sl H s i (by omega)
  have cutB := fun (H : List (Nat × Blk)) => cut_slh H s i (i + runL 5 (s.drop i)) (by omega) (by omega)
  simp only [Nat.add_sub_cancel_left] at cutB
  have nl := nl_loop_ne K s (by omega) x l hl (s.drop i) i rfl (by omega)
  have hns := tokS_ns (s.drop i)
  have hi' : ¬ ((i : Int) = (s.length : Int)) := by omega
  unfold stepS
  generalize s.drop i = r at *
  by_cases g1 : cls r = 7
  · rw [if_pos g1]
    rw [g1] at c0
    simp only [stepOut]
    rw [lxSt_ne _ _ _ hl, lxSt_ne _ _ _ hl]
    clear hl
    clear tl tb hcl cutA cutB nl hns
    simp (disch := first | decide | omega | (simp only [LN]; omega) | (simp only [LN]; done) | fail) only [SV, f13_G0, vTok, Nat.reduceBEq, beq_self_eq_true, evLen, evBin, intBin, if_true, V.own, V.own1, Bool.or_self, V.new, V.new1, D.flat, Bool.or_true, Bool.and_self, V.flatV, V.flat1, Bool.not_true, Bool.and_false, Bool.false_and, view, viewD, c0, Bool.false_eq_true, if_false, eq_t, cast1, V.refs, reduceCtorEq, or_self, not_false_eq_true, and_self, decide_true, Bool.or_false, cond_false, cond_true, Nat.zero_add, Nat.reduceAdd]
  · rw [if_neg g1]
    have g1' : ¬ ((cls r : Int) = 7) := by omega
    cases g2 : pre [123, 45] r with
    | true =>
      rw [if_pos rfl]
      rw [g2] at p0
      cases g3 : comL 0 r with
      | none =>
        rw [g3] at m0
        simp only at m0
        simp only [stepOut, lxBad]
        rw [lxSt_ne _ _ _ hl]
        clear hl
        clear tl tb hcl cutB nl hns g1
        simp (disch := first | decide | omega | (simp only [LN]; omega) | (simp only [LN]; done) | fail) only [SV, f13_G0, vTok, Nat.reduceBEq, beq_self_eq_true, evLen, evBin, intBin, if_true, V.own, V.own1, Bool.or_self, V.new, V.new1, D.flat, Bool.or_true, Bool.and_self, V.flatV, V.flat1, Bool.not_true, Bool.and_false, Bool.false_and, view, viewD, c0, Bool.false_eq_true, if_false, e_cut, o4_some, cutA, p0, m0, Int.reduceNeg, decide_true, V.refs, nc]
      | some k =>
        rw [g3] at m0
        simp only at m0
        have hk := (hcl k g3).2
        simp only [stepOut]
        rw [lxSt_ne _ _ _ hl, lxSt_ne _ _ _ hl]
        clear hl
        clear tl tb hcl cutB nl hns g1
        have hik : ¬ (((i + k : Nat) : Int) < 0) := by omega
        simp (disch := first | decide | omega | (simp only [LN]; omega) | (simp only [LN]; done) | fail) only [SV, f13_G0, vTok, Nat.reduceBEq, beq_self_eq_true, evLen, evBin, intBin, if_true, V.own, V.own1, Bool.or_self, V.new, V.new1, D.flat, Bool.or_true, Bool.and_self, V.flatV, V.flat1, Bool.not_true, Bool.and_false, Bool.false_and, view, viewD, c0, Bool.false_eq_true, if_false, e_cut, o4_some, cutA, p0, m0, decide_false, V.refs, reduceCtorEq, or_self, not_false_eq_true, and_self, decide_true, Bool.or_false, cond_false, cond_true, Nat.zero_add, Nat.reduceAdd]
    | false =>
      rw [if_neg (by simp)]
      rw [g2] at p0
      cases g3 : dsh (r.take (runL 5 r)) with
      | true =>
        rw [if_pos rfl]
        rw [g3] at d0
        simp only [stepOut]
        rw [lxSt_ne _ _ _ hl, lxSt_ne _ _ _ hl] at nl
        rw [lxSt_ne _ _ _ hl, lxSt_ne _ _ _ hl]
        clear hl
        clear tl tb hcl hns g1
        simp only [vTok] at nl
        simp (disch := first | decide | omega | (simp only [LN]; omega) | (simp only [LN]; done) | fail) only [SV, f13_G0, vTok, Nat.reduceBEq, beq_self_eq_true, evLen, evBin, intBin, if_true, V.own, V.own1, Bool.or_self, V.new, V.new1, D.flat, Bool.or_true, Bool.and_self, V.flatV, V.flat1, Bool.not_true, Bool.and_false, Bool.false_and, view, viewD, c0, Bool.false_eq_true, if_false, e_cut, o4_some, cutA, p0, r0, cutB, d0, V.refs, reduceCtorEq, or_self, not_false_eq_true, and_self, decide_true, Bool.or_false, cond_false, cond_true, Nat.zero_add, Nat.reduceAdd, nl]
      | false =>
        rw [if_neg (by simp)]
        rw [g3] at d0
        cases g4 : tokS r with
        | skip k => exact absurd g4 (hns k)
        | bad e =>
          have he := tb e g4
          rw [g4, stV_bad] at t0
          simp only [stepOut, lxBad]
          rw [lxSt_ne _ _ _ hl]
          clear hl
          clear tl tb hcl nl hns g1
          have he' : ¬ ((e : Int) = 0) := by omega
          simp (disch := first | decide | omega | (simp only [LN]; omega) | (simp only [LN]; done) | fail) only [SV, f13_G0, vTok, Nat.reduceBEq, beq_self_eq_true, evLen, evBin, intBin, if_true, V.own, V.own1, Bool.or_self, V.new, V.new1, D.flat, Bool.or_true, Bool.and_self, V.flatV, V.flat1, Bool.not_true, Bool.and_false, Bool.false_and, view, viewD, c0, Bool.false_eq_true, if_false, e_cut, o4_some, cutA, p0, r0, cutB, d0, t0, evExt, List.getElem?_cons_succ, List.getElem?_cons_zero, V.laid, V.cells, Nat.zero_add, Nat.reduceAdd, Nat.le_refl, lose, V.refs, decide_true]
        | tok k t m n =>
          have hn := tl k t m n g4
          rw [g4, stV_tok] at t0
          simp only [stepOut]
          clear tl tb hcl nl hns g1
          by_cases g5 : l.length = 20000
          · rw [if_pos g5]
            simp only [lxBad]
            rw [lxSt_ne _ _ _ hl]
            clear hl
            simp (disch := first | decide | omega | (simp only [LN]; omega) | (simp only [LN]; done) | fail) only [SV, f13_G0, vTok, Nat.reduceBEq, beq_self_eq_true, evLen, evBin, intBin, if_true, V.own, V.own1, Bool.or_self, V.new, V.new1, D.flat, Bool.or_true, Bool.and_self, V.flatV, V.flat1, Bool.not_true, Bool.and_false, Bool.false_and, view, viewD, c0, Bool.false_eq_true, if_false, e_cut, o4_some, cutA, p0, r0, cutB, d0, t0, evExt, List.getElem?_cons_succ, List.getElem?_cons_zero, V.laid, V.cells, Nat.zero_add, Nat.reduceAdd, Nat.le_refl, lose, bne_self_eq_false, eq_t, V.refs, decide_true, nc]
          · rw [if_neg g5]
            rw [lxSt_ne _ _ _ hl, lxSt_app]
            clear hl
            have g5' : ¬ ((l.length : Int) = 20000) := by omega
            have key : ∀ y : Tok, List.map eTok l ++ [eTok y] = List.map eTok (l ++ [y]) := fun y => by simp
            simp (disch := first | decide | omega | (simp only [LN]; omega) | (simp only [LN]; done) | fail) only [SV, f13_G0, vTok, Nat.reduceBEq, beq_self_eq_true, evLen, evBin, intBin, if_true, V.own, V.own1, Bool.or_self, V.new, V.new1, D.flat, Bool.or_true, Bool.and_self, V.flatV, V.flat1, Bool.not_true, Bool.and_false, Bool.false_and, view, viewD, c0, Bool.false_eq_true, if_false, e_cut, o4_some, cutA, p0, r0, cutB, d0, t0, evExt, List.getElem?_cons_succ, List.getElem?_cons_zero, V.laid, V.cells, Nat.zero_add, Nat.reduceAdd, Nat.le_refl, lose, bne_self_eq_false, V.cell, decide_true, asD, V.forget, V.drop1, beq_iff_eq, V.ref0, reduceCtorEq, V.refs, or_self, not_false_eq_true, and_self, Bool.or_false, cond_false, cond_true, eTok]

theorem lx_end_st (K : Cx) (s : BS) (hs : s.length ≤ 2000000) (x : Tok) : exec K f13_G0 (lxP s s.length x) = some (.goto 0, lxDone []) := by
  rw [lxP, lxDone_nil]
  skip
  simp (disch := first | decide | omega | (simp only [LN]; omega) | (simp only [LN]; done) | fail) only [SV, f13_G0, vTok, beq_self_eq_true, Nat.reduceBEq, evLen, evBin, intBin, if_true, V.refs, decide_true, Bool.and_self]

theorem lx_step_st (K : Cx) (h27 : K27 K) (h28 : K28 K) (h29 : K29 K) (h30 : K30 K) (h31 : K31 K) (h32 : K32 K) (s : BS) (hs : s.length ≤ 65536) (i : Nat) (hi : i < s.length) (x : Tok) :
    exec K f13_G0 (lxP s i x) = some (stepOut s i x [] (stepS (s.drop i))) := by
  have hlen : (s.drop i).length = s.length - i := List.length_drop ..
  have c0 := h27 s i (by omega)
  have p0 := h28 [123, 45] (s.drop i) (by omega) (by simp)
  have m0 := h29 s i (by omega) (by omega)
  have r0 : K.call 30 [vS s, vI i, .d false (.int .u8 5)] = some (vI ((i + runL 5 (s.drop i) : Nat)), []) := h30 s i 5 (by omega) (by omega) (by decide)
  have rle := runL_le 5 (s.drop i)
  have d0 := h31 ((s.drop i).take (runL 5 (s.drop i))) (by rw [List.length_take]; omega)
  have t0 := h32 s i hi (by omega)
  have tl := fun k t m n => tokS_len (r := s.drop i) (k := k) (t := t) (m := m) (n := n)
  have tb := fun e => tokS_bad (r := s.drop i) (e := e)
  have hcl := fun k => comL_app [] 0 (s.drop i) k
  have cutA := fun H => cut_sl H s i (by omega)
  have cutB := fun (H : List (Nat × Blk)) => cut_slh H s i (i + runL 5 (s.drop i)) (by omega) (by omega)
  simp only [Nat.add_sub_cancel_left] at cutB
  have nl := nl_loop_nil K s (by omega) x (s.drop i) i rfl (by omega)
  have hns := tokS_ns (s.drop i)
  have hi' : ¬ ((i : Int) = (s.length : Int)) := by omega
  unfold stepS
  generalize s.drop i = r at *
  by_cases g1 : cls r = 7
  · rw [if_pos g1]
    rw [g1] at c0
    simp only [stepOut]
    rw [lxP, lxSt_nil]
    skip
    clear tl tb hcl cutA cutB nl hns
    simp (disch := first | decide | omega | (simp only [LN]; omega) | (simp only [LN]; done) | fail) only [SV, f13_G0, vTok, beq_self_eq_true, Nat.reduceBEq, evLen, evBin, intBin, if_true, V.own, V.own1, Bool.or_self, V.new, V.new1, D.flat, Bool.or_true, Bool.and_self, V.flatV, V.flat1, Bool.not_true, Bool.and_false, Bool.false_and, view, viewD, c0, Bool.false_eq_true, if_false, eq_t, cast1, V.refs, not_false_eq_true, and_self, decide_true, Bool.or_false, cond_true, Nat.zero_add]
  · rw [if_neg g1]
    have g1' : ¬ ((cls r : Int) = 7) := by omega
    cases g2 : pre [123, 45] r with
    | true =>
      rw [if_pos rfl]
      rw [g2] at p0
      cases g3 : comL 0 r with
      | none =>
        rw [g3] at m0
        simp only at m0
        simp only [stepOut, lxBad]
        rw [lxP]
        skip
        clear tl tb hcl cutB nl hns g1
        simp (disch := first | decide | omega | (simp only [LN]; omega) | (simp only [LN]; done) | fail) only [SV, f13_G0, vTok, beq_self_eq_true, Nat.reduceBEq, evLen, evBin, intBin, if_true, V.own, V.own1, Bool.or_self, V.new, V.new1, D.flat, Bool.or_true, Bool.and_self, V.flatV, V.flat1, Bool.not_true, Bool.and_false, Bool.false_and, view, viewD, c0, Bool.false_eq_true, if_false, e_cut, o4_some, cutA, p0, m0, Int.reduceNeg, decide_true, V.refs, nc]
      | some k =>
        rw [g3] at m0
        simp only at m0
        have hk := (hcl k g3).2
        simp only [stepOut]
        rw [lxP, lxSt_nil]
        skip
        clear tl tb hcl cutB nl hns g1
        have hik : ¬ (((i + k : Nat) : Int) < 0) := by omega
        simp (disch := first | decide | omega | (simp only [LN]; omega) | (simp only [LN]; done) | fail) only [SV, f13_G0, vTok, beq_self_eq_true, Nat.reduceBEq, evLen, evBin, intBin, if_true, V.own, V.own1, Bool.or_self, V.new, V.new1, D.flat, Bool.or_true, Bool.and_self, V.flatV, V.flat1, Bool.not_true, Bool.and_false, Bool.false_and, view, viewD, c0, Bool.false_eq_true, if_false, e_cut, o4_some, cutA, p0, m0, decide_false, V.refs, not_false_eq_true, and_self, decide_true, Bool.or_false, cond_true, Nat.zero_add]
    | false =>
      rw [if_neg (by simp)]
      rw [g2] at p0
      cases g3 : dsh (r.take (runL 5 r)) with
      | true =>
        rw [if_pos rfl]
        rw [g3] at d0
        simp only [stepOut]
        rw [lxSt_nil, lxSt_nil] at nl
        rw [lxP, lxSt_nil]
        skip
        clear tl tb hcl hns g1
        simp only [vTok] at nl
        simp (disch := first | decide | omega | (simp only [LN]; omega) | (simp only [LN]; done) | fail) only [SV, f13_G0, vTok, beq_self_eq_true, Nat.reduceBEq, evLen, evBin, intBin, if_true, V.own, V.own1, Bool.or_self, V.new, V.new1, D.flat, Bool.or_true, Bool.and_self, V.flatV, V.flat1, Bool.not_true, Bool.and_false, Bool.false_and, view, viewD, c0, Bool.false_eq_true, if_false, e_cut, o4_some, cutA, p0, r0, cutB, d0, V.refs, not_false_eq_true, and_self, decide_true, Bool.or_false, cond_true, Nat.zero_add, nl]
      | false =>
        rw [if_neg (by simp)]
        rw [g3] at d0
        cases g4 : tokS r with
        | skip k => exact absurd g4 (hns k)
        | bad e =>
          have he := tb e g4
          rw [g4, stV_bad] at t0
          simp only [stepOut, lxBad]
          rw [lxP]
          skip
          clear tl tb hcl nl hns g1
          have he' : ¬ ((e : Int) = 0) := by omega
          simp (disch := first | decide | omega | (simp only [LN]; omega) | (simp only [LN]; done) | fail) only [SV, f13_G0, vTok, beq_self_eq_true, Nat.reduceBEq, evLen, evBin, intBin, if_true, V.own, V.own1, Bool.or_self, V.new, V.new1, D.flat, Bool.or_true, Bool.and_self, V.flatV, V.flat1, Bool.not_true, Bool.and_false, Bool.false_and, view, viewD, c0, Bool.false_eq_true, if_false, e_cut, o4_some, cutA, p0, r0, cutB, d0, t0, evExt, List.getElem?_cons_succ, List.getElem?_cons_zero, V.laid, V.cells, Nat.zero_add, Nat.reduceAdd, Nat.le_refl, lose, V.refs, decide_true]
        | tok k t m n =>
          have hn := tl k t m n g4
          rw [g4, stV_tok] at t0
          simp only [stepOut]
          clear tl tb hcl nl hns g1
          rw [if_neg (by simp)]
          rw [lxP, lxSt_app]
          simp (disch := first | decide | omega | (simp only [LN]; omega) | (simp only [LN]; done) | fail) only [SV, f13_G0, vTok, beq_self_eq_true, Nat.reduceBEq, evLen, evBin, intBin, if_true, V.own, V.own1, Bool.or_self, V.new, V.new1, D.flat, Bool.or_true, Bool.and_self, V.flatV, V.flat1, Bool.not_true, Bool.and_false, Bool.false_and, view, viewD, c0, Bool.false_eq_true, if_false, e_cut, o4_some, cutA, p0, r0, cutB, d0, t0, evExt, List.getElem?_cons_succ, List.getElem?_cons_zero, V.laid, V.cells, Nat.zero_add, Nat.reduceAdd, Nat.le_refl, lose, bne_self_eq_false, nc, V.cell, decide_true, asD, V.refs, reduceCtorEq, or_self, not_false_eq_true, and_self, Bool.or_false, cond_false, cond_true, eTok]
end Go.Vm
end

section
namespace Go.Vm
set_option maxRecDepth 20000

noncomputable def lxLab (K : Cx) : Nat → Option (S → Option (Ex × S)) := fun l => exec.labelled K (.lcons 1 f13_G0 (.lcons 2 f13_G1 (.lcons 0 f13_G2 .lnil))) l
theorem lab1 (K : Cx) : lxLab K 1 = some (exec K f13_G0) := by simp [lxLab, exec.labelled]
theorem lab2 (K : Cx) : lxLab K 2 = some (exec K f13_G1) := by simp [lxLab, exec.labelled]
theorem lab0 (K : Cx) : lxLab K 0 = some (exec K f13_G2) := by simp [lxLab, exec.labelled]

def lexOut : LR → Ex × S
  | .bad e i => (.ret, ⟨[(2, .fs true 4 []), (3, .iface 57 (.ptr 0 0 0))], [(0, .mix 4 [[vI e, vI 0, vI i, vS []]])], 1, []⟩)
  | .ok [] => (.ret, ⟨[(2, .fs true 4 []), (3, .d false .nilif)], [], 0, []⟩)
  | .ok l => (.ret, ⟨[(2, .bsl 0 0 l.length), (3, .d false .nilif)], [(0, .dat true 4 (l.map eTok))], 1, []⟩)

theorem lx_done (K : Cx) (l : List Tok) : exec K f13_G2 (lxDone l) = some (lexOut (.ok l)) := by
  by_cases h : l = []
  · subst h
    rw [lxDone_nil]
    simp only [lexOut]
    simp (disch := first | decide | omega | (simp only [LN]; omega) | (simp only [LN]; done) | fail) only [SV, f13_G2, beq_self_eq_true, e_nilif, Nat.reduceBEq, V.refs, decide_true, Bool.and_self, if_true]
  · rw [lxDone_ne h]
    have e : lexOut (.ok l) = (.ret, ⟨[(2, .bsl 0 0 l.length), (3, .d false .nilif)], [(0, .dat true 4 (l.map eTok))], 1, []⟩) := by
      cases l with
      | nil => exact absurd rfl h
      | cons a l => rfl
    rw [e]
    clear h e
    simp (disch := first | decide | omega | (simp only [LN]; omega) | (simp only [LN]; done) | fail) only [SV, f13_G2, beq_self_eq_true, e_nilif, Nat.reduceBEq, V.refs, not_false_eq_true, and_self, decide_true, Bool.and_self, Bool.or_false, cond_true, Nat.zero_add, if_true]
theorem lx_wrong (K : Cx) (e i : Nat) : exec K f13_G1 (lxBad e i) = some (lexOut (.bad e i)) := by
  simp only [lxBad, lexOut]
  simp (disch := first | decide | omega | (simp only [LN]; omega) | (simp only [LN]; done) | fail) only [SV, f13_G1, Nat.reduceBEq, beq_self_eq_true, evSet, V.laid, V.cell, V.cells, Nat.zero_add, Bool.and_self, Nat.reduceAdd, decide_true, if_true, e_mki, mkiV_eq, V.refs, not_false_eq_true, and_self, Bool.or_false, cond_true]

theorem lexOut_shape (r : LR) : ∃ s, lexOut r = (.ret, s) := by
  match r with
  | .bad _ _ => exact ⟨_, rfl⟩
  | .ok [] => exact ⟨_, rfl⟩
  | .ok (_ :: _) => exact ⟨_, rfl⟩
theorem lx_main (K : Cx) (h27 : K27 K) (h28 : K28 K) (h29 : K29 K) (h30 : K30 K) (h31 : K31 K) (h32 : K32 K) (s : BS) (hs : s.length ≤ 65536) :
    ∀ (n : Nat) (r : BS), r.length = n → ∀ (i : Nat) (x : Tok) (l : List Tok), s.drop i = r → i ≤ s.length → l.length ≤ 20000 →
      scopeF (lxLab K) (some (.goto 1, lxSt s i x l)) = some (lexOut ((lexS r i l.length).app l)) := by
  intro n
  induction n using Nat.strongRecOn with
  | ind n ih =>
    intro r hr i x l hd hi hl
    subst hr
    rw [scopeF_goto (lab1 K)]
    by_cases h0 : r = []
    · subst h0
      have hlen := congrArg List.length hd
      rw [List.length_drop, List.length_nil] at hlen
      have : i = s.length := by omega
      subst this
      have he : exec K f13_G0 (lxSt s s.length x l) = some (.goto 0, lxDone l) := by
        by_cases h : l = []
        · subst h; exact lx_end_nil K s (by omega) x
        · exact lx_end_ne K s (by omega) x l h
      rw [he, scopeF_goto (lab0 K), lx_done, lexS_nil]
      simp only [LR.app, List.append_nil]
      obtain ⟨s1, hs1⟩ := lexOut_shape (.ok l)
      rw [hs1, scopeF_ret]
    · have hlen := congrArg List.length hd
      have hpos : 1 ≤ r.length := by cases r with | nil => exact absurd rfl h0 | cons a b => simp
      rw [List.length_drop] at hlen
      have he : exec K f13_G0 (lxSt s i x l) = some (stepOut s i x l (stepS r)) := by
        rw [← hd]
        by_cases h : l = []
        · subst h; exact lx_step_nil K h27 h28 h29 h30 h31 h32 s hs i (by omega) x
        · exact lx_step_ne K h27 h28 h29 h30 h31 h32 s hs i (by omega) x l h hl
      obtain ⟨q1, q2⟩ := stepS_len h0
      rw [he, lexS_cons h0]
      cases hst : stepS r with
      | bad e =>
        simp only [stepOut, LR.app]
        rw [scopeF_goto (lab2 K), lx_wrong]
        obtain ⟨s1, hs1⟩ := lexOut_shape (.bad e i)
        rw [hs1, scopeF_ret]
      | skip k =>
        obtain ⟨k1, k2⟩ := q1 k hst
        simp only [stepOut]
        exact ih (r.drop k).length (by rw [List.length_drop]; omega) (r.drop k) rfl (i + k) x l (by rw [dd, hd]) (by omega) hl
      | tok kd tx nm k =>
        obtain ⟨k1, k2⟩ := q2 kd tx nm k hst
        simp only [stepOut]
        by_cases g : l.length = 20000
        · rw [if_pos g, if_pos g]
          simp only [LR.app]
          rw [scopeF_goto (lab2 K), lx_wrong]
          obtain ⟨s1, hs1⟩ := lexOut_shape (.bad 4 i)
          rw [hs1, scopeF_ret]
        · rw [if_neg g, if_neg g]
          have := ih (r.drop k).length (by rw [List.length_drop]; omega) (r.drop k) rfl (i + k) ⟨kd, tx, nm, i⟩ (l ++ [⟨kd, tx, nm, i⟩]) (by rw [dd, hd]) (by omega) (by simp; omega)
          rw [this]
          simp only [List.length_append, List.length_cons, List.length_nil]
          congr 2
          cases lexS (r.drop k) (i + k) (l.length + (0 + 1)) with
          | bad e p => rfl
          | ok m => simp [LR.app, LR.cons]

def tailC : C → C
  | .seq _ t => t
  | c => c
def T13 : C := tailC f13_G0
theorem f13_eq : f13 = ⟨
 (.seq
  (.reg [⟨[], [], [.nilif, (.nilsl 4)], none, [0], 2, [], [], []⟩])
  (.scope
   (.seq
    (.seq
     (.reg [⟨[], [(11, (.bin .gtr (.len true (.sl 0)) (.int .i64 65536)))], [], none, [0], 3, [], [], []⟩])
     (.cond (.sl 11)
      (.seq
       (.reg [⟨[(13, .box (.set 2 1 (.int .i64 (-1)) (.set 0 1 (.int .i64 2) (.agg (.cons (.int .i64 0) (.cons (.int .i64 0) (.cons (.int .i64 0) (.cons (.str []) .nil))))))))], [(2, (.nilsl 4)), (3, (.mki 57 (.sl 13)))], [], none, [], 5, [], [], []⟩])
       (.seq
        (.tidy 0 [2, 3])
        .ret))
      .skip))
    (.seq
     (.reg [⟨[], [(4, (.nilsl 4))], [], none, [0], 1, [], [], []⟩])
     (.seq
      (.reg [⟨[(5, .box (.agg (.cons (.int .i64 0) (.cons (.str []) (.cons (.int .i64 0) (.cons (.int .i64 0) .nil))))))], [], [], none, [0, 4, 5], 1, [], [], []⟩])
      (.seq
       (.reg [⟨[], [], [(.int .i64 0)], none, [0, 4, 5], 1, [], [], []⟩])
       (.seq
        (.reg [⟨[], [(7, (.int .i64 0))], [], none, [0, 4, 5], 2, [], [], []⟩])
        (.seq
         (.label 1)
         T13))))))
   (.lcons 1 f13_G0
    (.lcons 2 f13_G1
     (.lcons 0 f13_G2
      .lnil))))),
 [(.sl 2), (.sl 3)], false⟩ := rfl
theorem exec_G0 (K : Cx) (s : S) : exec K f13_G0 s = exec K T13 s := by
  have : f13_G0 = .seq .skip T13 := rfl
  rw [this, exec_seq, exec_skip, thn_nrm]

def errV (e i : Int) : V := .tup [.fs true 4 [], .d false (.iface 57 [.ptr [.int .i64 e, .int .i64 0, .int .i64 i, .str []]])]
def lexV0 (s : BS) : V :=
  if 65536 < s.length then errV 2 (-1)
  else match lexS s 0 0 with
    | .bad e i => errV e i
    | .ok [] => .tup [.fs true 4 [], .d false .nilif]
    | .ok l => .tup [.d true (.sl 4 (l.map eTok)), .d false .nilif]

theorem lx_start (K : Cx) (h27 : K27 K) (h28 : K28 K) (h29 : K29 K) (h30 : K30 K) (h31 : K31 K) (h32 : K32 K) (s : BS) (hs : s.length ≤ 65536) (x : Tok) :
    exec K f13_G0 (lxP s 0 x) = exec K f13_G0 (lxSt s 0 x []) := by
  by_cases h : s = []
  · subst h
    have h1 := lx_end_st K [] (by simp) x
    have h2 := lx_end_nil K [] (by simp) x
    exact h1.trans h2.symm
  · have hp : 0 < s.length := by cases s with | nil => exact absurd rfl h | cons a b => simp
    rw [lx_step_st K h27 h28 h29 h30 h31 h32 s hs 0 hp x, lx_step_nil K h27 h28 h29 h30 h31 h32 s hs 0 hp x]

theorem ev_Lex (K : Cx) (h27 : K27 K) (h28 : K28 K) (h29 : K29 K) (h30 : K30 K) (h31 : K31 K) (h32 : K32 K) (s : BS) (hs : s.length ≤ 2000000) :
    runFun K f13 [vS s] [] = some (lexV0 s, [], []) := by
  unfold lexV0
  by_cases g : 65536 < s.length
  · rw [if_pos g]
    unfold errV
    simp (disch := first | decide | omega | (simp only [LN]; omega) | (simp only [LN]; done) | fail) only [SV, f13_eq, Int.reduceNeg, Nat.zero_add, e_nilif, Bool.and_self, beq_self_eq_true, exec_scope, evLen, evBin, intBin, decide_true, if_true, evSet, V.laid, V.cell, V.cells, Nat.reduceAdd, Nat.reduceBEq, e_mki, mkiV_eq, V.refs, not_false_eq_true, and_self, Bool.or_false, cond_true, scopeF_ret, oneOr, Bool.false_eq_true, if_false, finV, finA, finC, V.forget, V.drop1, V.ref0, Bool.not_false, viewD, List.getElem?_cons_zero]
  · rw [if_neg g]
    have hm := lx_main K h27 h28 h29 h30 h31 h32 s (by omega) _ s rfl 0 ⟨0, [], 0, 0⟩ [] rfl (by omega) (by simp)
    rw [List.length_nil] at hm
    have e0 : ∀ r : LR, r.app [] = r := by intro r; cases r <;> rfl
    rw [e0, scopeF_goto (lab1 K), ← lx_start K h27 h28 h29 h30 h31 h32 s (by omega), exec_G0, show lxLab K = fun l => exec.labelled K (.lcons 1 f13_G0 (.lcons 2 f13_G1 (.lcons 0 f13_G2 .lnil))) l from rfl] at hm
    simp only [lxP, vTok, Int.natCast_zero] at hm
    match hr : lexS s 0 0 with
    | .bad e i =>
      rw [hr] at hm
      simp only [lexOut] at hm
      simp only [errV]
      simp (disch := first | decide | omega | (simp only [LN]; omega) | (simp only [LN]; done) | fail) only [SV, f13_eq, Int.reduceNeg, Nat.zero_add, e_nilif, Bool.and_self, beq_self_eq_true, exec_scope, evLen, evBin, intBin, decide_false, if_true, Nat.reduceBEq, V.laid, V.cells, Nat.reduceAdd, exec_label, hm, oneOr, Bool.false_eq_true, V.refs, if_false, decide_true, finV, finA, finC, V.forget, V.drop1, V.ref0, Bool.not_false, viewD, List.getElem?_cons_zero]
    | .ok [] =>
      rw [hr] at hm
      simp only [lexOut] at hm
      simp (disch := first | decide | omega | (simp only [LN]; omega) | (simp only [LN]; done) | fail) only [SV, f13_eq, Int.reduceNeg, Nat.zero_add, e_nilif, Bool.and_self, beq_self_eq_true, exec_scope, evLen, evBin, intBin, decide_false, if_true, Nat.reduceBEq, V.laid, V.cells, Nat.reduceAdd, exec_label, hm, oneOr, Bool.false_eq_true, V.refs, if_false, decide_true, finV, finA, finC]
    | .ok (a :: l) =>
      rw [hr] at hm
      simp only [lexOut] at hm
      simp only
      generalize a :: l = m at hm ⊢
      simp (disch := first | decide | omega | (simp only [LN]; omega) | (simp only [LN]; done) | fail) only [SV, f13_eq, Int.reduceNeg, Nat.zero_add, e_nilif, Bool.and_self, beq_self_eq_true, exec_scope, evLen, evBin, intBin, decide_false, if_true, Nat.reduceBEq, V.laid, V.cells, Nat.reduceAdd, exec_label, hm, oneOr, Bool.false_eq_true, V.refs, if_false, decide_true, finV, finA, finC, hNew, V.forget, V.drop1, V.ref0, Bool.not_false, V.newR, V.new1, D.flat, viewD, Nat.le_refl]
end Go.Vm
end

section
namespace Go.Vm
set_option maxRecDepth 20000
/- 'sloth/lex.escaped' -/
def f39_L0 : C :=
 (.seq
  (.reg [⟨[], [(11, (.bin .lss (.sl 10) (.sl 9)))], [], none, [0, 1, 5, 9, 10], 1, [], [], []⟩])
  (.seq
   (.cond (.sl 11)
    .skip
    (.seq
     (.tidy 0 [1, 5])
     (.exit 0)))
   (.seq
    (.block 1
     (.seq
      (.reg [⟨[], [(6, (.sl 10))], [], none, [0, 1, 5, 9, 10], 2, [], [], []⟩])
      (.seq
       (.reg [⟨[], [(7, (.ix (.sl 0) (.sl 6)))], [], none, [0, 1, 5, 9, 10], 4, [], [], []⟩])
       (.block 2
        (.seq
         (.reg [⟨[], [(23, (.bin .eql (.sl 7) (.int .u8 10)))], [], none, [0, 1, 5, 7, 9, 10], 3, [], [], []⟩])
         (.cond (.sl 23)
          (.reg [⟨[], [], [], some (some 26, .calle 24 (.cons (.sl 5) (.cons (.str [92, 110]) .nil))), [0, 1, 5, 9, 10], 1, [], [], []⟩])
          (.seq
           (.reg [⟨[], [(27, (.bin .eql (.sl 7) (.int .u8 9)))], [], none, [0, 1, 5, 7, 9, 10], 3, [], [], []⟩])
           (.cond (.sl 27)
            (.reg [⟨[], [], [], some (some 30, .calle 24 (.cons (.sl 5) (.cons (.str [92, 116]) .nil))), [0, 1, 5, 9, 10], 1, [], [], []⟩])
            (.seq
             (.reg [⟨[], [(31, (.or (.bin .eql (.sl 7) (.int .u8 92)) (.bin .eql (.sl 7) (.sl 1))))], [], none, [0, 1, 5, 7, 9, 10], 8, [], [], []⟩])
             (.cond (.sl 31)
              (.seq
               (.reg [⟨[], [], [], some (some 39, .calle 22 (.cons (.sl 5) (.cons (.int .u8 92) .nil))), [0, 1, 5, 7, 9, 10], 1, [], [], []⟩])
               (.reg [⟨[], [], [], some (some 41, .calle 22 (.cons (.sl 5) (.cons (.sl 7) .nil))), [0, 1, 5, 9, 10], 2, [], [], []⟩]))
              (.seq
               (.reg [⟨[], [(42, (.and (.bin .geq (.sl 7) (.int .u8 32)) (.bin .leq (.sl 7) (.int .u8 126))))], [], none, [0, 1, 5, 7, 9, 10], 7, [], [], []⟩])
               (.cond (.sl 42)
                (.reg [⟨[], [], [], some (some 50, .calle 22 (.cons (.sl 5) (.cons (.sl 7) .nil))), [0, 1, 5, 9, 10], 2, [], [], []⟩])
                (.seq
                 (.reg [⟨[], [], [], some (some 16, .calle 22 (.cons (.sl 5) (.cons (.int .u8 92) .nil))), [0, 1, 5, 7, 9, 10], 1, [], [], []⟩])
                 (.reg [⟨[], [], [], some (some 22, .calle 24 (.cons (.sl 5) (.cons (.cut true true false false 0 (.call 38 (.cons (.bin .add (.int .i64 1000) (.conv .i64 (.sl 7))) .nil)) (.int .i64 1) .nil .nil) .nil))), [0, 1, 5, 9, 10], 6, [], [], []⟩]))))))))))))))
    (.reg [⟨[], [(10, (.bin .add (.sl 10) (.int .i64 1)))], [], none, [0, 1, 5, 9], 2, [], [], []⟩]))))
def f39 : Fun := ⟨
 (.seq
  (.reg [⟨[], [], [(.str [])], none, [0, 1], 1, [], [], []⟩])
  (.seq
   (.reg [⟨[(5, .bld 50 5)], [], [], none, [0, 1, 5], 1, [], [], []⟩])
   (.seq
    (.seq
     (.reg [⟨[], [(9, (.len true (.sl 0))), (10, (.int .i64 0))], [], none, [0, 1, 5], 3, [], [], []⟩])
     (.block 0
      (.seq (.tidy 0 [0, 1, 5, 9, 10]) (.loop (.seq (.tidy 0 [0, 1, 5, 9, 10]) f39_L0)))))
    (.seq
     (.reg [⟨[], [(53, (.i2s (.sl 1)))], [], some (some 54, .calle 26 (.cons (.sl 5) .nil)), [1], 3, [], [], []⟩, ⟨[], [(4, (.bin .add (.bin .add (.sl 53) (.sl 54)) (.i2s (.sl 1))))], [], none, [], 5, [], [], []⟩])
     (.seq
      (.tidy 0 [4])
      .ret))))),
 [(.sl 4)], false⟩
theorem f39_ok : funOk Go.Proofs.Tryd.prog 39 0 2 f39 = true := by kernel_rfl


def E22 (K : Cx) : Prop := ∀ (bytes : BS) (c : UInt8), bytes.length ≤ 100000000 → K.eff 22 [.ptr 0 0 0, .d false (.int .u8 c.toNat)] [bldB 50 1 bytes.length, bufB 5 bytes] = some (.d false .nilif, [bldB 50 1 (bytes ++ [c]).length, bufB 5 (bytes ++ [c])], [1])
def E24 (K : Cx) : Prop := ∀ (bytes s : BS), bytes.length ≤ 100000000 → s.length ≤ 100000000 → K.eff 24 [.ptr 0 0 0, vS s] [bldB 50 1 bytes.length, bufB 5 bytes] = some (.tup [vI s.length, .d false .nilif], [bldB 50 1 (bytes ++ s).length, bufB 5 (bytes ++ s)], [1])
def E23 (K : Cx) : Prop := ∀ (bytes : BS), K.eff 23 [.ptr 0 0 0] [bldB 50 1 bytes.length, bufB 5 bytes] = some (vI bytes.length, [bldB 50 1 bytes.length, bufB 5 bytes], [])
def E26 (K : Cx) : Prop := ∀ (bytes : BS), K.eff 26 [.ptr 0 0 0] [bldB 50 1 bytes.length, bufB 5 bytes] = some (vS bytes, [bldB 50 1 bytes.length, bufB 5 bytes], [1])
def K38 (K : Cx) : Prop := ∀ n : Int, -9223372036854775808 ≤ n → n ≤ 9223372036854775807 → K.call 38 [vI n] = some (vS (Lib.itoa n), [])

def escB (q c : UInt8) : BS :=
  if c = 10 then [92, 110] else if c = 9 then [92, 116] else if c = 92 ∨ c = q then [92, c]
  else if 32 ≤ c.toNat ∧ c.toNat ≤ 126 then [c] else 92 :: (Lib.itoa (1000 + c.toNat)).drop 1
def escL (q : UInt8) : BS → BS
  | [] => []
  | c :: r => escB q c ++ escL q r
def escS (s : BS) (q : UInt8) : BS := q :: (escL q s ++ [q])

theorem itoa_len : ∀ c : UInt8, (Lib.itoa (1000 + c.toNat)).length = 4 := u8all (by decide +kernel)
theorem escB_len (q c : UInt8) : 1 ≤ (escB q c).length ∧ (escB q c).length ≤ 4 := by
  unfold escB
  split
  · simp
  · split
    · simp
    · split
      · simp
      · split
        · simp
        · simp [itoa_len]
theorem escL_len (q : UInt8) : ∀ s : BS, (escL q s).length ≤ 4 * s.length
  | [] => by simp [escL]
  | c :: r => by
    have := escL_len q r
    have := escB_len q c
    simp only [escL, List.length_append, List.length_cons]
    omega

def esSt (s : BS) (q : UInt8) (k : Nat) (b : BS) : S := ⟨[(0, vS s), (1, .d false (.int .u8 q.toNat)), (5, .ptr 0 0 0), (9, vI s.length), (10, vI k)], [(0, .map [(.nils 50, .bsl 1 0 b.length)]), (1, .map [(.emps 5, .d false .nilp), (.str b, .d false .nilp)])], 2, []⟩
theorem es_loop (K : Cx) (h22 : E22 K) (h24 : E24 K) (h38 : K38 K) (s : BS) (hs : s.length ≤ 2000000) (q : UInt8) : ∀ (r : BS) (k : Nat) (b : BS), s.drop k = r → k ≤ s.length → b.length ≤ 4 * k →
    lp K 0 [0, 1, 5, 9, 10] f39_L0 (esSt s q k b) = some (.exit 0, ⟨[(1, .d false (.int .u8 q.toNat)), (5, .ptr 0 0 0)], [(0, .map [(.nils 50, .bsl 1 0 (b ++ escL q r).length)]), (1, .map [(.emps 5, .d false .nilp), (.str (b ++ escL q r), .d false .nilp)])], 2, []⟩) := by
  intro r
  induction r with
  | nil =>
    intro k b hd hk hb
    have hlen := congrArg List.length hd
    rw [List.length_drop, List.length_nil] at hlen
    simp only [escL, List.append_nil, esSt]
    rw [lp_un f39_L0.eq_1]
    simp (disch := first | decide | omega | (simp only [LN]; omega) | (simp only [LN]; done) | fail) only [SV, Nat.reduceBEq, beq_self_eq_true, evBin, intBin, decide_false, if_true, V.refs, Bool.or_self, reduceCtorEq, or_self, not_false_eq_true, and_self, decide_true, Bool.and_self, Bool.or_false, Bool.or_true, cond_false, cond_true, Nat.zero_add, Nat.reduceAdd]
  | cons c r ih =>
    intro k b hd hk hb
    have hlen := congrArg List.length hd
    rw [List.length_drop, List.length_cons] at hlen
    have hn := nth_bAt (s := s) (i := k) (by omega)
    rw [hd] at hn
    have hbc : bAt (c :: r) = c := rfl
    rw [hbc] at hn
    have hel := escB_len q c
    have ih := ih (k + 1) (b ++ escB q c) (by rw [dd, hd]; rfl) (by omega) (by rw [List.length_append]; omega)
    simp only [escL, ← List.append_assoc]
    rw [← ih]
    clear ih
    simp only [esSt]
    rw [lp_un f39_L0.eq_1]
    unfold escB at hel ⊢
    by_cases g1 : c = 10
    · rw [if_pos g1]
      have g1' := u8y 10 rfl g1
      have w := h24 b [92, 110] (by omega) (by simp)
      clear g1 hel
      simp (disch := first | decide | omega | (simp only [LN]; omega) | (simp only [LN]; done) | fail) only [SV, Nat.reduceBEq, beq_self_eq_true, evBin, intBin, decide_true, if_true, hn, eq_t, V.refs, Bool.or_self, reduceCtorEq, or_self, not_false_eq_true, and_self, Bool.or_false, Bool.and_self, Bool.or_true, cond_true, Nat.zero_add, cond_false, w, Nat.reduceAdd, nc, List.length_append, Nat.le_refl, loseM, List.getElem?_cons_succ, List.getElem?_cons_zero, Nat.reduceSub, Nat.add_zero, V.forget, V.drop1, beq_iff_eq, V.ref0, lose, if_false, cast1]
    · have g1' := u8n 10 rfl g1
      rw [if_neg g1]
      by_cases g2 : c = 9
      · rw [if_pos g2]
        have g2' := u8y 9 rfl g2
        have w := h24 b [92, 116] (by omega) (by simp)
        clear g1 g2 hel
        simp (disch := first | decide | omega | (simp only [LN]; omega) | (simp only [LN]; done) | fail) only [SV, Nat.reduceBEq, beq_self_eq_true, evBin, intBin, decide_true, if_true, hn, eq_t, V.refs, Bool.or_self, reduceCtorEq, or_self, not_false_eq_true, and_self, Bool.or_false, Bool.and_self, Bool.or_true, cond_true, Nat.zero_add, cond_false, w, Nat.reduceAdd, nc, List.length_append, Nat.le_refl, loseM, List.getElem?_cons_succ, List.getElem?_cons_zero, Nat.reduceSub, Nat.add_zero, V.forget, V.drop1, beq_iff_eq, V.ref0, lose, if_false, cast1]
      · have g2' := u8n 9 rfl g2
        rw [if_neg g2]
        have w92 := h22 b 92 (by omega)
        have e92 : ((92 : UInt8).toNat : Int) = 92 := rfl
        rw [e92] at w92
        by_cases g3 : c = 92 ∨ c = q
        · rw [if_pos g3]
          have w2 := h22 (b ++ [92]) c (by rw [List.length_append, List.length_singleton]; omega)
          simp only [bldB, bufB, List.length_append, List.length_cons, List.length_nil, Nat.zero_add, List.append_assoc, List.cons_append, List.nil_append, Nat.reduceAdd] at w2
          have cond : (((c.toNat : Int) == 92) || ((c.toNat : Int) == (q.toNat : Int))) = true := by
            rcases g3 with h | h <;> (subst h; simp)
          by_cases g4 : c = 92
          · have g4' := u8y 92 rfl g4
            clear g1 g2 g3 g4 hel cond
            simp (disch := first | decide | omega | (simp only [LN]; omega) | (simp only [LN]; done) | fail) only [SV, Nat.reduceBEq, beq_self_eq_true, evBin, intBin, decide_true, if_true, hn, eq_t, Bool.true_or, V.refs, Bool.or_self, reduceCtorEq, or_self, not_false_eq_true, and_self, Bool.or_false, Bool.and_self, Bool.or_true, cond_true, Nat.zero_add, cond_false, w92, List.length_append, Nat.reduceAdd, Nat.le_refl, loseM, List.getElem?_cons_succ, List.getElem?_cons_zero, Nat.reduceSub, Nat.add_zero, V.forget, V.drop1, beq_iff_eq, V.ref0, lose, if_false, w2, cast1]
          · have g4' := u8n 92 rfl g4
            have g5 : ((c.toNat : Int) == (q.toNat : Int)) = true := by
              rcases g3 with h | h
              · exact absurd h g4
              · rw [h]; simp
            clear g1 g2 g3 g4 hel cond
            simp (disch := first | decide | omega | (simp only [LN]; omega) | (simp only [LN]; done) | fail) only [SV, Nat.reduceBEq, beq_self_eq_true, evBin, intBin, decide_true, if_true, hn, g5, Bool.or_true, V.refs, Bool.or_self, reduceCtorEq, or_self, not_false_eq_true, and_self, Bool.or_false, Bool.and_self, cond_true, Nat.zero_add, cond_false, w92, List.length_append, Nat.reduceAdd, Nat.le_refl, loseM, List.getElem?_cons_succ, List.getElem?_cons_zero, Nat.reduceSub, Nat.add_zero, V.forget, V.drop1, beq_iff_eq, V.ref0, lose, if_false, w2, cast1]
        · rw [if_neg g3]
          rw [not_or] at g3
          have g4' := u8n 92 rfl g3.1
          have g5 : ((c.toNat : Int) == (q.toNat : Int)) = false := by
            rw [beq_eq_false_iff_ne, ne_eq, u8eq]; exact g3.2
          by_cases g6 : 32 ≤ c.toNat ∧ c.toNat ≤ 126
          · rw [if_pos g6]
            obtain ⟨g6a, g6b⟩ := g6
            have w1 := h22 b c (by omega)
            clear g1 g2 g3 hel
            simp (disch := first | decide | omega | (simp only [LN]; omega) | (simp only [LN]; done) | fail) only [SV, Nat.reduceBEq, beq_self_eq_true, evBin, intBin, decide_true, if_true, hn, g5, Bool.or_self, Bool.and_self, V.refs, reduceCtorEq, or_self, not_false_eq_true, and_self, Bool.or_false, Bool.or_true, cond_true, Nat.zero_add, cond_false, w1, List.length_append, Nat.reduceAdd, Nat.le_refl, loseM, List.getElem?_cons_succ, List.getElem?_cons_zero, Nat.reduceSub, Nat.add_zero, V.forget, V.drop1, beq_iff_eq, V.ref0, lose, if_false, cast1]
          · rw [if_neg g6] at hel ⊢
            have hcl := c.toNat_lt
            have hw : IntKind.i64.wrap (c.toNat : Int) = c.toNat := wrap64 (by omega) (by omega)
            have i38 := h38 (1000 + c.toNat) (by omega) (by omega)
            have il := itoa_len c
            generalize Lib.itoa (1000 + c.toNat) = t at i38 il hel ⊢
            have hcut := fun H => cut_sl H t 1 (by omega)
            rw [Int.natCast_one] at hcut
            have w2 := h24 (b ++ [92]) (t.drop 1) (by rw [List.length_append, List.length_singleton]; omega) (by rw [List.length_drop]; omega)
            simp only [bldB, bufB, List.length_append, List.length_cons, List.length_nil, Nat.zero_add, List.append_assoc, List.cons_append, List.nil_append, Nat.reduceAdd] at w2
            clear g1 g2 g3 hel
            by_cases g7 : 32 ≤ c.toNat
            · have g8 : ¬ c.toNat ≤ 126 := fun h => g6 ⟨g7, h⟩
              clear g6
              simp (disch := first | decide | omega | (simp only [LN]; omega) | (simp only [LN]; done) | fail) only [SV, Nat.reduceBEq, beq_self_eq_true, evBin, intBin, decide_true, if_true, hn, g5, Bool.or_self, decide_false, Bool.and_false, V.refs, reduceCtorEq, or_self, not_false_eq_true, and_self, Bool.or_false, Bool.and_self, Bool.or_true, cond_true, Nat.zero_add, cond_false, w92, List.length_append, Nat.reduceAdd, Nat.le_refl, loseM, List.getElem?_cons_succ, List.getElem?_cons_zero, Nat.reduceSub, Nat.add_zero, V.forget, V.drop1, beq_iff_eq, V.ref0, lose, if_false, e_cut, e_conv, evConv, hw, V.own, V.own1, V.new, V.new1, D.flat, V.flatV, V.flat1, Bool.not_true, Bool.false_and, view, viewD, i38, Bool.false_eq_true, o4_some, hcut, w2, cast1]
            · clear g6
              simp (disch := first | decide | omega | (simp only [LN]; omega) | (simp only [LN]; done) | fail) only [SV, Nat.reduceBEq, beq_self_eq_true, evBin, intBin, decide_true, if_true, hn, g5, Bool.or_self, decide_false, Bool.and_true, V.refs, reduceCtorEq, or_self, not_false_eq_true, and_self, Bool.or_false, Bool.and_self, Bool.or_true, cond_true, Nat.zero_add, cond_false, w92, List.length_append, Nat.reduceAdd, Nat.le_refl, loseM, List.getElem?_cons_succ, List.getElem?_cons_zero, Nat.reduceSub, Nat.add_zero, V.forget, V.drop1, beq_iff_eq, V.ref0, lose, if_false, e_cut, e_conv, evConv, hw, V.own, V.own1, V.new, V.new1, D.flat, V.flatV, V.flat1, Bool.not_true, Bool.and_false, Bool.false_and, view, viewD, i38, Bool.false_eq_true, o4_some, hcut, w2, cast1]

theorem ev_escaped (K : Cx) (h22 : E22 K) (h24 : E24 K) (h26 : E26 K) (h38 : K38 K) (s : BS) (hs : s.length ≤ 2000000) (q : UInt8) (hq : q = 39 ∨ q = 34) :
    runFun K f39 [vS s, .d false (.int .u8 q.toNat)] [] = some (vS (escS s q), [], []) := by
  have hl := es_loop K h22 h24 h38 s hs q s 0 [] rfl (by omega) (by simp)
  simp only [List.nil_append, esSt, List.length_nil, Int.natCast_zero] at hl
  have hel := escL_len q s
  have h26 := h26 (escL q s)
  unfold escS
  generalize escL q s = t at hl hel h26 ⊢
  have u1 : (Utf8.encode 39).data.toList = [39] := by decide +kernel
  have u2 : (Utf8.encode 34).data.toList = [34] := by decide +kernel
  rcases hq with rfl | rfl
  · have e39 : ((39 : UInt8).toNat : Int) = 39 := rfl
    simp only [e39] at hl ⊢
    simp (disch := first | decide | omega | (simp only [LN]; omega) | (simp only [LN]; done) | fail) only [SV, f39, Nat.zero_add, Nat.reduceAdd, Bool.and_self, beq_self_eq_true, Nat.reduceBEq, evMk_bld, evLen, V.refs, Bool.or_self, reduceCtorEq, or_self, not_false_eq_true, and_self, decide_true, Bool.or_false, Bool.or_true, cond_false, cond_true, if_true, hl, e_i2s, evI2s, u1, h26, Nat.le_refl, loseM, List.getElem?_cons_succ, List.getElem?_cons_zero, Nat.reduceSub, Nat.add_zero, V.forget, V.drop1, beq_iff_eq, V.ref0, lose, evBin, strBin, oneOr, Bool.false_eq_true, if_false, finV, finA, finC]
  · have e34 : ((34 : UInt8).toNat : Int) = 34 := rfl
    simp only [e34] at hl ⊢
    simp (disch := first | decide | omega | (simp only [LN]; omega) | (simp only [LN]; done) | fail) only [SV, f39, Nat.zero_add, Nat.reduceAdd, Bool.and_self, beq_self_eq_true, Nat.reduceBEq, evMk_bld, evLen, V.refs, Bool.or_self, reduceCtorEq, or_self, not_false_eq_true, and_self, decide_true, Bool.or_false, Bool.or_true, cond_false, cond_true, if_true, hl, e_i2s, evI2s, u2, h26, Nat.le_refl, loseM, List.getElem?_cons_succ, List.getElem?_cons_zero, Nat.reduceSub, Nat.add_zero, V.forget, V.drop1, beq_iff_eq, V.ref0, lose, evBin, strBin, oneOr, Bool.false_eq_true, if_false, finV, finA, finC]
end Go.Vm
end

section
namespace Go.Vm
set_option maxRecDepth 20000
/- 'sloth/lex.isToken' -/
def f21 : Fun := ⟨
 (.seq
  (.reg [⟨[(1, .box (.sl 0))], [], [(.bool false)], none, [1], 2, [], [], []⟩])
  (.seq
   (.seq
    (.reg [⟨[], [(8, (.ld 1 false (.fa 0 (.sl 1))))], [], none, [1], 2, [], [], []⟩])
    (.block 0
     (.seq
      (.reg [⟨[], [(9, (.bin .eql (.sl 8) (.int .i64 6)))], [], none, [1, 8], 2, [], [], []⟩])
      (.cond (.sl 9)
       (.seq
        (.reg [⟨[], [(2, (.and (.and (.bin .eql (.ld 1 false (.fa 1 (.sl 1))) (.str [])) (.bin .geq (.ld 1 false (.fa 2 (.sl 1))) (.int .i64 0))) (.bin .leq (.ld 1 false (.fa 2 (.sl 1))) (.int .i64 4611686018427387903))))], [], none, [], 14, [], [], []⟩])
        (.seq
         (.tidy 0 [2])
         .ret))
       (.seq
        (.reg [⟨[], [(24, (.bin .eql (.sl 8) (.int .i64 7)))], [], none, [1, 8], 2, [], [], []⟩])
        (.cond (.sl 24)
         (.seq
          (.reg [⟨[], [(2, (.and (.and (.bin .eql (.ld 1 false (.fa 1 (.sl 1))) (.str [])) (.bin .geq (.ld 1 false (.fa 2 (.sl 1))) (.int .i64 0))) (.bin .leq (.ld 1 false (.fa 2 (.sl 1))) (.int .i64 255))))], [], none, [], 14, [], [], []⟩])
          (.seq
           (.tidy 0 [2])
           .ret))
         (.seq
          (.reg [⟨[], [(39, (.bin .eql (.sl 8) (.int .i64 8)))], [], none, [1], 2, [], [], []⟩])
          (.cond (.sl 39)
           (.seq
            (.reg [⟨[], [(2, (.bin .eql (.ld 1 false (.fa 2 (.sl 1))) (.int .i64 0)))], [], none, [], 4, [], [], []⟩])
            (.seq
             (.tidy 0 [2])
             .ret))
           .skip))))))))
   (.seq
    (.seq
     (.reg [⟨[], [(62, (.or (.or (.bin .neq (.ld 1 false (.fa 2 (.sl 1))) (.int .i64 0)) (.bin .eql (.ld 1 false (.fa 1 (.sl 1))) (.str []))) (.and (.bin .eql (.call 27 (.cons (.ld 1 false (.fa 1 (.sl 1))) (.cons (.int .i64 0) .nil))) (.int .u8 5)) (.call 31 (.cons (.ld 1 false (.fa 1 (.sl 1))) .nil)))))], [], none, [1], 19, [], [], []⟩])
     (.cond (.sl 62)
      (.seq
       (.reg [⟨[], [(2, (.bool false))], [], none, [], 1, [], [], []⟩])
       (.seq
        (.tidy 0 [2])
        .ret))
      .skip))
    (.seq
     (.reg [⟨[], [(3, (.call 27 (.cons (.ld 1 false (.fa 1 (.sl 1))) (.cons (.int .i64 0) .nil))))], [], none, [1], 4, [], [], []⟩])
     (.seq
      (.seq
       (.reg [⟨[], [(81, (.or (.or (.or (.bin .eql (.sl 3) (.int .u8 3)) (.bin .eql (.sl 3) (.int .u8 0))) (.bin .eql (.sl 3) (.int .u8 7))) (.bin .eql (.ix (.ld 1 false (.fa 1 (.sl 1))) (.int .i64 0)) (.int .u8 39))))], [], none, [1], 16, [], [], []⟩])
       (.cond (.sl 81)
        (.seq
         (.reg [⟨[], [(2, (.bool false))], [], none, [], 1, [], [], []⟩])
         (.seq
          (.tidy 0 [2])
          .ret))
        .skip))
      (.seq
       (.reg [⟨[(4, .box (.agg (.cons (.int .i64 0) (.cons (.str []) (.cons (.int .i64 0) (.cons (.int .i64 0) .nil))))))], [(87, (.ext 1 (.call 32 (.cons (.ld 1 false (.fa 1 (.sl 1))) (.cons (.int .i64 0) .nil))))), (88, (.ext 2 (.call 32 (.cons (.ld 1 false (.fa 1 (.sl 1))) (.cons (.int .i64 0) .nil)))))], [], some (none, .store 4 (.sl 4) (.ext 0 (.call 32 (.cons (.ld 1 false (.fa 1 (.sl 1))) (.cons (.int .i64 0) .nil))))), [1, 4], 9, [], [], []⟩, ⟨[], [(5, (.sl 87)), (6, (.sl 88))], [], none, [1, 4], 2, [], [], []⟩])
       (.seq
        (.reg [⟨[], [(2, (.and (.and (.bin .eql (.sl 6) (.int .i64 0)) (.bin .eql (.sl 5) (.len true (.ld 1 false (.fa 1 (.sl 1)))))) (.bin .eql (.ld 1 false (.fa 0 (.sl 4))) (.ld 1 false (.fa 0 (.sl 1))))))], [], none, [], 17, [], [], []⟩])
        (.seq
         (.tidy 0 [2])
         .ret)))))))),
 [(.sl 2)], false⟩
theorem f21_ok : funOk Go.Proofs.Tryd.prog 21 0 1 f21 = true := by kernel_rfl

/- 'sloth/lex.written' -/
def f25 : Fun := ⟨
 (.seq
  (.reg [⟨[(1, .box (.sl 0))], [], [(.str [])], none, [1], 2, [], [], []⟩])
  (.seq
   (.seq
    (.reg [⟨[], [(4, (.ld 1 false (.fa 0 (.sl 1))))], [], none, [1], 2, [], [], []⟩])
    (.block 0
     (.seq
      (.reg [⟨[], [(5, (.bin .eql (.sl 4) (.int .i64 6)))], [], none, [1, 4], 2, [], [], []⟩])
      (.cond (.sl 5)
       (.seq
        (.reg [⟨[], [(2, (.call 38 (.cons (.ld 1 false (.fa 2 (.sl 1))) .nil)))], [], none, [], 4, [], [], []⟩])
        (.seq
         (.tidy 0 [2])
         .ret))
       (.seq
        (.reg [⟨[], [(10, (.bin .eql (.sl 4) (.int .i64 7)))], [], none, [1, 4], 2, [], [], []⟩])
        (.cond (.sl 10)
         (.seq
          (.reg [⟨[(15, .lits 1 (.cons (.conv .u8 (.ld 1 false (.fa 2 (.sl 1)))) .nil))], [], [], none, [15], 4, [], [], []⟩, ⟨[], [(2, (.call 39 (.cons (.b2s (.sl 15)) (.cons (.int .u8 39) .nil))))], [], none, [], 3, [], [], []⟩])
          (.seq
           (.tidy 0 [2])
           .ret))
         (.seq
          (.reg [⟨[], [(18, (.bin .eql (.sl 4) (.int .i64 8)))], [], none, [1], 2, [], [], []⟩])
          (.cond (.sl 18)
           (.seq
            (.reg [⟨[], [(2, (.call 39 (.cons (.ld 1 false (.fa 1 (.sl 1))) (.cons (.int .u8 34) .nil))))], [], none, [], 4, [], [], []⟩])
            (.seq
             (.tidy 0 [2])
             .ret))
           .skip))))))))
   (.seq
    (.reg [⟨[], [(2, (.ld 1 false (.fa 1 (.sl 1))))], [], none, [], 3, [], [], []⟩])
    (.seq
     (.tidy 0 [2])
     .ret)))),
 [(.sl 2)], false⟩
theorem f25_ok : funOk Go.Proofs.Tryd.prog 25 0 1 f25 = true := by kernel_rfl


def K39 (K : Cx) : Prop := ∀ (s : BS) (q : UInt8), s.length ≤ 2000000 → q = 39 ∨ q = 34 → K.call 39 [vS s, .d false (.int .u8 q.toNat)] = some (vS (escS s q), [])
def writS (t : Tok) : BS :=
  if t.kind = 6 then Lib.itoa t.num else if t.kind = 7 then escS [UInt8.ofNat (t.num % 256).toNat] 39 else if t.kind = 8 then escS t.text 34 else t.text
def vT (t : Tok) : V := .agg [vI t.kind, vS t.text, vI t.num, vI t.at_]
structure TokI (t : Tok) : Prop where
  len : t.text.length ≤ 2000000
  num : -9223372036854775808 ≤ t.num ∧ t.num ≤ 9223372036854775807
def K25 (K : Cx) : Prop := ∀ t : Tok, TokI t → K.call 25 [vT t] = some (vS (writS t), [])

def escTokS (t : Tok) : Bool :=
  if t.kind = 6 then decide (t.text = []) && decide (0 ≤ t.num) && decide (t.num ≤ 4611686018427387903)
  else if t.kind = 7 then decide (t.text = []) && decide (0 ≤ t.num) && decide (t.num ≤ 255)
  else if t.kind = 8 then decide (t.num = 0)
  else if t.num ≠ 0 ∨ t.text = [] ∨ (cls t.text = 5 ∧ dsh t.text = true) then false
  else if cls t.text = 3 ∨ cls t.text = 0 ∨ cls t.text = 7 ∨ bAt t.text = 39 then false
  else match tokS t.text with
    | .tok k _ _ n => decide (n = t.text.length) && decide ((k : Int) = t.kind)
    | _ => false
def K21 (K : Cx) : Prop := ∀ t : Tok, TokI t → K.call 21 [vT t] = some (.d false (.bool (escTokS t)), [])

theorem u8mod (n : Int) : IntKind.u8.wrap n = n % 256 := by
  unfold IntKind.wrap
  have e1 : (2 : Int) ^ IntKind.u8.bits = 256 := by decide
  have e2 : IntKind.u8.signed = false := rfl
  simp only [e1, e2, Bool.false_and]
  rw [if_neg (by simp)]

theorem ev_written (K : Cx) (h38 : K38 K) (h39 : K39 K) (t : Tok) (ht : TokI t) : runFun K f25 [vT t] [] = some (vS (writS t), [], []) := by
  obtain ⟨kind, text, num, at_⟩ := t
  obtain ⟨hl, hn⟩ := ht
  unfold vT writS
  simp only at hl hn ⊢
  by_cases g1 : kind = 6
  · subst g1
    rw [if_pos rfl]
    have h := h38 num hn.1 hn.2
    simp (disch := first | decide | omega | (simp only [LN]; omega) | (simp only [LN]; done) | fail) only [SV, f25, Nat.zero_add, beq_self_eq_true, V.laid, V.cells, Nat.reduceAdd, if_true, Nat.reduceBEq, Bool.and_self, evFa, Nat.add_zero, List.getElem?_cons_zero, evBin, intBin, V.own, V.own1, Bool.or_self, V.new, V.new1, D.flat, Bool.or_true, V.flatV, V.flat1, Bool.not_true, Bool.and_false, Bool.false_and, view, viewD, h, Bool.false_eq_true, if_false, V.refs, decide_true, oneOr, finV, finA, finC]
  · rw [if_neg g1]
    by_cases g2 : kind = 7
    · subst g2
      rw [if_pos rfl]
      have hm : 0 ≤ num % 256 ∧ num % 256 < 256 := ⟨Int.emod_nonneg _ (by decide), Int.emod_lt_of_pos _ (by decide)⟩
      have hz : (((UInt8.ofNat (num % 256).toNat).toNat : Nat) : Int) = num % 256 := by
        rw [UInt8.toNat_ofNat']; omega
      have h := h39 [UInt8.ofNat (num % 256).toNat] 39 (by simp) (Or.inl rfl)
      have e39 : ((39 : UInt8).toNat : Int) = 39 := rfl
      rw [e39] at h
      have hb : ∀ z : Int, z = num % 256 → evB2s [(1, .dat true 1 [[.int .u8 z]]), (0, .mix 4 [[vI 7, vS text, vI num, vI at_]])] (.bsl 1 0 1) = some (vS [UInt8.ofNat (num % 256).toNat]) := by
        intro z hz; subst hz; rfl
      have hb := hb _ rfl
      rw [← u8mod] at hb h ⊢
      clear g1
      simp (disch := first | decide | omega | (simp only [LN]; omega) | (simp only [LN]; done) | fail) only [SV, f25, Nat.zero_add, beq_self_eq_true, V.laid, V.cells, Nat.reduceAdd, if_true, Nat.reduceBEq, Bool.and_self, evFa, Nat.add_zero, List.getElem?_cons_zero, evBin, intBin, e_conv, evConv, V.cell, decide_true, asD, V.new1, D.flat, Bool.or_true, e_b2s, hb, V.own, V.own1, Bool.or_self, V.new, V.flatV, V.flat1, Bool.not_true, Bool.and_false, Bool.false_and, view, viewD, h, Bool.false_eq_true, if_false, V.refs, oneOr, finV, finA, finC]
    · rw [if_neg g2]
      by_cases g3 : kind = 8
      · subst g3
        rw [if_pos rfl]
        have h := h39 text 34 hl (Or.inr rfl)
        have e34 : ((34 : UInt8).toNat : Int) = 34 := rfl
        rw [e34] at h
        simp (disch := first | decide | omega | (simp only [LN]; omega) | (simp only [LN]; done) | fail) only [SV, f25, Nat.zero_add, beq_self_eq_true, V.laid, V.cells, Nat.reduceAdd, if_true, Nat.reduceBEq, Bool.and_self, evFa, Nat.add_zero, List.getElem?_cons_zero, evBin, intBin, V.own, V.own1, Bool.or_self, V.new, V.new1, D.flat, Bool.or_true, V.flatV, V.flat1, Bool.not_true, Bool.and_false, Bool.false_and, view, viewD, h, Bool.false_eq_true, if_false, V.refs, decide_true, oneOr, finV, finA, finC]
      · rw [if_neg g3]
        simp (disch := first | decide | omega | (simp only [LN]; omega) | (simp only [LN]; done) | fail) only [SV, f25, Nat.zero_add, beq_self_eq_true, V.laid, V.cells, Nat.reduceAdd, if_true, Nat.reduceBEq, Bool.and_self, evFa, Nat.add_zero, List.getElem?_cons_zero, evBin, intBin, V.refs, decide_true, oneOr, Bool.false_eq_true, if_false, finV, finA, finC]

theorem ev_isToken (K : Cx) (h27 : K27 K) (h31 : K31 K) (h32 : K32 K) (t : Tok) (ht : TokI t) : runFun K f21 [vT t] [] = some (.d false (.bool (escTokS t)), [], []) := by
  obtain ⟨kind, text, num, at_⟩ := t
  obtain ⟨hl, hn⟩ := ht
  unfold vT escTokS
  simp only at hl hn ⊢
  by_cases g1 : kind = 6
  · subst g1
    rw [if_pos rfl]
    by_cases g2 : text = []
    · subst g2
      have e : (([] : BS) = []) = True := eq_true rfl
      by_cases g3 : 0 ≤ num
      · by_cases g4 : num ≤ 4611686018427387903
        · simp (disch := first | decide | omega | (simp only [LN]; omega) | (simp only [LN]; done) | fail) only [SV, f21, Nat.zero_add, beq_self_eq_true, V.laid, V.cells, Nat.reduceAdd, if_true, Nat.reduceBEq, Bool.and_self, evFa, Nat.add_zero, List.getElem?_cons_zero, evBin, intBin, strBin, decide_true, V.refs, oneOr, Bool.false_eq_true, if_false, finV, finA, finC]
        · simp (disch := first | decide | omega | (simp only [LN]; omega) | (simp only [LN]; done) | fail) only [SV, f21, Nat.zero_add, beq_self_eq_true, V.laid, V.cells, Nat.reduceAdd, if_true, Nat.reduceBEq, Bool.and_self, evFa, Nat.add_zero, List.getElem?_cons_zero, evBin, intBin, strBin, decide_true, decide_false, Bool.and_false, V.refs, oneOr, Bool.false_eq_true, if_false, finV, finA, finC]
      · simp (disch := first | decide | omega | (simp only [LN]; omega) | (simp only [LN]; done) | fail) only [SV, f21, Nat.zero_add, beq_self_eq_true, V.laid, V.cells, Nat.reduceAdd, if_true, Nat.reduceBEq, Bool.and_self, evFa, Nat.add_zero, List.getElem?_cons_zero, evBin, intBin, strBin, decide_true, decide_false, Bool.and_false, Bool.and_true, V.refs, oneOr, Bool.false_eq_true, if_false, finV, finA, finC]
    · have e : (text = []) = False := eq_false g2
      clear g2
      simp (disch := first | decide | omega | (simp only [LN]; omega) | (simp only [LN]; done) | fail) only [SV, f21, Nat.zero_add, beq_self_eq_true, V.laid, V.cells, Nat.reduceAdd, if_true, Nat.reduceBEq, Bool.and_self, evFa, Nat.add_zero, List.getElem?_cons_zero, evBin, intBin, strBin, e, decide_false, Bool.false_and, V.refs, decide_true, oneOr, Bool.false_eq_true, if_false, finV, finA, finC]
  · rw [if_neg g1]
    by_cases g2 : kind = 7
    · subst g2
      rw [if_pos rfl]
      by_cases g2 : text = []
      · subst g2
        have e : (([] : BS) = []) = True := eq_true rfl
        by_cases g3 : 0 ≤ num
        · by_cases g4 : num ≤ 255
          · simp (disch := first | decide | omega | (simp only [LN]; omega) | (simp only [LN]; done) | fail) only [SV, f21, Nat.zero_add, beq_self_eq_true, V.laid, V.cells, Nat.reduceAdd, if_true, Nat.reduceBEq, Bool.and_self, evFa, Nat.add_zero, List.getElem?_cons_zero, evBin, intBin, strBin, decide_true, V.refs, oneOr, Bool.false_eq_true, if_false, finV, finA, finC]
          · simp (disch := first | decide | omega | (simp only [LN]; omega) | (simp only [LN]; done) | fail) only [SV, f21, Nat.zero_add, beq_self_eq_true, V.laid, V.cells, Nat.reduceAdd, if_true, Nat.reduceBEq, Bool.and_self, evFa, Nat.add_zero, List.getElem?_cons_zero, evBin, intBin, strBin, decide_true, decide_false, Bool.and_false, V.refs, oneOr, Bool.false_eq_true, if_false, finV, finA, finC]
        · simp (disch := first | decide | omega | (simp only [LN]; omega) | (simp only [LN]; done) | fail) only [SV, f21, Nat.zero_add, beq_self_eq_true, V.laid, V.cells, Nat.reduceAdd, if_true, Nat.reduceBEq, Bool.and_self, evFa, Nat.add_zero, List.getElem?_cons_zero, evBin, intBin, strBin, decide_true, decide_false, Bool.and_false, Bool.and_true, V.refs, oneOr, Bool.false_eq_true, if_false, finV, finA, finC]
      · have e : (text = []) = False := eq_false g2
        clear g2
        simp (disch := first | decide | omega | (simp only [LN]; omega) | (simp only [LN]; done) | fail) only [SV, f21, Nat.zero_add, beq_self_eq_true, V.laid, V.cells, Nat.reduceAdd, if_true, Nat.reduceBEq, Bool.and_self, evFa, Nat.add_zero, List.getElem?_cons_zero, evBin, intBin, strBin, e, decide_false, Bool.false_and, V.refs, decide_true, oneOr, Bool.false_eq_true, if_false, finV, finA, finC]
    · rw [if_neg g2]
      by_cases g3 : kind = 8
      · subst g3
        rw [if_pos rfl]
        by_cases g4 : num = 0
        · subst g4; simp (disch := first | decide | omega | (simp only [LN]; omega) | (simp only [LN]; done) | fail) only [SV, f21, Nat.zero_add, beq_self_eq_true, V.laid, V.cells, Nat.reduceAdd, if_true, Nat.reduceBEq, Bool.and_self, evFa, Nat.add_zero, List.getElem?_cons_zero, evBin, intBin, V.refs, decide_true, oneOr, Bool.false_eq_true, if_false, finV, finA, finC]
        · have e : (num == 0) = false := by simpa using g4
          have e' : decide (num = 0) = false := by simpa using g4
          rw [e']
          simp (disch := first | decide | omega | (simp only [LN]; omega) | (simp only [LN]; done) | fail) only [SV, f21, Nat.zero_add, beq_self_eq_true, V.laid, V.cells, Nat.reduceAdd, if_true, Nat.reduceBEq, Bool.and_self, evFa, Nat.add_zero, List.getElem?_cons_zero, evBin, intBin, e, V.refs, decide_true, oneOr, Bool.false_eq_true, if_false, finV, finA, finC]
      · rw [if_neg g3]
        have no : ∀ (b : Bool), b = false → runFun K f21 [.agg [vI kind, vS text, vI num, vI at_]] [] = some (.d false (.bool b), [], []) → runFun K f21 [.agg [vI kind, vS text, vI num, vI at_]] [] = some (.d false (.bool false), [], []) := fun b hb h => by rw [hb] at h; exact h
        clear no
        by_cases g4 : num = 0
        · subst g4
          by_cases g5 : text = []
          · subst g5
            have e : (([] : BS) = []) = True := eq_true rfl
            rw [if_pos (Or.inr (Or.inl rfl))]
            simp (disch := first | decide | omega | (simp only [LN]; omega) | (simp only [LN]; done) | fail) only [SV, f21, Nat.zero_add, beq_self_eq_true, V.laid, V.cells, Nat.reduceAdd, if_true, Nat.reduceBEq, Bool.and_self, evFa, Nat.add_zero, List.getElem?_cons_zero, evBin, intBin, bne_self_eq_false, strBin, decide_true, Bool.or_true, V.own, V.own1, Bool.or_self, V.new, V.new1, D.flat, V.flatV, V.flat1, Bool.not_true, Bool.and_false, Bool.false_and, view, viewD, orV_true, V.refs, oneOr, Bool.false_eq_true, if_false, finV, finA, finC]
          · have e : (text = []) = False := eq_false g5
            have hpos : 0 < text.length := by cases text with | nil => exact absurd rfl g5 | cons a b => simp
            have c0 := h27 text 0 (by omega)
            have d0 := h31 text hl
            have t0 := h32 text 0 hpos hl
            have hb := nth_bAt (s := text) (i := 0) hpos
            rw [List.drop_zero] at c0 t0 hb
            rw [Int.natCast_zero] at c0 t0 hb
            by_cases g6 : cls text = 5
            · rw [g6] at c0
              cases g7 : dsh text with
              | true =>
                rw [if_pos (Or.inr (Or.inr ⟨g6, rfl⟩))]
                rw [g7] at d0
                clear g5 g6
                simp (disch := first | decide | omega | (simp only [LN]; omega) | (simp only [LN]; done) | fail) only [SV, f21, Nat.zero_add, beq_self_eq_true, V.laid, V.cells, Nat.reduceAdd, if_true, Nat.reduceBEq, Bool.and_self, evFa, Nat.add_zero, List.getElem?_cons_zero, evBin, intBin, bne_self_eq_false, strBin, e, decide_false, Bool.or_self, V.own, V.own1, V.new, V.new1, D.flat, Bool.or_true, V.flatV, V.flat1, Bool.not_true, Bool.and_false, Bool.false_and, view, viewD, c0, nc, Bool.false_eq_true, if_false, d0, V.refs, decide_true, oneOr, finV, finA, finC]
              | false =>
                rw [if_neg (by rintro (h | h | h); exact h rfl; exact g5 h; exact absurd h.2 (by simp))]
                rw [g7] at d0
                by_cases g8 : bAt text = 39
                · exfalso
                  cases text with
                  | nil => exact g5 rfl
                  | cons a r =>
                    have : a = 39 := g8
                    subst this
                    have : clB 39 = 5 := g6
                    exact absurd this (by decide)
                · have g8' := u8n 39 rfl g8
                  rw [if_neg (by rintro (h | h | h | h); omega; omega; omega; exact g8 h)]
                  have hns := tokS_ns text
                  have htb := fun e => tokS_bad (r := text) (e := e)
                  cases hz : tokS text with
                  | skip k => exact absurd hz (hns k)
                  | bad k =>
                    have hk := htb k hz
                    rw [hz, stV_bad] at t0
                    clear g5 g6 g8 hns htb
                    have : ¬ ((k : Int) = 0) := by omega
                    simp (disch := first | decide | omega | (simp only [LN]; omega) | (simp only [LN]; done) | fail) only [SV, f21, Nat.zero_add, beq_self_eq_true, V.laid, V.cells, Nat.reduceAdd, if_true, Nat.reduceBEq, Bool.and_self, evFa, Nat.add_zero, List.getElem?_cons_zero, evBin, intBin, bne_self_eq_false, strBin, e, decide_false, Bool.or_self, V.own, V.own1, V.new, V.new1, D.flat, Bool.or_true, V.flatV, V.flat1, Bool.not_true, Bool.and_false, Bool.false_and, view, viewD, c0, nc, Bool.false_eq_true, if_false, d0, hb, t0, evExt, List.getElem?_cons_succ, Nat.le_refl, lose, evLen, V.refs, decide_true, oneOr, finV, finA, finC]
                  | tok k tx m n =>
                    rw [hz, stV_tok] at t0
                    simp only [Nat.zero_add] at t0 ⊢
                    clear g5 g6 g8 hns htb
                    by_cases w1 : n = text.length
                    · subst w1
                      by_cases w2 : (k : Int) = kind
                      · subst w2
                        simp (disch := first | decide | omega | (simp only [LN]; omega) | (simp only [LN]; done) | fail) only [SV, f21, Nat.zero_add, beq_self_eq_true, V.laid, V.cells, Nat.reduceAdd, if_true, Nat.reduceBEq, Bool.and_self, evFa, Nat.add_zero, List.getElem?_cons_zero, evBin, intBin, bne_self_eq_false, strBin, e, decide_false, Bool.or_self, V.own, V.own1, V.new, V.new1, D.flat, Bool.or_true, V.flatV, V.flat1, Bool.not_true, Bool.and_false, Bool.false_and, view, viewD, c0, nc, Bool.false_eq_true, if_false, d0, hb, t0, evExt, List.getElem?_cons_succ, Nat.le_refl, lose, evLen, V.refs, decide_true, oneOr, finV, finA, finC]
                      · have w2' : (((k : Int)) == kind) = false := by simpa using w2
                        have w2'' : decide (((k : Int)) = kind) = false := by simpa using w2
                        rw [w2'']
                        clear w2
                        simp (disch := first | decide | omega | (simp only [LN]; omega) | (simp only [LN]; done) | fail) only [SV, f21, Nat.zero_add, beq_self_eq_true, V.laid, V.cells, Nat.reduceAdd, if_true, Nat.reduceBEq, Bool.and_self, evFa, Nat.add_zero, List.getElem?_cons_zero, evBin, intBin, bne_self_eq_false, strBin, e, decide_false, Bool.or_self, V.own, V.own1, V.new, V.new1, D.flat, Bool.or_true, V.flatV, V.flat1, Bool.not_true, Bool.and_false, Bool.false_and, view, viewD, c0, nc, Bool.false_eq_true, if_false, d0, hb, t0, evExt, List.getElem?_cons_succ, Nat.le_refl, lose, evLen, w2', V.refs, decide_true, oneOr, finV, finA, finC]
                    · have w1' : (((n : Int)) == (text.length : Int)) = false := by simp; omega
                      have w1'' : decide (n = text.length) = false := by simpa using w1
                      rw [w1'']
                      clear w1
                      simp (disch := first | decide | omega | (simp only [LN]; omega) | (simp only [LN]; done) | fail) only [SV, f21, Nat.zero_add, beq_self_eq_true, V.laid, V.cells, Nat.reduceAdd, if_true, Nat.reduceBEq, Bool.and_self, evFa, Nat.add_zero, List.getElem?_cons_zero, evBin, intBin, bne_self_eq_false, strBin, e, decide_false, Bool.or_self, V.own, V.own1, V.new, V.new1, D.flat, Bool.or_true, V.flatV, V.flat1, Bool.not_true, Bool.and_false, Bool.false_and, view, viewD, c0, nc, Bool.false_eq_true, if_false, d0, hb, t0, evExt, List.getElem?_cons_succ, Nat.le_refl, lose, evLen, w1', V.refs, decide_true, oneOr, finV, finA, finC]
            · have g6' : ¬ ((cls text : Int) = 5) := by omega
              rw [if_neg (by rintro (h | h | h); exact h rfl; exact g5 h; exact g6 h.1)]
              by_cases g7 : cls text = 3
              · rw [if_pos (Or.inl g7)]
                rw [g7] at c0
                clear g5 g6
                simp (disch := first | decide | omega | (simp only [LN]; omega) | (simp only [LN]; done) | fail) only [SV, f21, Nat.zero_add, beq_self_eq_true, V.laid, V.cells, Nat.reduceAdd, if_true, Nat.reduceBEq, Bool.and_self, evFa, Nat.add_zero, List.getElem?_cons_zero, evBin, intBin, bne_self_eq_false, strBin, e, decide_false, Bool.or_self, V.own, V.own1, V.new, V.new1, D.flat, Bool.or_true, V.flatV, V.flat1, Bool.not_true, Bool.and_false, Bool.false_and, view, viewD, c0, nc, Bool.false_eq_true, if_false, Bool.or_false, hb, Bool.true_or, V.refs, decide_true, oneOr, finV, finA, finC]
              · by_cases g8 : cls text = 0
                · rw [if_pos (Or.inr (Or.inl g8))]
                  rw [g8] at c0
                  clear g5 g6
                  simp (disch := first | decide | omega | (simp only [LN]; omega) | (simp only [LN]; done) | fail) only [SV, f21, Nat.zero_add, beq_self_eq_true, V.laid, V.cells, Nat.reduceAdd, if_true, Nat.reduceBEq, Bool.and_self, evFa, Nat.add_zero, List.getElem?_cons_zero, evBin, intBin, bne_self_eq_false, strBin, e, decide_false, Bool.or_self, V.own, V.own1, V.new, V.new1, D.flat, Bool.or_true, V.flatV, V.flat1, Bool.not_true, Bool.and_false, Bool.false_and, view, viewD, c0, nc, Bool.false_eq_true, if_false, Bool.or_false, hb, Bool.true_or, V.refs, decide_true, oneOr, finV, finA, finC]
                · by_cases g9 : cls text = 7
                  · rw [if_pos (Or.inr (Or.inr (Or.inl g9)))]
                    rw [g9] at c0
                    clear g5 g6
                    simp (disch := first | decide | omega | (simp only [LN]; omega) | (simp only [LN]; done) | fail) only [SV, f21, Nat.zero_add, beq_self_eq_true, V.laid, V.cells, Nat.reduceAdd, if_true, Nat.reduceBEq, Bool.and_self, evFa, Nat.add_zero, List.getElem?_cons_zero, evBin, intBin, bne_self_eq_false, strBin, e, decide_false, Bool.or_self, V.own, V.own1, V.new, V.new1, D.flat, Bool.or_true, V.flatV, V.flat1, Bool.not_true, Bool.and_false, Bool.false_and, view, viewD, c0, nc, Bool.false_eq_true, if_false, hb, Bool.true_or, V.refs, decide_true, oneOr, finV, finA, finC]
                  · have g7' : ¬ ((cls text : Int) = 3) := by omega
                    have g8' : ¬ ((cls text : Int) = 0) := by omega
                    have g9' : ¬ ((cls text : Int) = 7) := by omega
                    by_cases gA : bAt text = 39
                    · rw [if_pos (Or.inr (Or.inr (Or.inr gA)))]
                      have gA' := u8y 39 rfl gA
                      clear g5 g6 gA
                      simp (disch := first | decide | omega | (simp only [LN]; omega) | (simp only [LN]; done) | fail) only [SV, f21, Nat.zero_add, beq_self_eq_true, V.laid, V.cells, Nat.reduceAdd, if_true, Nat.reduceBEq, Bool.and_self, evFa, Nat.add_zero, List.getElem?_cons_zero, evBin, intBin, bne_self_eq_false, strBin, e, decide_false, Bool.or_self, V.own, V.own1, V.new, V.new1, D.flat, Bool.or_true, V.flatV, V.flat1, Bool.not_true, Bool.and_false, Bool.false_and, view, viewD, c0, Bool.false_eq_true, if_false, hb, eq_t, V.refs, decide_true, oneOr, finV, finA, finC]
                    · have gA' := u8n 39 rfl gA
                      rw [if_neg (by rintro (h | h | h | h); exact g7 h; exact g8 h; exact g9 h; exact gA h)]
                      have hns := tokS_ns text
                      have htb := fun e => tokS_bad (r := text) (e := e)
                      cases hz : tokS text with
                      | skip k => exact absurd hz (hns k)
                      | bad k =>
                        have hk := htb k hz
                        rw [hz, stV_bad] at t0
                        clear g5 g6 g7 g8 g9 gA hns htb
                        have : ¬ ((k : Int) = 0) := by omega
                        simp (disch := first | decide | omega | (simp only [LN]; omega) | (simp only [LN]; done) | fail) only [SV, f21, Nat.zero_add, beq_self_eq_true, V.laid, V.cells, Nat.reduceAdd, if_true, Nat.reduceBEq, Bool.and_self, evFa, Nat.add_zero, List.getElem?_cons_zero, evBin, intBin, bne_self_eq_false, strBin, e, decide_false, Bool.or_self, V.own, V.own1, V.new, V.new1, D.flat, Bool.or_true, V.flatV, V.flat1, Bool.not_true, Bool.and_false, Bool.false_and, view, viewD, c0, Bool.false_eq_true, if_false, d0, hb, t0, evExt, List.getElem?_cons_succ, Nat.le_refl, lose, evLen, V.refs, decide_true, oneOr, finV, finA, finC]
                      | tok k tx m n =>
                        rw [hz, stV_tok] at t0
                        simp only [Nat.zero_add] at t0 ⊢
                        clear g5 g6 g7 g8 g9 gA hns htb
                        by_cases w1 : n = text.length
                        · subst w1
                          by_cases w2 : (k : Int) = kind
                          · subst w2
                            simp (disch := first | decide | omega | (simp only [LN]; omega) | (simp only [LN]; done) | fail) only [SV, f21, Nat.zero_add, beq_self_eq_true, V.laid, V.cells, Nat.reduceAdd, if_true, Nat.reduceBEq, Bool.and_self, evFa, Nat.add_zero, List.getElem?_cons_zero, evBin, intBin, bne_self_eq_false, strBin, e, decide_false, Bool.or_self, V.own, V.own1, V.new, V.new1, D.flat, Bool.or_true, V.flatV, V.flat1, Bool.not_true, Bool.and_false, Bool.false_and, view, viewD, c0, Bool.false_eq_true, if_false, d0, hb, t0, nc, evExt, List.getElem?_cons_succ, Nat.le_refl, lose, evLen, V.refs, decide_true, oneOr, finV, finA, finC]
                          · have w2' : (((k : Int)) == kind) = false := by simpa using w2
                            have w2'' : decide (((k : Int)) = kind) = false := by simpa using w2
                            rw [w2'']
                            clear w2
                            simp (disch := first | decide | omega | (simp only [LN]; omega) | (simp only [LN]; done) | fail) only [SV, f21, Nat.zero_add, beq_self_eq_true, V.laid, V.cells, Nat.reduceAdd, if_true, Nat.reduceBEq, Bool.and_self, evFa, Nat.add_zero, List.getElem?_cons_zero, evBin, intBin, bne_self_eq_false, strBin, e, decide_false, Bool.or_self, V.own, V.own1, V.new, V.new1, D.flat, Bool.or_true, V.flatV, V.flat1, Bool.not_true, Bool.and_false, Bool.false_and, view, viewD, c0, Bool.false_eq_true, if_false, d0, hb, t0, nc, evExt, List.getElem?_cons_succ, Nat.le_refl, lose, evLen, w2', V.refs, decide_true, oneOr, finV, finA, finC]
                        · have w1' : (((n : Int)) == (text.length : Int)) = false := by simp; omega
                          have w1'' : decide (n = text.length) = false := by simpa using w1
                          rw [w1'']
                          clear w1
                          simp (disch := first | decide | omega | (simp only [LN]; omega) | (simp only [LN]; done) | fail) only [SV, f21, Nat.zero_add, beq_self_eq_true, V.laid, V.cells, Nat.reduceAdd, if_true, Nat.reduceBEq, Bool.and_self, evFa, Nat.add_zero, List.getElem?_cons_zero, evBin, intBin, bne_self_eq_false, strBin, e, decide_false, Bool.or_self, V.own, V.own1, V.new, V.new1, D.flat, Bool.or_true, V.flatV, V.flat1, Bool.not_true, Bool.and_false, Bool.false_and, view, viewD, c0, Bool.false_eq_true, if_false, d0, hb, t0, nc, evExt, List.getElem?_cons_succ, Nat.le_refl, lose, evLen, w1', V.refs, decide_true, oneOr, finV, finA, finC]
        · rw [if_pos (Or.inl g4)]
          have e : (num != 0) = true := by simpa using g4
          clear g4
          simp (disch := first | decide | omega | (simp only [LN]; omega) | (simp only [LN]; done) | fail) only [SV, f21, Nat.zero_add, beq_self_eq_true, V.laid, V.cells, Nat.reduceAdd, if_true, Nat.reduceBEq, Bool.and_self, evFa, Nat.add_zero, List.getElem?_cons_zero, evBin, intBin, e, strBin, Bool.true_or, V.own, V.own1, Bool.or_self, V.new, V.new1, D.flat, Bool.or_true, V.flatV, V.flat1, Bool.not_true, Bool.and_false, Bool.false_and, view, viewD, orV_true, V.refs, decide_true, oneOr, Bool.false_eq_true, if_false, finV, finA, finC]
end Go.Vm
end

section
namespace Go.Vm
set_option maxRecDepth 20000
/- 'sloth/lex.Print' -/
def f11_L0 : C :=
 (.seq
  (.reg [⟨[], [(15, (.bin .lss (.sl 14) (.sl 13)))], [], none, [0, 12, 13, 14], 1, [], [], []⟩])
  (.seq
   (.cond (.sl 15)
    .skip
    (.seq
     (.tidy 0 [0])
     (.exit 0)))
   (.seq
    (.block 1
     (.seq
      (.reg [⟨[(5, .box (.agg (.cons (.int .i64 0) (.cons (.str []) (.cons (.int .i64 0) (.cons (.int .i64 0) .nil))))))], [], [], some (none, .store 4 (.sl 5) (.ld 4 true (.ia 4 (.sl 12) (.sl 14)))), [0, 5, 12, 13, 14], 4, [], [], []⟩])
      (.seq
       (.reg [⟨[], [(20, (.un .not (.call 21 (.cons (.ld 4 true (.sl 5)) .nil))))], [], none, [0, 12, 13, 14], 3, [], [], []⟩])
       (.cond (.sl 20)
        (.seq
         (.reg [⟨[], [(2, (.str [])), (3, (.int .i64 1))], [], none, [], 2, [], [], []⟩])
         (.seq
          (.tidy 0 [2, 3])
          .ret))
        .skip))))
    (.reg [⟨[], [(14, (.bin .add (.sl 14) (.int .i64 1)))], [], none, [0, 12, 13], 2, [], [], []⟩]))))
def f11_L1 : C :=
 (.seq
  (.reg [⟨[], [(25, (.bin .lss (.sl 24) (.sl 23)))], [], none, [6, 22, 23, 24], 1, [], [], []⟩])
  (.seq
   (.cond (.sl 25)
    .skip
    (.seq
     (.tidy 0 [6])
     (.exit 2)))
   (.seq
    (.block 3
     (.seq
      (.reg [⟨[(8, .box (.agg (.cons (.int .i64 0) (.cons (.str []) (.cons (.int .i64 0) (.cons (.int .i64 0) .nil))))))], [(7, (.sl 24))], [], some (none, .store 4 (.sl 8) (.ld 4 true (.ia 4 (.sl 22) (.sl 24)))), [6, 8, 22, 23, 24], 6, [], [], []⟩])
      (.seq
       (.seq
        (.reg [⟨[], [(30, (.bin .gtr (.sl 7) (.int .i64 0)))], [], none, [6, 8, 22, 23, 24], 2, [], [], []⟩])
        (.cond (.sl 30)
         (.reg [⟨[], [], [], some (some 31, .calle 22 (.cons (.sl 6) (.cons (.int .u8 32) .nil))), [6, 8, 22, 23, 24], 1, [], [], []⟩])
         .skip))
       (.seq
        (.reg [⟨[], [], [], some (some 32, .calle 23 (.cons (.sl 6) .nil)), [6, 8, 22, 23, 24], 1, [], [], []⟩, ⟨[], [(33, (.bin .leq (.sl 32) (.int .i64 65536)))], [], none, [6, 8, 22, 23, 24], 1, [], [], []⟩])
        (.cond (.sl 33)
         (.reg [⟨[], [], [], some (some 36, .calle 24 (.cons (.sl 6) (.cons (.call 25 (.cons (.ld 4 true (.sl 8)) .nil)) .nil))), [6, 22, 23, 24], 3, [], [], []⟩])
         .skip)))))
    (.reg [⟨[], [(24, (.bin .add (.sl 24) (.int .i64 1)))], [], none, [6, 22, 23], 2, [], [], []⟩]))))
def f11 : Fun := ⟨
 (.seq
  (.reg [⟨[], [], [(.int .i64 0), (.str [])], none, [0], 2, [], [], []⟩])
  (.seq
   (.seq
    (.reg [⟨[], [(11, (.bin .gtr (.len false (.sl 0)) (.int .i64 20000)))], [], none, [0], 3, [], [], []⟩])
    (.cond (.sl 11)
     (.seq
      (.reg [⟨[], [(2, (.str [])), (3, (.int .i64 2))], [], none, [], 2, [], [], []⟩])
      (.seq
       (.tidy 0 [2, 3])
       .ret))
     .skip))
   (.seq
    (.seq
     (.reg [⟨[], [(12, (.sl 0)), (13, (.len false (.sl 0))), (14, (.int .i64 0))], [], none, [0], 3, [], [], []⟩])
     (.block 0
      (.seq (.tidy 0 [0, 12, 13, 14]) (.loop (.seq (.tidy 0 [0, 12, 13, 14]) f11_L0)))))
    (.seq
     (.reg [⟨[(6, .bld 50 5)], [], [], none, [0, 6], 1, [], [], []⟩])
     (.seq
      (.seq
       (.reg [⟨[], [(22, (.sl 0)), (23, (.len false (.sl 0))), (24, (.int .i64 0))], [], none, [6], 3, [], [], []⟩])
       (.block 2
        (.seq (.tidy 0 [6, 22, 23, 24]) (.loop (.seq (.tidy 0 [6, 22, 23, 24]) f11_L1)))))
      (.seq
       (.seq
        (.reg [⟨[], [], [], some (some 38, .calle 23 (.cons (.sl 6) .nil)), [6], 1, [], [], []⟩, ⟨[], [(39, (.bin .gtr (.sl 38) (.int .i64 65536)))], [], none, [6], 1, [], [], []⟩])
        (.cond (.sl 39)
         (.seq
          (.reg [⟨[], [(2, (.str [])), (3, (.int .i64 4))], [], none, [], 2, [], [], []⟩])
          (.seq
           (.tidy 0 [2, 3])
           .ret))
         .skip))
       (.seq
        (.reg [⟨[], [], [], some (some 40, .calle 26 (.cons (.sl 6) .nil)), [], 1, [], [], []⟩, ⟨[], [(2, (.sl 40)), (3, (.int .i64 0))], [], none, [], 2, [], [], []⟩])
        (.seq
         (.tidy 0 [2, 3])
         .ret)))))))),
 [(.sl 2), (.sl 3)], false⟩
theorem f11_ok : funOk Go.Proofs.Tryd.prog 11 0 1 f11 = true := by kernel_rfl


instance : Inhabited Tok := ⟨⟨0, [], 0, 0⟩⟩
def prL : BS → Nat → List Tok → BS
  | b, _, [] => b
  | b, i, t :: l =>
    if (if 0 < i then b ++ [32] else b).length ≤ 65536 then prL ((if 0 < i then b ++ [32] else b) ++ writS t) (i + 1) l
    else prL (if 0 < i then b ++ [32] else b) (i + 1) l
def printS (l : List Tok) : BS × Int :=
  if 20000 < l.length then ([], 2)
  else if l.all escTokS then (if 65536 < (prL [] 0 l).length then ([], 4) else (prL [] 0 l, 0))
  else ([], 1)

theorem decDigits_le : ∀ (k u : Nat), u < 10 ^ (k + 1) → (Lib.decDigits u).length ≤ k + 1
  | 0, u, h => by rw [Lib.decDigits, dif_pos (by simpa using h)]; simp
  | k + 1, u, h => by
    rw [Lib.decDigits]
    by_cases g : u < 10
    · rw [dif_pos g]; simp
    · rw [dif_neg g]
      have := decDigits_le k (u / 10) (by rw [Nat.pow_succ] at h; omega)
      simp only [List.length_append, List.length_singleton]
      omega
theorem itoa_le (n : Int) (h : -9223372036854775808 ≤ n ∧ n ≤ 9223372036854775807) : (Lib.itoa n).length ≤ 21 := by
  unfold Lib.itoa
  split
  · have := decDigits_le 19 n.natAbs (by omega)
    simp only [List.length_cons]; omega
  · have := decDigits_le 19 n.toNat (by omega)
    omega
theorem escS_len (s : BS) (q : UInt8) : (escS s q).length ≤ 4 * s.length + 2 := by
  have := escL_len q s
  simp only [escS, List.length_cons, List.length_append, List.length_nil]
  omega
theorem writS_len {t : Tok} (h : TokI t) : (writS t).length ≤ 8000002 := by
  unfold writS
  have h1 := h.len
  split
  · have := itoa_le t.num h.num; omega
  · split
    · have := escS_len [UInt8.ofNat (t.num % 256).toNat] 39
      simp only [List.length_singleton] at this; omega
    · split
      · have := escS_len t.text 34; omega
      · omega

def TokL (l : List Tok) : Prop := l.length ≤ 4611686018427387903 ∧ ∀ t ∈ l, TokI t
theorem nthT {l : List Tok} {k : Nat} {t : Tok} {r : List Tok} (h : l.drop k = t :: r) : k < l.length ∧ nth l (k : Int) = t ∧ l.drop (k + 1) = r ∧ t ∈ l := by
  have hl : k < l.length := by
    apply Classical.byContradiction
    intro hc
    rw [List.drop_eq_nil_of_le (by omega)] at h
    cases h
  have h2 := List.drop_eq_getElem_cons hl
  rw [h] at h2
  injection h2 with h3 h4
  refine ⟨hl, ?_, h4.symm, ?_⟩
  · simp [nth, hl, h3]
  · rw [h3]; exact List.getElem_mem _

theorem pr_check (K : Cx) (h21 : K21 K) (l : List Tok) (hl : TokL l) : ∀ (r : List Tok) (k : Nat), l.drop k = r → k ≤ l.length →
    lp K 0 [0, 12, 13, 14] f11_L0 ⟨[(0, .d false (.sl 4 (l.map eTok))), (12, .d false (.sl 4 (l.map eTok))), (13, vI l.length), (14, vI k)], [], 0, []⟩ =
      some (if r.all escTokS then (.exit 0, ⟨[(0, .d false (.sl 4 (l.map eTok)))], [], 0, []⟩) else (.ret, ⟨[(2, vS []), (3, vI 1)], [], 0, []⟩)) := by
  have hlen := hl.1
  intro r
  induction r with
  | nil =>
    intro k hd hk
    have hx := congrArg List.length hd
    rw [List.length_drop, List.length_nil] at hx
    rw [List.all_nil, if_pos rfl, lp_un f11_L0.eq_1]
    simp (disch := first | decide | omega | (simp only [LN]; omega) | (simp only [LN]; done) | fail) only [SV, Nat.reduceBEq, beq_self_eq_true, evBin, intBin, decide_false, if_true, V.refs, decide_true, Bool.and_self]
  | cons t r ih =>
    intro k hd hk
    obtain ⟨n1, n2, n3, n4⟩ := nthT hd
    have h := h21 t (hl.2 t n4)
    have ih := ih (k + 1) n3 (by omega)
    rw [lp_un f11_L0.eq_1]
    unfold vT at h
    cases g : escTokS t with
    | true =>
      rw [g] at h
      rw [List.all_cons, g, Bool.true_and, ← ih]
      clear ih
      simp (disch := first | decide | omega | (simp only [LN]; omega) | (simp only [LN]; done) | fail) only [SV, Nat.reduceBEq, beq_self_eq_true, evBin, intBin, decide_true, if_true, V.laid, V.cells, Nat.zero_add, Nat.reduceAdd, eTok, n2, D.flat, Nat.le_refl, Bool.and_self, lose, List.getElem?_cons_zero, V.own, V.own1, Bool.or_self, V.new, V.new1, Bool.or_true, V.flatV, V.flat1, Bool.not_true, Bool.and_false, Bool.false_and, view, viewD, h, Bool.false_eq_true, if_false, evUn, cast1, V.refs]
    | false =>
      rw [g] at h
      rw [List.all_cons, g, Bool.false_and, if_neg (by simp)]
      clear ih
      simp (disch := first | decide | omega | (simp only [LN]; omega) | (simp only [LN]; done) | fail) only [SV, Nat.reduceBEq, beq_self_eq_true, evBin, intBin, decide_true, if_true, V.laid, V.cells, Nat.zero_add, Nat.reduceAdd, eTok, n2, D.flat, Nat.le_refl, Bool.and_self, lose, List.getElem?_cons_zero, V.own, V.own1, Bool.or_self, V.new, V.new1, Bool.or_true, V.flatV, V.flat1, Bool.not_true, Bool.and_false, Bool.false_and, view, viewD, h, Bool.false_eq_true, if_false, evUn, Bool.not_false, V.refs]

theorem pr_write (K : Cx) (h22 : E22 K) (h23 : E23 K) (h24 : E24 K) (h25 : K25 K) (l : List Tok) (hl : TokL l) (hll : l.length ≤ 20000) : ∀ (r : List Tok) (k : Nat) (b : BS), l.drop k = r → k ≤ l.length → b.length ≤ 8100000 + k →
    lp K 0 [6, 22, 23, 24] f11_L1 ⟨[(6, .ptr 0 0 0), (22, .d false (.sl 4 (l.map eTok))), (23, vI l.length), (24, vI k)], [(0, .map [(.nils 50, .bsl 1 0 b.length)]), (1, .map [(.emps 5, .d false .nilp), (.str b, .d false .nilp)])], 2, []⟩ =
      some (.exit 2, ⟨[(6, .ptr 0 0 0)], [(0, .map [(.nils 50, .bsl 1 0 (prL b k r).length)]), (1, .map [(.emps 5, .d false .nilp), (.str (prL b k r), .d false .nilp)])], 2, []⟩) := by
  have hlen := hl.1
  intro r
  induction r with
  | nil =>
    intro k b hd hk hb
    have hx := congrArg List.length hd
    rw [List.length_drop, List.length_nil] at hx
    simp only [prL]
    rw [lp_un f11_L1.eq_1]
    simp (disch := first | decide | omega | (simp only [LN]; omega) | (simp only [LN]; done) | fail) only [SV, Nat.reduceBEq, beq_self_eq_true, evBin, intBin, decide_false, if_true, V.refs, Bool.or_self, reduceCtorEq, or_self, not_false_eq_true, and_self, decide_true, Bool.and_self, Bool.or_false, Bool.or_true, cond_false, cond_true, Nat.zero_add, Nat.reduceAdd]
  | cons t r ih =>
    intro k b hd hk hb
    obtain ⟨n1, n2, n3, n4⟩ := nthT hd
    have h := h25 t (hl.2 t n4)
    have hw := writS_len (hl.2 t n4)
    rw [lp_un f11_L1.eq_1]
    unfold vT at h
    simp only [prL]
    generalize writS t = x at h hw ⊢
    have w1 := h22 b 32 (by omega)
    have e32 : ((32 : UInt8).toNat : Int) = 32 := rfl
    rw [e32] at w1
    simp only [bldB, bufB, List.length_append, List.length_cons, List.length_nil, Nat.zero_add, List.append_assoc, List.cons_append, List.nil_append, Nat.reduceAdd] at w1
    by_cases g1 : 0 < k
    · rw [if_pos g1]
      have w2 := h23 (b ++ [32])
      have w3 := h24 (b ++ [32]) x (by rw [List.length_append, List.length_singleton]; omega) (by omega)
      simp only [bldB, bufB, List.length_append, List.length_cons, List.length_nil, Nat.zero_add, List.append_assoc, List.cons_append, List.nil_append, Nat.reduceAdd] at w2 w3
      have g1' : (0 : Int) < k := by omega
      by_cases g2 : (b ++ [32]).length ≤ 65536
      · rw [if_pos g2]
        rw [List.length_append, List.length_singleton] at g2
        have ih := ih (k + 1) ((b ++ [32]) ++ x) n3 (by omega) (by simp only [List.length_append, List.length_singleton]; omega)
        rw [← ih]
        clear ih
        simp (disch := first | decide | omega | (simp only [LN]; omega) | (simp only [LN]; done) | fail) only [SV, Nat.reduceBEq, beq_self_eq_true, evBin, intBin, decide_true, if_true, V.laid, V.cells, Nat.zero_add, Nat.reduceAdd, eTok, n2, D.flat, Nat.le_refl, Bool.and_self, lose, V.refs, Bool.or_self, reduceCtorEq, or_self, not_false_eq_true, and_self, Bool.or_false, Bool.or_true, cond_true, cond_false, w1, loseM, List.getElem?_cons_succ, List.getElem?_cons_zero, Nat.reduceSub, Nat.add_zero, V.forget, V.drop1, beq_iff_eq, V.ref0, if_false, Nat.reduceEqDiff, w2, V.own, V.own1, V.new, V.new1, V.flatV, V.flat1, Bool.not_true, Bool.and_false, Bool.false_and, view, viewD, h, Bool.false_eq_true, w3, cast1, List.append_assoc, List.length_append]
      · rw [if_neg g2]
        rw [List.length_append, List.length_singleton] at g2
        have ih := ih (k + 1) (b ++ [32]) n3 (by omega) (by simp only [List.length_append, List.length_singleton]; omega)
        rw [← ih]
        clear ih
        simp (disch := first | decide | omega | (simp only [LN]; omega) | (simp only [LN]; done) | fail) only [SV, Nat.reduceBEq, beq_self_eq_true, evBin, intBin, decide_true, if_true, V.laid, V.cells, Nat.zero_add, Nat.reduceAdd, eTok, n2, D.flat, Nat.le_refl, Bool.and_self, lose, V.refs, Bool.or_self, reduceCtorEq, or_self, not_false_eq_true, and_self, Bool.or_false, Bool.or_true, cond_true, cond_false, w1, loseM, List.getElem?_cons_succ, List.getElem?_cons_zero, Nat.reduceSub, Nat.add_zero, V.forget, V.drop1, beq_iff_eq, V.ref0, if_false, Nat.reduceEqDiff, w2, decide_false, cast1, List.length_append]
    · rw [if_neg g1]
      have w2 := h23 b
      have w3 := h24 b x (by omega) (by omega)
      simp only [bldB, bufB, List.length_append] at w2 w3
      have g1' : ¬ (0 : Int) < k := by omega
      by_cases g2 : b.length ≤ 65536
      · rw [if_pos g2]
        have ih := ih (k + 1) (b ++ x) n3 (by omega) (by simp only [List.length_append]; omega)
        rw [← ih]
        clear ih
        simp (disch := first | decide | omega | (simp only [LN]; omega) | (simp only [LN]; done) | fail) only [SV, Nat.reduceBEq, beq_self_eq_true, evBin, intBin, decide_true, if_true, V.laid, V.cells, Nat.zero_add, Nat.reduceAdd, eTok, n2, D.flat, Nat.le_refl, Bool.and_self, lose, decide_false, V.refs, Bool.or_self, reduceCtorEq, or_self, not_false_eq_true, and_self, Bool.or_false, Bool.or_true, cond_true, cond_false, w2, loseM, List.getElem?_cons_zero, Nat.reduceSub, Nat.add_zero, List.getElem?_cons_succ, V.own, V.own1, V.new, V.new1, V.flatV, V.flat1, Bool.not_true, Bool.and_false, Bool.false_and, view, viewD, h, Bool.false_eq_true, if_false, w3, V.forget, V.drop1, beq_iff_eq, V.ref0, cast1, List.length_append]
      · rw [if_neg g2]
        have ih := ih (k + 1) b n3 (by omega) (by omega)
        rw [← ih]
        clear ih
        simp (disch := first | decide | omega | (simp only [LN]; omega) | (simp only [LN]; done) | fail) only [SV, Nat.reduceBEq, beq_self_eq_true, evBin, intBin, decide_true, if_true, V.laid, V.cells, Nat.zero_add, Nat.reduceAdd, eTok, n2, D.flat, Nat.le_refl, Bool.and_self, lose, decide_false, V.refs, Bool.or_self, reduceCtorEq, or_self, not_false_eq_true, and_self, Bool.or_false, Bool.or_true, cond_true, cond_false, w2, loseM, List.getElem?_cons_zero, Nat.reduceSub, Nat.add_zero, List.getElem?_cons_succ, cast1]

def printV (l : List Tok) : V := .tup [vS (printS l).1, vI (printS l).2]
theorem ev_Print (K : Cx) (h21 : K21 K) (h22 : E22 K) (h23 : E23 K) (h24 : E24 K) (h25 : K25 K) (h26 : E26 K) (l : List Tok) (hl : TokL l) :
    runFun K f11 [.d false (.sl 4 (l.map eTok))] [] = some (printV l, [], []) := by
  have hlen := hl.1
  unfold printV printS
  by_cases g1 : 20000 < l.length
  · rw [if_pos g1]
    simp (disch := first | decide | omega | (simp only [LN]; omega) | (simp only [LN]; done) | fail) only [SV, f11, Nat.zero_add, Bool.and_self, beq_self_eq_true, evLen, evBin, intBin, decide_true, if_true, Nat.reduceBEq, V.refs, oneOr, Bool.false_eq_true, if_false, finV, finA, finC]
  · rw [if_neg g1]
    have c := pr_check K h21 l hl l 0 rfl (by omega)
    rw [Int.natCast_zero] at c
    cases g2 : l.all escTokS with
    | false =>
      rw [g2, if_neg (by simp)] at c
      rw [if_neg (by simp)]
      simp (disch := first | decide | omega | (simp only [LN]; omega) | (simp only [LN]; done) | fail) only [SV, f11, Nat.zero_add, Bool.and_self, beq_self_eq_true, evLen, evBin, intBin, decide_false, if_true, Nat.reduceBEq, V.refs, decide_true, c, oneOr, Bool.false_eq_true, if_false, finV, finA, finC]
    | true =>
      rw [g2, if_pos rfl] at c
      rw [if_pos rfl]
      have w := pr_write K h22 h23 h24 h25 l hl (by omega) l 0 [] rfl (by omega) (by simp)
      rw [Int.natCast_zero, List.length_nil] at w
      have hlb := h23 (prL [] 0 l)
      have hsb := h26 (prL [] 0 l)
      simp only [bldB, bufB] at hlb hsb
      have hb : ∀ (r : List Tok) (k : Nat) (b : BS), (∀ t ∈ r, TokI t) → b.length ≤ 8100000 + k → (prL b k r).length ≤ 8100000 + k + r.length := by
        intro r
        induction r with
        | nil => intro k b _ hb; simpa [prL] using hb
        | cons t r ih =>
          intro k b ht hb
          have hw := writS_len (ht t (by simp))
          have ht' := fun u hu => ht u (List.mem_cons_of_mem _ hu)
          have hbb : (if 0 < k then b ++ [32] else b).length ≤ b.length + 1 := by split <;> simp
          simp only [prL, List.length_cons]
          generalize (if 0 < k then b ++ [32] else b) = b1 at hbb ⊢
          by_cases h : b1.length ≤ 65536
          · rw [if_pos h]
            have := ih (k + 1) (b1 ++ writS t) ht' (by rw [List.length_append]; omega)
            omega
          · rw [if_neg h]
            have := ih (k + 1) b1 ht' (by omega)
            omega
      have hbb := hb l 0 [] hl.2 (by simp)
      generalize prL [] 0 l = b at w hlb hsb hbb ⊢
      clear hb
      by_cases g3 : 65536 < b.length
      · rw [if_pos g3]
        simp (disch := first | decide | omega | (simp only [LN]; omega) | (simp only [LN]; done) | fail) only [SV, f11, Nat.zero_add, Bool.and_self, beq_self_eq_true, evLen, evBin, intBin, decide_false, if_true, Nat.reduceBEq, V.refs, decide_true, c, evMk_bld, Nat.reduceAdd, Bool.or_self, reduceCtorEq, or_self, not_false_eq_true, and_self, Bool.or_false, Bool.or_true, cond_false, cond_true, w, hlb, Nat.le_refl, loseM, List.getElem?_cons_zero, Nat.reduceSub, Nat.add_zero, List.getElem?_cons_succ, lose, oneOr, Bool.false_eq_true, if_false, finV, finA, finC]
      · rw [if_neg g3]
        simp (disch := first | decide | omega | (simp only [LN]; omega) | (simp only [LN]; done) | fail) only [SV, f11, Nat.zero_add, Bool.and_self, beq_self_eq_true, evLen, evBin, intBin, decide_false, if_true, Nat.reduceBEq, V.refs, decide_true, c, evMk_bld, Nat.reduceAdd, Bool.or_self, reduceCtorEq, or_self, not_false_eq_true, and_self, Bool.or_false, Bool.or_true, cond_false, cond_true, w, hlb, Nat.le_refl, loseM, List.getElem?_cons_zero, Nat.reduceSub, Nat.add_zero, List.getElem?_cons_succ, lose, hsb, V.forget, V.drop1, beq_iff_eq, V.ref0, oneOr, Bool.false_eq_true, if_false, finV, finA, finC]
end Go.Vm
end

section
namespace Go.Vm
set_option maxRecDepth 20000
/- 'sloth/slothlaw01.same' -/
def f12_L0 : C :=
 (.seq
  (.seq
   (.reg [⟨[], [(14, (.bin .lss (.sl 5) (.len false (.sl 0))))], [], none, [0, 1, 5], 4, [], [], []⟩])
   (.cond (.sl 14)
    .skip
    (.seq
     (.tidy 0 [])
     (.exit 0))))
  (.seq
   (.block 1
    (.seq
     (.reg [⟨[], [(25, (.eqs true true [0, 2, 0, 0] (.ld 4 true (.ia 4 (.sl 0) (.sl 5))) (.ld 4 true (.ia 4 (.sl 1) (.sl 5)))))], [], none, [0, 1, 5], 9, [[], [], [1, 0], [0, 1, 2], [], [], [5, 4], [4, 5, 6], [6, 5, 4, 7, 2, 1, 0, 3]], [], []⟩])
     (.cond (.sl 25)
      (.seq
       (.reg [⟨[], [(4, (.bool false))], [], none, [], 1, [], [], []⟩])
       (.seq
        (.tidy 0 [4])
        .ret))
      .skip)))
   (.reg [⟨[], [(5, (.bin .add (.sl 5) (.int .i64 1)))], [], none, [0, 1], 3, [], [], []⟩])))
def f12 : Fun := ⟨
 (.seq
  (.reg [⟨[], [], [(.bool false)], none, [0, 1], 1, [], [], []⟩])
  (.seq
   (.seq
    (.reg [⟨[], [(10, (.bin .neq (.len false (.sl 0)) (.len false (.sl 1))))], [], none, [0, 1], 5, [], [], []⟩])
    (.cond (.sl 10)
     (.seq
      (.reg [⟨[], [(4, (.bool false))], [], none, [], 1, [], [], []⟩])
      (.seq
       (.tidy 0 [4])
       .ret))
     .skip))
   (.seq
    (.seq
     (.reg [⟨[], [(5, (.int .i64 0))], [], none, [0, 1], 1, [], [], []⟩])
     (.block 0
      (.seq (.tidy 0 [0, 1, 5]) (.loop (.seq (.tidy 0 [0, 1, 5]) f12_L0)))))
    (.seq
     (.reg [⟨[], [(4, (.bool true))], [], none, [], 1, [], [], []⟩])
     (.seq
      (.tidy 0 [4])
      .ret))))),
 [(.sl 4)], false⟩
theorem f12_ok : funOk Go.Proofs.Tryd.prog 12 0 2 f12 = true := by kernel_rfl

abbrev slT (l : List Tok) : V := .d false (.sl 4 (l.map eTok))
def K12 (K : Cx) : Prop := ∀ a b : List Tok, a.length ≤ 4611686018427387903 → b.length ≤ 4611686018427387903 → K.call 12 [slT a, slT b] = some (.d false (.bool (decide (a = b))), [])
theorem same_loop (K : Cx) (a b : List Tok) (ha : a.length ≤ 4611686018427387903) (hab : a.length = b.length) : ∀ (r q : List Tok) (k : Nat), a.drop k = r → b.drop k = q → k ≤ a.length →
    lp K 0 [0, 1, 5] f12_L0 ⟨[(0, slT a), (1, slT b), (5, vI k)], [], 0, []⟩ = some (if r = q then (.exit 0, ⟨[], [], 0, []⟩) else (.ret, ⟨[(4, .d false (.bool false))], [], 0, []⟩)) := by
  intro r
  induction r with
  | nil =>
    intro q k hd hq hk
    have hx := congrArg List.length hd
    have hy := congrArg List.length hq
    rw [List.length_drop, List.length_nil] at hx
    rw [List.length_drop] at hy
    have : q = [] := List.length_eq_zero_iff.1 (by omega)
    subst this
    rw [if_pos rfl, lp_un f12_L0.eq_1]
    simp (disch := first | decide | omega | (simp only [LN]; omega) | (simp only [LN]; done) | fail) only [SV, Nat.reduceBEq, beq_self_eq_true, evLen, evBin, intBin, decide_false, if_true, decide_true, Bool.and_self]
  | cons t r ih =>
    intro q k hd hq hk
    obtain ⟨n1, n2, n3, n4⟩ := nthT hd
    match q, hq with
    | [], hq =>
      have hy := congrArg List.length hq
      rw [List.length_drop, List.length_nil] at hy
      omega
    | u :: q, hq =>
      obtain ⟨m1, m2, m3, m4⟩ := nthT hq
      have ih := ih q (k + 1) n3 m3 (by omega)
      obtain ⟨tk, tt, tn, ta⟩ := t
      obtain ⟨uk, ut, un, ua⟩ := u
      rw [lp_un f12_L0.eq_1]
      by_cases g : (⟨tk, tt, tn, ta⟩ : Tok) = ⟨uk, ut, un, ua⟩
      · obtain ⟨rfl, rfl, rfl, rfl⟩ : tk = uk ∧ tt = ut ∧ tn = un ∧ ta = ua := by simpa using g
        have e : ((⟨tk, tt, tn, ta⟩ : Tok) :: r = ⟨tk, tt, tn, ta⟩ :: q) = (r = q) := by simp
        simp only [e]
        rw [← ih]
        clear ih g e
        have z1 : (tt = tt) = True := eq_self tt
        simp (disch := first | decide | omega | (simp only [LN]; omega) | (simp only [LN]; done) | fail) only [SV, Nat.reduceBEq, beq_self_eq_true, evLen, evBin, intBin, decide_true, if_true, eTok, n2, D.flat, Nat.zero_add, Nat.reduceAdd, Nat.le_refl, m2, evEqs, cellsEq, cellEq, Bool.and_self, Bool.not_true, cast1, V.refs]
      · have e : ((⟨tk, tt, tn, ta⟩ : Tok) :: r = ⟨uk, ut, un, ua⟩ :: q) = False := by
          apply eq_false
          intro h
          injection h with h _
          exact g h
        simp only [e]
        clear ih e
        have key : ((tk == uk) && (decide (tt = ut) && ((tn == un) && (ta == ua)))) = false := by
          apply Bool.eq_false_iff.2
          intro h
          simp only [Bool.and_eq_true, beq_iff_eq, decide_eq_true_eq] at h
          exact g (by rw [h.1, h.2.1, h.2.2.1, h.2.2.2])
        clear g
        simp (disch := first | decide | omega | (simp only [LN]; omega) | (simp only [LN]; done) | fail) only [SV, Nat.reduceBEq, beq_self_eq_true, evLen, evBin, intBin, decide_true, if_true, eTok, n2, D.flat, Nat.zero_add, Nat.reduceAdd, Nat.le_refl, m2, evEqs, cellsEq, cellEq, Bool.and_true, key, Bool.not_false, V.refs, Bool.and_self, if_false]

theorem ev_same (K : Cx) (a b : List Tok) (ha : a.length ≤ 4611686018427387903) (hb : b.length ≤ 4611686018427387903) : runFun K f12 [slT a, slT b] [] = some (.d false (.bool (decide (a = b))), [], []) := by
  by_cases g : a.length = b.length
  · have h := same_loop K a b ha g a b 0 rfl rfl (by omega)
    rw [Int.natCast_zero] at h
    have g1 : ((a.length : Int) != (b.length : Int)) = false := by rw [g]; simp
    by_cases g2 : a = b
    · rw [if_pos g2] at h
      rw [decide_eq_true g2]
      clear g2
      simp (disch := first | decide | omega | (simp only [LN]; omega) | (simp only [LN]; done) | fail) only [SV, f12, Nat.zero_add, Nat.reduceAdd, Bool.and_self, beq_self_eq_true, Nat.reduceBEq, evLen, evBin, intBin, g1, if_true, V.refs, decide_true, h, oneOr, Bool.false_eq_true, if_false, finV, finA, finC]
    · rw [if_neg g2] at h
      rw [decide_eq_false g2]
      clear g2
      simp (disch := first | decide | omega | (simp only [LN]; omega) | (simp only [LN]; done) | fail) only [SV, f12, Nat.zero_add, Nat.reduceAdd, Bool.and_self, beq_self_eq_true, Nat.reduceBEq, evLen, evBin, intBin, g1, if_true, V.refs, decide_true, h, oneOr, Bool.false_eq_true, if_false, finV, finA, finC]
  · have e : decide (a = b) = false := decide_eq_false (fun h => g (by rw [h]))
    have g1 : ((a.length : Int) != (b.length : Int)) = true := by simp; omega
    rw [e]
    simp (disch := first | decide | omega | (simp only [LN]; omega) | (simp only [LN]; done) | fail) only [SV, f12, Nat.zero_add, Nat.reduceAdd, Bool.and_self, beq_self_eq_true, Nat.reduceBEq, evLen, evBin, intBin, g1, if_true, V.refs, decide_true, oneOr, Bool.false_eq_true, if_false, finV, finA, finC]

end Go.Vm
end

section
namespace Go.Vm
set_option maxRecDepth 20000
/- 'sloth/slothlaw01.awake' -/
def f9 : Fun := ⟨
 (.seq
  (.reg [⟨[], [], [(.bool false)], none, [], 1, [], [], []⟩])
  (.seq
   (.reg [⟨[], [(1, (.ext 0 (.call 13 (.cons (.str [102, 32, 120, 39, 32, 61, 32, 77, 46, 103, 40, 120, 39, 41]) .nil)))), (2, (.ext 1 (.call 13 (.cons (.str [102, 32, 120, 39, 32, 61, 32, 77, 46, 103, 40, 120, 39, 41]) .nil))))], [], none, [], 6, [], [], []⟩])
   (.seq
    (.reg [⟨[(18, .lits 4 (.cons (.set 3 1 (.int .i64 0) (.set 1 1 (.str [102]) (.set 0 1 (.int .i64 1) (.agg (.cons (.int .i64 0) (.cons (.str []) (.cons (.int .i64 0) (.cons (.int .i64 0) .nil)))))))) (.cons (.set 3 1 (.int .i64 2) (.set 1 1 (.str [120, 39]) (.set 0 1 (.int .i64 1) (.agg (.cons (.int .i64 0) (.cons (.str []) (.cons (.int .i64 0) (.cons (.int .i64 0) .nil)))))))) (.cons (.set 3 1 (.int .i64 5) (.set 1 1 (.str [61]) (.set 0 1 (.int .i64 11) (.agg (.cons (.int .i64 0) (.cons (.str []) (.cons (.int .i64 0) (.cons (.int .i64 0) .nil)))))))) (.cons (.set 3 1 (.int .i64 7) (.set 1 1 (.str [77, 46, 103]) (.set 0 1 (.int .i64 3) (.agg (.cons (.int .i64 0) (.cons (.str []) (.cons (.int .i64 0) (.cons (.int .i64 0) .nil)))))))) (.cons (.set 3 1 (.int .i64 10) (.set 1 1 (.str [40]) (.set 0 1 (.int .i64 9) (.agg (.cons (.int .i64 0) (.cons (.str []) (.cons (.int .i64 0) (.cons (.int .i64 0) .nil)))))))) (.cons (.set 3 1 (.int .i64 11) (.set 1 1 (.str [120, 39]) (.set 0 1 (.int .i64 1) (.agg (.cons (.int .i64 0) (.cons (.str []) (.cons (.int .i64 0) (.cons (.int .i64 0) .nil)))))))) (.cons (.set 3 1 (.int .i64 13) (.set 1 1 (.str [41]) (.set 0 1 (.int .i64 9) (.agg (.cons (.int .i64 0) (.cons (.str []) (.cons (.int .i64 0) (.cons (.int .i64 0) .nil)))))))) .nil))))))))], [(10, (.sl 1))], [], none, [2, 18], 9, [], [], []⟩, ⟨[], [(3, (.call 12 (.cons (.sl 10) (.cons (.sl 18) .nil))))], [], none, [2], 2, [], [], []⟩])
    (.seq
     (.reg [⟨[(24, .lits 4 (.cons (.set 2 1 (.int .i64 39) (.set 0 1 (.int .i64 7) (.agg (.cons (.int .i64 0) (.cons (.str []) (.cons (.int .i64 0) (.cons (.int .i64 0) .nil))))))) (.cons (.set 1 1 (.str [34, 39, 7]) (.set 0 1 (.int .i64 8) (.agg (.cons (.int .i64 0) (.cons (.str []) (.cons (.int .i64 0) (.cons (.int .i64 0) .nil))))))) (.cons (.set 1 1 (.str [45]) (.set 0 1 (.int .i64 5) (.agg (.cons (.int .i64 0) (.cons (.str []) (.cons (.int .i64 0) (.cons (.int .i64 0) .nil))))))) .nil))))], [], [], none, [2, 3, 24], 4, [], [], []⟩, ⟨[], [(4, (.ext 0 (.call 11 (.cons (.sl 24) .nil)))), (5, (.ext 1 (.call 11 (.cons (.sl 24) .nil))))], [], none, [2, 3], 6, [], [], []⟩])
     (.seq
      (.reg [⟨[], [(0, (.and (.and (.and (.sl 3) (.eqs false false [5] (.sl 2) .nilif)) (.bin .eql (.sl 4) (.str [39, 92, 39, 39, 32, 34, 92, 34, 39, 92, 48, 48, 55, 34, 32, 45]))) (.bin .eql (.sl 5) (.int .i64 0))))], [], none, [], 14, [], [], []⟩])
      (.seq
       (.tidy 0 [0])
       .ret)))))),
 [(.sl 0)], false⟩
theorem f9_ok : funOk Go.Proofs.Tryd.prog 9 0 0 f9 = true := by kernel_rfl


def errD (e i : Int) : V := .tup [.d true (.sl 4 []), .d false (.iface 57 [.ptr [.int .i64 e, .int .i64 0, .int .i64 i, .str []]])]
def lexV (s : BS) : V :=
  if 65536 < s.length then errD 2 (-1)
  else match lexS s 0 0 with
    | .bad e i => errD e i
    | .ok l => .tup [.d true (.sl 4 (l.map eTok)), .d false .nilif]
def K13 (K : Cx) : Prop := ∀ s : BS, s.length ≤ 2000000 → K.call 13 [vS s] = some (lexV s, [])
def K11 (K : Cx) : Prop := ∀ l : List Tok, TokL l → K.call 11 [slT l] = some (printV l, [])
def K9 (K : Cx) : Prop := K.call 9 [] = some (.d false (.bool true), [])

def awT : BS := [102, 32, 120, 39, 32, 61, 32, 77, 46, 103, 40, 120, 39, 41]
def awL : List Tok := [⟨1, [102], 0, 0⟩, ⟨1, [120, 39], 0, 2⟩, ⟨11, [61], 0, 5⟩, ⟨3, [77, 46, 103], 0, 7⟩, ⟨9, [40], 0, 10⟩, ⟨1, [120, 39], 0, 11⟩, ⟨9, [41], 0, 13⟩]
def awP : List Tok := [⟨7, [], 39, 0⟩, ⟨8, [34, 39, 7], 0, 0⟩, ⟨5, [45], 0, 0⟩]
theorem aw_lex : lexS awT 0 0 = .ok awL := by decide +kernel
theorem aw_print : printS awP = ([39, 92, 39, 39, 32, 34, 92, 34, 39, 92, 48, 48, 55, 34, 32, 45], 0) := by decide +kernel

theorem lexV_ok {s : BS} (h : s.length ≤ 65536) {l : List Tok} (hl : lexS s 0 0 = .ok l) : lexV s = .tup [.d true (.sl 4 (l.map eTok)), .d false .nilif] := by
  unfold lexV
  rw [if_neg (by omega), hl]
theorem ev_awake (K : Cx) (h13 : K13 K) (h12 : K12 K) (h11 : K11 K) : runFun K f9 [] [] = some (.d false (.bool true), [], []) := by
  have h1 := h13 awT (by decide)
  rw [lexV_ok (by decide) aw_lex] at h1
  have h2 := h12 awL awL (by decide) (by decide)
  have h3 := h11 awP ⟨by decide, fun t ht => by
    simp only [awP, List.mem_cons, List.not_mem_nil, or_false] at ht
    rcases ht with rfl | rfl | rfl <;> exact ⟨by decide, by decide⟩⟩
  unfold printV at h3
  rw [aw_print] at h3
  simp only [slT, awT, awL, awP, List.map_cons, List.map_nil, eTok, decide_true] at h1 h2 h3
  simp (disch := first | decide | omega | (simp only [LN]; omega) | (simp only [LN]; done) | fail) only [SV, f9, Bool.and_self, V.own, V.own1, Bool.or_self, V.new, V.new1, D.flat, Bool.or_true, V.flatV, V.flat1, Bool.not_true, Bool.and_false, Bool.false_and, view, viewD, h1, Bool.or_false, Bool.false_eq_true, if_false, evExt, List.getElem?_cons_zero, List.getElem?_cons_succ, evSet, V.laid, V.cell, V.cells, Nat.zero_add, beq_self_eq_true, Nat.reduceAdd, decide_true, if_true, Nat.le_refl, asD, Nat.reduceBEq, Bool.and_true, Bool.not_false, h2, h3, e_nilif, evEqs, cellsEq, cellEq, V.isNilI, evBin, strBin, intBin, V.refs, oneOr, finV, finA, finC]
end Go.Vm
end

section
namespace Go.Vm
set_option maxRecDepth 20000

theorem fTokA (l m : List Tok) : l.map eTok ++ m.map eTok = (l ++ m).map eTok := by simp
theorem lex_at : ∀ (k : Nat) (r : BS), r.length = k → ∀ (i n : Nat) l, lexS r i n = .ok l → ∀ t ∈ l, (i : Int) ≤ t.at_ ∧ t.at_ < (i : Int) + r.length := by
  intro k
  induction k using Nat.strongRecOn with
  | ind k ih =>
    intro r hr i n l h t ht
    subst hr
    by_cases h0 : r = []
    · subst h0; rw [lexS_nil] at h; injection h with h; subst h; cases ht
    · obtain ⟨s1, s2⟩ := stepS_len h0
      have hl : 1 ≤ r.length := by cases r with | nil => exact absurd rfl h0 | cons a b => simp
      rw [lexS_cons h0] at h
      cases hs : stepS r with
      | bad e => rw [hs] at h; cases h
      | skip k =>
        rw [hs] at h
        obtain ⟨k1, k2⟩ := s1 k hs
        have := ih (r.drop k).length (by rw [List.length_drop]; omega) (r.drop k) rfl _ _ l h t ht
        rw [List.length_drop] at this
        omega
      | tok kd tx nm k =>
        rw [hs] at h
        obtain ⟨k1, k2⟩ := s2 kd tx nm k hs
        simp only at h
        split at h
        · cases h
        · cases hx : lexS (r.drop k) (i + k) (n + 1) with
          | bad e p => rw [hx] at h; cases h
          | ok l' =>
            rw [hx] at h
            injection h with h
            subst h
            rcases List.mem_cons.1 ht with rfl | ht
            · simp only; omega
            · have := ih (r.drop k).length (by rw [List.length_drop]; omega) (r.drop k) rfl _ _ l' hx t ht
              rw [List.length_drop] at this
              omega
theorem mv0 (l : List Tok) : l.map (mvT 0) = l := by
  have : ∀ t : Tok, mvT 0 t = t := by intro t; cases t; simp [mvT]
  induction l with
  | nil => rfl
  | cons a l ih => rw [List.map_cons, this, ih]

theorem lexV_bad {s : BS} (h : ∀ l : List Tok, lexV s ≠ .tup [.d true (.sl 4 (l.map eTok)), .d false .nilif]) : ∃ e i, lexV s = errD e i := by
  unfold lexV at h ⊢
  split
  · exact ⟨_, _, rfl⟩
  · rename_i g
    rw [if_neg g] at h
    cases hx : lexS s 0 0 with
    | bad e i => exact ⟨_, _, rfl⟩
    | ok l => rw [hx] at h; exact absurd rfl (h l)
end Go.Vm
end

section
namespace Go.Vm

theorem nameL_take : ∀ (r : BS) (m : Nat), nameL (r.take m) = min (nameL r) m
  | [], m => by simp [nameL]
  | c :: r, 0 => by simp [nameL]
  | c :: r, m + 1 => by
    have ih := nameL_take r m
    simp only [List.take_succ_cons, nameL]
    have e : inNm (c :: r.take m) = inNm (c :: r) := rfl
    rw [e, ih]
    split <;> omega
theorem cls_take (r : BS) {m : Nat} (h : 1 ≤ m) : cls (r.take m) = cls r := by
  obtain ⟨k, rfl⟩ : ∃ k, m = k + 1 := ⟨m - 1, by omega⟩
  cases r <;> rfl
theorem prL_mono : ∀ (l : List Tok) (b : BS) (i : Nat), b.length ≤ (prL b i l).length
  | [], b, i => Nat.le_refl _
  | t :: l, b, i => by
    simp only [prL]
    have hb : b.length ≤ (if 0 < i then b ++ [32] else b).length := by split <;> simp
    generalize (if 0 < i then b ++ [32] else b) = b1 at hb ⊢
    by_cases h : b1.length ≤ 65536
    · rw [if_pos h]
      have := prL_mono l (b1 ++ writS t) (i + 1)
      rw [List.length_append] at this
      omega
    · rw [if_neg h]
      have := prL_mono l b1 (i + 1)
      omega
end Go.Vm
end

section
namespace Go.Vm
set_option maxRecDepth 20000
/- 'sloth/slothref01.point' -/
def f53_L0 : C :=
 (.seq
  (.seq
   (.reg [⟨[], [(7, (.bin .lss (.sl 3) (.len true (.sl 0))))], [], none, [0, 3], 4, [], [], []⟩])
   (.cond (.sl 7)
    .skip
    (.seq
     (.tidy 0 [])
     (.exit 0))))
  (.seq
   (.block 1
    (.seq
     (.reg [⟨[], [(13, (.bin .eql (.ix (.sl 0) (.sl 3)) (.int .u8 46)))], [], none, [0, 3], 4, [], [], []⟩])
     (.cond (.sl 13)
      (.seq
       (.reg [⟨[], [(2, (.sl 3))], [], none, [], 2, [], [], []⟩])
       (.seq
        (.tidy 0 [2])
        .ret))
      .skip)))
   (.reg [⟨[], [(3, (.bin .add (.sl 3) (.int .i64 1)))], [], none, [0], 3, [], [], []⟩])))
def f53 : Fun := ⟨
 (.seq
  (.reg [⟨[], [], [(.int .i64 0)], none, [0], 1, [], [], []⟩])
  (.seq
   (.seq
    (.reg [⟨[], [(3, (.int .i64 0))], [], none, [0], 1, [], [], []⟩])
    (.block 0
     (.seq (.tidy 0 [0, 3]) (.loop (.seq (.tidy 0 [0, 3]) f53_L0)))))
   (.seq
    (.reg [⟨[], [(2, (.int .i64 (-1)))], [], none, [], 1, [], [], []⟩])
    (.seq
     (.tidy 0 [2])
     .ret)))),
 [(.sl 2)], false⟩
theorem f53_ok : funOk Go.Proofs.Tryd.prog 53 0 1 f53 = true := by kernel_rfl

/- 'sloth/slothref01.named' -/
def f54 : Fun := ⟨
 (.seq
  (.reg [⟨[], [], [(.bool false)], none, [0, 1], 1, [], [], []⟩])
  (.seq
   (.seq
    (.reg [⟨[], [(10, (.bin .eql (.sl 0) (.str [])))], [], none, [0, 1], 2, [], [], []⟩])
    (.cond (.sl 10)
     (.seq
      (.reg [⟨[], [(4, (.bool false))], [], none, [], 1, [], [], []⟩])
      (.seq
       (.tidy 0 [4])
       .ret))
     .skip))
   (.seq
    (.reg [⟨[], [(5, (.call 74 (.cons (.ix (.sl 0) (.int .i64 0)) .nil)))], [], none, [0, 1], 4, [], [], []⟩])
    (.seq
     (.reg [⟨[], [(6, (.call 75 (.cons (.ix (.sl 0) (.int .i64 0)) .nil)))], [], none, [0, 1, 5], 4, [], [], []⟩])
     (.seq
      (.reg [⟨[], [(7, (.call 76 (.cons (.sl 0) (.cons (.int .i64 0) .nil))))], [], none, [0, 1, 5, 6], 3, [], [], []⟩])
      (.seq
       (.reg [⟨[], [(8, (.call 58 (.cons (.sl 0) .nil)))], [], none, [0, 1, 5, 6, 7], 3, [], [], []⟩])
       (.seq
        (.reg [⟨[], [(4, (.and (.bin .eql (.sl 7) (.len true (.sl 0))) (.or (.and (.sl 1) (.sl 6)) (.and (.and (.un .not (.sl 1)) (.sl 5)) (.un .not (.sl 8))))))], [], none, [], 22, [], [], []⟩])
        (.seq
         (.tidy 0 [4])
         .ret)))))))),
 [(.sl 4)], false⟩
theorem f54_ok : funOk Go.Proofs.Tryd.prog 54 0 2 f54 = true := by kernel_rfl

/- 'sloth/slothref01.run' -/
def f55_L0 : C :=
 (.seq
  (.seq
   (.reg [⟨[], [(9, (.bin .lss (.sl 1) (.len true (.sl 0))))], [], none, [0, 1], 4, [], [], []⟩])
   (.cond (.sl 9)
    .skip
    (.seq
     (.tidy 0 [1])
     (.exit 0))))
  (.block 1
   (.seq
    (.reg [⟨[], [(5, (.call 77 (.cons (.ix (.sl 0) (.sl 1)) .nil)))], [], none, [0, 1], 5, [], [], []⟩])
    (.seq
     (.seq
      (.reg [⟨[], [(15, (.un .not (.sl 5)))], [], none, [0, 1], 2, [], [], []⟩])
      (.cond (.sl 15)
       (.seq
        (.reg [⟨[], [(4, (.sl 1))], [], none, [], 2, [], [], []⟩])
        (.seq
         (.tidy 0 [4])
         .ret))
       .skip))
     (.reg [⟨[], [(1, (.bin .add (.sl 1) (.int .i64 1)))], [], none, [0], 3, [], [], []⟩])))))
def f55 : Fun := ⟨
 (.seq
  (.reg [⟨[], [], [(.int .i64 0)], none, [0, 1], 1, [], [], []⟩])
  (.seq
   (.block 0
    (.seq (.tidy 0 [0, 1]) (.loop (.seq (.tidy 0 [0, 1]) f55_L0))))
   (.seq
    (.reg [⟨[], [(4, (.sl 1))], [], none, [], 2, [], [], []⟩])
    (.seq
     (.tidy 0 [4])
     .ret)))),
 [(.sl 4)], false⟩
theorem f55_ok : funOk Go.Proofs.Tryd.prog 55 0 2 f55 = true := by kernel_rfl

/- 'sloth/slothref01.kindOf' -/
def f56 : Fun := ⟨
 (.seq
  (.reg [⟨[], [], [(.int .i64 0)], none, [0], 1, [], [], []⟩])
  (.seq
   (.reg [⟨[], [(3, (.call 78 (.cons (.sl 0) .nil)))], [], none, [0], 3, [], [], []⟩])
   (.seq
    (.block 0
     (.seq
      (.reg [⟨[], [(6, (.sl 3))], [], none, [0], 2, [], [], []⟩])
      (.cond (.sl 6)
       (.seq
        (.reg [⟨[], [(2, (.int .i64 0))], [], none, [], 1, [], [], []⟩])
        (.seq
         (.tidy 0 [2])
         .ret))
       (.seq
        (.reg [⟨[], [(8, (.or (.or (.or (.bin .eql (.sl 0) (.str [61])) (.bin .eql (.sl 0) (.str [124]))) (.bin .eql (.sl 0) (.str [45, 62]))) (.bin .eql (.sl 0) (.str [58, 58]))))], [], none, [0], 15, [], [], []⟩])
        (.cond (.sl 8)
         (.seq
          (.reg [⟨[], [(2, (.int .i64 11))], [], none, [], 1, [], [], []⟩])
          (.seq
           (.tidy 0 [2])
           .ret))
         (.seq
          (.reg [⟨[], [(23, (.and (.bin .eql (.ix (.sl 0) (.int .i64 0)) (.int .u8 58)) (.bin .gtr (.len true (.sl 0)) (.int .i64 1))))], [], none, [], 9, [], [], []⟩])
          (.cond (.sl 23)
           (.seq
            (.reg [⟨[], [(2, (.int .i64 (-1)))], [], none, [], 1, [], [], []⟩])
            (.seq
             (.tidy 0 [2])
             .ret))
           .skip)))))))
    (.seq
     (.reg [⟨[], [(2, (.int .i64 5))], [], none, [], 1, [], [], []⟩])
     (.seq
      (.tidy 0 [2])
      .ret))))),
 [(.sl 2)], false⟩
theorem f56_ok : funOk Go.Proofs.Tryd.prog 56 0 1 f56 = true := by kernel_rfl

/- 'sloth/slothref01.special' -/
def f57 : Fun := ⟨
 (.seq
  (.reg [⟨[], [], [(.bool false)], none, [0], 1, [], [], []⟩])
  (.seq
   (.reg [⟨[], [(2, (.call 79 (.cons (.sl 0) (.cons (.str [40, 41, 91, 93, 123, 125, 44, 59, 96, 92]) .nil))))], [], none, [], 3, [], [], []⟩])
   (.seq
    (.tidy 0 [2])
    .ret))),
 [(.sl 2)], false⟩
theorem f57_ok : funOk Go.Proofs.Tryd.prog 57 0 1 f57 = true := by kernel_rfl

/- 'sloth/slothref01.reserved' -/
def f58_L0 : C :=
 (.seq
  (.seq
   (.reg [⟨[], [(9, (.bin .lss (.sl 4) (.len false (.sl 3))))], [], none, [0, 3, 4], 4, [], [], []⟩])
   (.cond (.sl 9)
    .skip
    (.seq
     (.tidy 0 [])
     (.exit 0))))
  (.seq
   (.block 1
    (.seq
     (.reg [⟨[], [(17, (.bin .eql (.ld 1 false (.ia 1 (.sl 3) (.sl 4))) (.sl 0)))], [], none, [0, 3, 4], 6, [], [], []⟩])
     (.cond (.sl 17)
      (.seq
       (.reg [⟨[], [(2, (.bool true))], [], none, [], 1, [], [], []⟩])
       (.seq
        (.tidy 0 [2])
        .ret))
      .skip)))
   (.reg [⟨[], [(4, (.bin .add (.sl 4) (.int .i64 1)))], [], none, [0, 3], 3, [], [], []⟩])))
def f58 : Fun := ⟨
 (.seq
  (.reg [⟨[], [], [(.bool false)], none, [0], 1, [], [], []⟩])
  (.seq
   (.reg [⟨[(5, .lits 1 (.cons (.str [109, 111, 100, 117, 108, 101]) (.cons (.str [105, 109, 112, 111, 114, 116]) (.cons (.str [100, 97, 116, 97]) (.cons (.str [105, 110, 102, 105, 120, 108]) (.cons (.str [105, 110, 102, 105, 120, 114]) (.cons (.str [105, 110, 102, 105, 120]) (.cons (.str [108, 101, 116]) (.cons (.str [105, 110]) (.cons (.str [99, 97, 115, 101]) (.cons (.str [111, 102]) (.cons (.str [105, 102]) (.cons (.str [116, 104, 101, 110]) (.cons (.str [101, 108, 115, 101]) .nil))))))))))))))], [(3, (.sl 5))], [], none, [0], 2, [], [], []⟩])
   (.seq
    (.seq
     (.reg [⟨[], [(4, (.int .i64 0))], [], none, [0, 3], 1, [], [], []⟩])
     (.block 0
      (.seq (.tidy 0 [0, 3, 4]) (.loop (.seq (.tidy 0 [0, 3, 4]) f58_L0)))))
    (.seq
     (.reg [⟨[], [(2, (.bool false))], [], none, [], 1, [], [], []⟩])
     (.seq
      (.tidy 0 [2])
      .ret))))),
 [(.sl 2)], false⟩
theorem f58_ok : funOk Go.Proofs.Tryd.prog 58 0 1 f58 = true := by kernel_rfl

/- 'sloth/slothref01.small' -/
def f74 : Fun := ⟨
 (.seq
  (.reg [⟨[], [], [(.bool false)], none, [0], 1, [], [], []⟩])
  (.seq
   (.reg [⟨[], [(2, (.and (.bin .geq (.sl 0) (.int .u8 97)) (.bin .leq (.sl 0) (.int .u8 122))))], [], none, [], 7, [], [], []⟩])
   (.seq
    (.tidy 0 [2])
    .ret))),
 [(.sl 2)], false⟩
theorem f74_ok : funOk Go.Proofs.Tryd.prog 74 0 1 f74 = true := by kernel_rfl

/- 'sloth/slothref01.capital' -/
def f75 : Fun := ⟨
 (.seq
  (.reg [⟨[], [], [(.bool false)], none, [0], 1, [], [], []⟩])
  (.seq
   (.reg [⟨[], [(2, (.and (.bin .geq (.sl 0) (.int .u8 65)) (.bin .leq (.sl 0) (.int .u8 90))))], [], none, [], 7, [], [], []⟩])
   (.seq
    (.tidy 0 [2])
    .ret))),
 [(.sl 2)], false⟩
theorem f75_ok : funOk Go.Proofs.Tryd.prog 75 0 1 f75 = true := by kernel_rfl

/- 'sloth/slothref01.signs' -/
def f76_L0 : C :=
 (.seq
  (.seq
   (.reg [⟨[], [(9, (.bin .lss (.sl 1) (.len true (.sl 0))))], [], none, [0, 1], 4, [], [], []⟩])
   (.cond (.sl 9)
    .skip
    (.seq
     (.tidy 0 [1])
     (.exit 0))))
  (.block 1
   (.seq
    (.reg [⟨[], [(5, (.call 86 (.cons (.ix (.sl 0) (.sl 1)) .nil)))], [], none, [0, 1], 5, [], [], []⟩])
    (.seq
     (.seq
      (.reg [⟨[], [(15, (.un .not (.sl 5)))], [], none, [0, 1], 2, [], [], []⟩])
      (.cond (.sl 15)
       (.seq
        (.reg [⟨[], [(4, (.sl 1))], [], none, [], 2, [], [], []⟩])
        (.seq
         (.tidy 0 [4])
         .ret))
       .skip))
     (.reg [⟨[], [(1, (.bin .add (.sl 1) (.int .i64 1)))], [], none, [0], 3, [], [], []⟩])))))
def f76 : Fun := ⟨
 (.seq
  (.reg [⟨[], [], [(.int .i64 0)], none, [0, 1], 1, [], [], []⟩])
  (.seq
   (.block 0
    (.seq (.tidy 0 [0, 1]) (.loop (.seq (.tidy 0 [0, 1]) f76_L0))))
   (.seq
    (.reg [⟨[], [(4, (.sl 1))], [], none, [], 2, [], [], []⟩])
    (.seq
     (.tidy 0 [4])
     .ret)))),
 [(.sl 4)], false⟩
theorem f76_ok : funOk Go.Proofs.Tryd.prog 76 0 2 f76 = true := by kernel_rfl

/- 'sloth/slothref01.operator' -/
def f77 : Fun := ⟨
 (.seq
  (.reg [⟨[], [], [(.bool false)], none, [0], 1, [], [], []⟩])
  (.seq
   (.reg [⟨[], [(2, (.call 79 (.cons (.sl 0) (.cons (.str [33, 35, 36, 37, 38, 42, 43, 46, 47, 60, 61, 62, 63, 64, 94, 124, 126, 58, 45]) .nil))))], [], none, [], 3, [], [], []⟩])
   (.seq
    (.tidy 0 [2])
    .ret))),
 [(.sl 2)], false⟩
theorem f77_ok : funOk Go.Proofs.Tryd.prog 77 0 1 f77 = true := by kernel_rfl

/- 'sloth/slothref01.dashes' -/
def f78_L0 : C :=
 (.seq
  (.seq
   (.reg [⟨[], [(7, (.bin .lss (.sl 3) (.len true (.sl 0))))], [], none, [0, 3], 4, [], [], []⟩])
   (.cond (.sl 7)
    .skip
    (.seq
     (.tidy 0 [0])
     (.exit 0))))
  (.seq
   (.block 1
    (.seq
     (.reg [⟨[], [(13, (.bin .neq (.ix (.sl 0) (.sl 3)) (.int .u8 45)))], [], none, [0, 3], 4, [], [], []⟩])
     (.cond (.sl 13)
      (.seq
       (.reg [⟨[], [(2, (.bool false))], [], none, [], 1, [], [], []⟩])
       (.seq
        (.tidy 0 [2])
        .ret))
      .skip)))
   (.reg [⟨[], [(3, (.bin .add (.sl 3) (.int .i64 1)))], [], none, [0], 3, [], [], []⟩])))
def f78 : Fun := ⟨
 (.seq
  (.reg [⟨[], [], [(.bool false)], none, [0], 1, [], [], []⟩])
  (.seq
   (.seq
    (.reg [⟨[], [(3, (.int .i64 0))], [], none, [0], 1, [], [], []⟩])
    (.block 0
     (.seq (.tidy 0 [0, 3]) (.loop (.seq (.tidy 0 [0, 3]) f78_L0)))))
   (.seq
    (.reg [⟨[], [(2, (.bin .gtr (.len true (.sl 0)) (.int .i64 1)))], [], none, [], 4, [], [], []⟩])
    (.seq
     (.tidy 0 [2])
     .ret)))),
 [(.sl 2)], false⟩
theorem f78_ok : funOk Go.Proofs.Tryd.prog 78 0 1 f78 = true := by kernel_rfl

/- 'sloth/slothref01.among' -/
def f79_L0 : C :=
 (.seq
  (.seq
   (.reg [⟨[], [(9, (.bin .lss (.sl 5) (.len true (.sl 1))))], [], none, [0, 1, 5], 4, [], [], []⟩])
   (.cond (.sl 9)
    .skip
    (.seq
     (.tidy 0 [])
     (.exit 0))))
  (.seq
   (.block 1
    (.seq
     (.reg [⟨[], [(16, (.bin .eql (.ix (.sl 1) (.sl 5)) (.sl 0)))], [], none, [0, 1, 5], 5, [], [], []⟩])
     (.cond (.sl 16)
      (.seq
       (.reg [⟨[], [(4, (.bool true))], [], none, [], 1, [], [], []⟩])
       (.seq
        (.tidy 0 [4])
        .ret))
      .skip)))
   (.reg [⟨[], [(5, (.bin .add (.sl 5) (.int .i64 1)))], [], none, [0, 1], 3, [], [], []⟩])))
def f79 : Fun := ⟨
 (.seq
  (.reg [⟨[], [], [(.bool false)], none, [0, 1], 1, [], [], []⟩])
  (.seq
   (.seq
    (.reg [⟨[], [(5, (.int .i64 0))], [], none, [0, 1], 1, [], [], []⟩])
    (.block 0
     (.seq (.tidy 0 [0, 1, 5]) (.loop (.seq (.tidy 0 [0, 1, 5]) f79_L0)))))
   (.seq
    (.reg [⟨[], [(4, (.bool false))], [], none, [], 1, [], [], []⟩])
    (.seq
     (.tidy 0 [4])
     .ret)))),
 [(.sl 4)], false⟩
theorem f79_ok : funOk Go.Proofs.Tryd.prog 79 0 2 f79 = true := by kernel_rfl

/- 'sloth/slothref01.sign' -/
def f86 : Fun := ⟨
 (.seq
  (.reg [⟨[], [], [(.bool false)], none, [0], 1, [], [], []⟩])
  (.seq
   (.reg [⟨[], [(3, (.call 74 (.cons (.sl 0) .nil)))], [], none, [0], 3, [], [], []⟩])
   (.seq
    (.reg [⟨[], [(4, (.call 75 (.cons (.sl 0) .nil)))], [], none, [0, 3], 3, [], [], []⟩])
    (.seq
     (.reg [⟨[], [(5, (.call 95 (.cons (.sl 0) .nil)))], [], none, [0, 3, 4], 3, [], [], []⟩])
     (.seq
      (.reg [⟨[], [(2, (.or (.or (.or (.or (.sl 3) (.sl 4)) (.sl 5)) (.bin .eql (.sl 0) (.int .u8 95))) (.bin .eql (.sl 0) (.int .u8 39))))], [], none, [], 16, [], [], []⟩])
      (.seq
       (.tidy 0 [2])
       .ret)))))),
 [(.sl 2)], false⟩
theorem f86_ok : funOk Go.Proofs.Tryd.prog 86 0 1 f86 = true := by kernel_rfl

/- 'sloth/slothref01.digit' -/
def f95 : Fun := ⟨
 (.seq
  (.reg [⟨[], [], [(.bool false)], none, [0], 1, [], [], []⟩])
  (.seq
   (.reg [⟨[], [(2, (.and (.bin .geq (.sl 0) (.int .u8 48)) (.bin .leq (.sl 0) (.int .u8 57))))], [], none, [], 7, [], [], []⟩])
   (.seq
    (.tidy 0 [2])
    .ret))),
 [(.sl 2)], false⟩
theorem f95_ok : funOk Go.Proofs.Tryd.prog 95 0 1 f95 = true := by kernel_rfl


abbrev vB (c : UInt8) : V := .d false (.int .u8 c.toNat)
abbrev vT1 (b : Bool) : V := .d false (.bool b)
def K74 (K : Cx) : Prop := ∀ c : UInt8, K.call 74 [vB c] = some (vT1 (decide (clB c = 1)), [])
def K75 (K : Cx) : Prop := ∀ c : UInt8, K.call 75 [vB c] = some (vT1 (decide (clB c = 2)), [])
def K95 (K : Cx) : Prop := ∀ c : UInt8, K.call 95 [vB c] = some (vT1 (decide (clB c = 3)), [])
def K86 (K : Cx) : Prop := ∀ c : UInt8, K.call 86 [vB c] = some (vT1 (decide (1 ≤ clB c) && decide (clB c ≤ 4)), [])
def K79 (K : Cx) : Prop := ∀ (c : UInt8) (s : BS), s.length ≤ 1000 → K.call 79 [vB c, vS s] = some (vT1 (decide (c ∈ s)), [])
def K77 (K : Cx) : Prop := ∀ c : UInt8, K.call 77 [vB c] = some (vT1 (decide (clB c = 5)), [])
def spcB (c : UInt8) : Bool := decide (clB c = 6)
def K57 (K : Cx) : Prop := ∀ c : UInt8, K.call 57 [vB c] = some (vT1 (spcB c), [])
def K76 (K : Cx) : Prop := ∀ (s : BS) (i : Nat), i ≤ s.length → s.length ≤ 4611686018427387903 → K.call 76 [vS s, vI i] = some (vI ((i + nameL (s.drop i) : Nat)), [])
def K55 (K : Cx) : Prop := ∀ (s : BS) (i : Nat), i ≤ s.length → s.length ≤ 4611686018427387903 → K.call 55 [vS s, vI i] = some (vI ((i + runL 5 (s.drop i) : Nat)), [])
def K78 (K : Cx) : Prop := ∀ s : BS, s.length ≤ 4611686018427387903 → K.call 78 [vS s] = some (vT1 (dsh s), [])
def K58 (K : Cx) : Prop := ∀ s : BS, K.call 58 [vS s] = some (vT1 (resv s), [])

theorem sm_cl : ∀ c : UInt8, (decide (97 ≤ (c.toNat : Int)) && decide ((c.toNat : Int) ≤ 122)) = decide (clB c = 1) := u8all (by decide +kernel)
theorem cp_cl : ∀ c : UInt8, (decide (65 ≤ (c.toNat : Int)) && decide ((c.toNat : Int) ≤ 90)) = decide (clB c = 2) := u8all (by decide +kernel)
theorem dg_cl : ∀ c : UInt8, (decide (48 ≤ (c.toNat : Int)) && decide ((c.toNat : Int) ≤ 57)) = decide (clB c = 3) := u8all (by decide +kernel)
theorem sg_cl : ∀ c : UInt8, (decide (clB c = 1) || decide (clB c = 2) || decide (clB c = 3) || decide ((c.toNat : Int) = 95) || decide ((c.toNat : Int) = 39)) = (decide (1 ≤ clB c) && decide (clB c ≤ 4)) := u8all (by decide +kernel)
theorem op_cl : ∀ c : UInt8, decide (c ∈ [33, 35, 36, 37, 38, 42, 43, 46, 47, 60, 61, 62, 63, 64, 94, 124, 126, 58, 45]) = decide (clB c = 5) := u8all (by decide +kernel)
theorem sp_cl : ∀ c : UInt8, decide (c ∈ [40, 41, 91, 93, 123, 125, 44, 59, 96, 92]) = decide (clB c = 6) := u8all (by decide +kernel)

theorem ev_small (K : Cx) (c : UInt8) : runFun K f74 [vB c] [] = some (vT1 (decide (clB c = 1)), [], []) := by
  rw [← sm_cl]
  by_cases g : (97 : Int) ≤ c.toNat
  · by_cases g2 : (c.toNat : Int) ≤ 122
    · simp (disch := first | decide | omega | (simp only [LN]; omega) | (simp only [LN]; done) | fail) only [SV, f74, Nat.zero_add, Bool.and_self, beq_self_eq_true, evBin, intBin, g, decide_true, if_true, g2, V.refs, oneOr, Bool.false_eq_true, if_false, finV, finA, finC]
    · simp (disch := first | decide | omega | (simp only [LN]; omega) | (simp only [LN]; done) | fail) only [SV, f74, Nat.zero_add, Bool.and_self, beq_self_eq_true, evBin, intBin, g, decide_true, if_true, g2, decide_false, Bool.and_false, V.refs, oneOr, Bool.false_eq_true, if_false, finV, finA, finC]
  · simp (disch := first | decide | omega | (simp only [LN]; omega) | (simp only [LN]; done) | fail) only [SV, f74, Nat.zero_add, Bool.and_self, beq_self_eq_true, evBin, intBin, g, decide_false, if_true, decide_true, Bool.and_true, V.refs, oneOr, Bool.false_eq_true, if_false, finV, finA, finC]
theorem ev_capital (K : Cx) (c : UInt8) : runFun K f75 [vB c] [] = some (vT1 (decide (clB c = 2)), [], []) := by
  rw [← cp_cl]
  by_cases g : (65 : Int) ≤ c.toNat
  · by_cases g2 : (c.toNat : Int) ≤ 90
    · simp (disch := first | decide | omega | (simp only [LN]; omega) | (simp only [LN]; done) | fail) only [SV, f75, Nat.zero_add, Bool.and_self, beq_self_eq_true, evBin, intBin, g, decide_true, if_true, g2, V.refs, oneOr, Bool.false_eq_true, if_false, finV, finA, finC]
    · simp (disch := first | decide | omega | (simp only [LN]; omega) | (simp only [LN]; done) | fail) only [SV, f75, Nat.zero_add, Bool.and_self, beq_self_eq_true, evBin, intBin, g, decide_true, if_true, g2, decide_false, Bool.and_false, V.refs, oneOr, Bool.false_eq_true, if_false, finV, finA, finC]
  · simp (disch := first | decide | omega | (simp only [LN]; omega) | (simp only [LN]; done) | fail) only [SV, f75, Nat.zero_add, Bool.and_self, beq_self_eq_true, evBin, intBin, g, decide_false, if_true, decide_true, Bool.and_true, V.refs, oneOr, Bool.false_eq_true, if_false, finV, finA, finC]
theorem ev_digit (K : Cx) (c : UInt8) : runFun K f95 [vB c] [] = some (vT1 (decide (clB c = 3)), [], []) := by
  rw [← dg_cl]
  by_cases g : (48 : Int) ≤ c.toNat
  · by_cases g2 : (c.toNat : Int) ≤ 57
    · simp (disch := first | decide | omega | (simp only [LN]; omega) | (simp only [LN]; done) | fail) only [SV, f95, Nat.zero_add, Bool.and_self, beq_self_eq_true, evBin, intBin, g, decide_true, if_true, g2, V.refs, oneOr, Bool.false_eq_true, if_false, finV, finA, finC]
    · simp (disch := first | decide | omega | (simp only [LN]; omega) | (simp only [LN]; done) | fail) only [SV, f95, Nat.zero_add, Bool.and_self, beq_self_eq_true, evBin, intBin, g, decide_true, if_true, g2, decide_false, Bool.and_false, V.refs, oneOr, Bool.false_eq_true, if_false, finV, finA, finC]
  · simp (disch := first | decide | omega | (simp only [LN]; omega) | (simp only [LN]; done) | fail) only [SV, f95, Nat.zero_add, Bool.and_self, beq_self_eq_true, evBin, intBin, g, decide_false, if_true, decide_true, Bool.and_true, V.refs, oneOr, Bool.false_eq_true, if_false, finV, finA, finC]
theorem ev_sign (K : Cx) (h74 : K74 K) (h75 : K75 K) (h95 : K95 K) (c : UInt8) : runFun K f86 [vB c] [] = some (vT1 (decide (1 ≤ clB c) && decide (clB c ≤ 4)), [], []) := by
  have a := h74 c
  have b := h75 c
  have d := h95 c
  rw [← sg_cl]
  by_cases g1 : clB c = 1
  · simp (disch := first | decide | omega | (simp only [LN]; omega) | (simp only [LN]; done) | fail) only [SV, f86, Nat.zero_add, Bool.and_self, beq_self_eq_true, V.own, V.own1, Bool.or_self, V.new, V.new1, D.flat, Bool.or_true, V.flatV, V.flat1, Bool.not_true, Bool.and_false, Bool.false_and, view, viewD, a, g1, decide_true, Bool.false_eq_true, if_false, Nat.reduceBEq, b, Nat.reduceEqDiff, decide_false, d, Bool.or_false, evBin, intBin, if_true, Bool.true_or, V.refs, oneOr, finV, finA, finC]
  · by_cases g2 : clB c = 2
    · simp (disch := first | decide | omega | (simp only [LN]; omega) | (simp only [LN]; done) | fail) only [SV, f86, Nat.zero_add, Bool.and_self, beq_self_eq_true, V.own, V.own1, Bool.or_self, V.new, V.new1, D.flat, Bool.or_true, V.flatV, V.flat1, Bool.not_true, Bool.and_false, Bool.false_and, view, viewD, a, g2, Nat.reduceEqDiff, decide_false, Bool.false_eq_true, if_false, Nat.reduceBEq, b, decide_true, d, Bool.or_false, evBin, intBin, if_true, Bool.true_or, V.refs, oneOr, finV, finA, finC]
    · by_cases g3 : clB c = 3
      · simp (disch := first | decide | omega | (simp only [LN]; omega) | (simp only [LN]; done) | fail) only [SV, f86, Nat.zero_add, Bool.and_self, beq_self_eq_true, V.own, V.own1, Bool.or_self, V.new, V.new1, D.flat, Bool.or_true, V.flatV, V.flat1, Bool.not_true, Bool.and_false, Bool.false_and, view, viewD, a, g3, Nat.reduceEqDiff, decide_false, Bool.false_eq_true, if_false, Nat.reduceBEq, b, d, decide_true, evBin, intBin, if_true, Bool.true_or, V.refs, oneOr, finV, finA, finC]
      · by_cases g4 : (c.toNat : Int) = 95
        · have b4 : ((c.toNat : Int) == 95) = true := by simpa using g4
          rw [decide_eq_true g4]
          clear g4
          simp (disch := first | decide | omega | (simp only [LN]; omega) | (simp only [LN]; done) | fail) only [SV, f86, Nat.zero_add, Bool.and_self, beq_self_eq_true, V.own, V.own1, Bool.or_self, V.new, V.new1, D.flat, Bool.or_true, V.flatV, V.flat1, Bool.not_true, Bool.and_false, Bool.false_and, view, viewD, a, g1, decide_false, Bool.false_eq_true, if_false, Nat.reduceBEq, b, g2, d, g3, evBin, intBin, b4, if_true, Bool.true_or, V.refs, decide_true, oneOr, finV, finA, finC]
        · have b4 : ((c.toNat : Int) == 95) = false := by simpa using g4
          rw [decide_eq_false g4]
          clear g4
          by_cases g5 : (c.toNat : Int) = 39
          · have b5 : ((c.toNat : Int) == 39) = true := by simpa using g5
            rw [decide_eq_true g5]
            clear g5
            simp (disch := first | decide | omega | (simp only [LN]; omega) | (simp only [LN]; done) | fail) only [SV, f86, Nat.zero_add, Bool.and_self, beq_self_eq_true, V.own, V.own1, Bool.or_self, V.new, V.new1, D.flat, Bool.or_true, V.flatV, V.flat1, Bool.not_true, Bool.and_false, Bool.false_and, view, viewD, a, g1, decide_false, Bool.false_eq_true, if_false, Nat.reduceBEq, b, g2, d, g3, evBin, intBin, b4, if_true, b5, V.refs, decide_true, oneOr, finV, finA, finC]
          · have b5 : ((c.toNat : Int) == 39) = false := by simpa using g5
            rw [decide_eq_false g5]
            clear g5
            simp (disch := first | decide | omega | (simp only [LN]; omega) | (simp only [LN]; done) | fail) only [SV, f86, Nat.zero_add, Bool.and_self, beq_self_eq_true, V.own, V.own1, Bool.or_self, V.new, V.new1, D.flat, Bool.or_true, V.flatV, V.flat1, Bool.not_true, Bool.and_false, Bool.false_and, view, viewD, a, g1, decide_false, Bool.false_eq_true, if_false, Nat.reduceBEq, b, g2, d, g3, evBin, intBin, b4, if_true, b5, V.refs, decide_true, oneOr, finV, finA, finC]
theorem among_loop (K : Cx) (c : UInt8) (s : BS) (hs : s.length ≤ 1000) : ∀ (r : BS) (k : Nat), s.drop k = r → k ≤ s.length →
    lp K 0 [0, 1, 5] f79_L0 ⟨[(0, vB c), (1, vS s), (5, vI k)], [], 0, []⟩ = some (if c ∈ r then (.ret, ⟨[(4, vT1 true)], [], 0, []⟩) else (.exit 0, ⟨[], [], 0, []⟩)) := by
  intro r
  induction r with
  | nil =>
    intro k hd hk
    have hx := congrArg List.length hd
    rw [List.length_drop, List.length_nil] at hx
    rw [if_neg (by simp), lp_un f79_L0.eq_1]
    simp (disch := first | decide | omega | (simp only [LN]; omega) | (simp only [LN]; done) | fail) only [SV, Nat.reduceBEq, beq_self_eq_true, evLen, evBin, intBin, decide_false, if_true, decide_true, Bool.and_self]
  | cons u r ih =>
    intro k hd hk
    have hx := congrArg List.length hd
    rw [List.length_drop, List.length_cons] at hx
    have hn := nth_bAt (s := s) (i := k) (by omega)
    have hn2 : nth s (k : Int) = u := by rw [hn, hd]; rfl
    have ih := ih (k + 1) (by rw [dd, hd]; rfl) (by omega)
    rw [lp_un f79_L0.eq_1]
    by_cases g : u = c
    · subst g
      rw [if_pos (by simp)]
      clear ih hn
      simp (disch := first | decide | omega | (simp only [LN]; omega) | (simp only [LN]; done) | fail) only [SV, Nat.reduceBEq, beq_self_eq_true, evLen, evBin, intBin, decide_true, if_true, hn2, V.refs, Bool.and_self]
    · have e : (c ∈ u :: r) = (c ∈ r) := by
        apply propext
        simp [Ne.symm g]
      simp only [e]
      rw [← ih]
      have g1 : ((u.toNat : Int) == (c.toNat : Int)) = false := by
        rw [beq_eq_false_iff_ne, ne_eq, u8eq]; exact g
      clear ih hn g e
      simp (disch := first | decide | omega | (simp only [LN]; omega) | (simp only [LN]; done) | fail) only [SV, Nat.reduceBEq, beq_self_eq_true, evLen, evBin, intBin, decide_true, if_true, hn2, g1, cast1, V.refs, Bool.and_self]
theorem ev_among (K : Cx) (c : UInt8) (s : BS) (hs : s.length ≤ 1000) : runFun K f79 [vB c, vS s] [] = some (vT1 (decide (c ∈ s)), [], []) := by
  have h := among_loop K c s hs s 0 rfl (by omega)
  rw [Int.natCast_zero] at h
  by_cases g : c ∈ s
  · rw [if_pos g] at h
    simp (disch := first | decide | omega | (simp only [LN]; omega) | (simp only [LN]; done) | fail) only [SV, f79, Nat.zero_add, Nat.reduceAdd, Bool.and_self, beq_self_eq_true, Nat.reduceBEq, V.refs, decide_true, if_true, h, oneOr, Bool.false_eq_true, if_false, finV, finA, finC, g]
  · rw [if_neg g] at h
    simp (disch := first | decide | omega | (simp only [LN]; omega) | (simp only [LN]; done) | fail) only [SV, f79, Nat.zero_add, Nat.reduceAdd, Bool.and_self, beq_self_eq_true, Nat.reduceBEq, V.refs, decide_true, if_true, h, oneOr, Bool.false_eq_true, if_false, finV, finA, finC, g, decide_false]
theorem ev_operator (K : Cx) (h79 : K79 K) (c : UInt8) : runFun K f77 [vB c] [] = some (vT1 (decide (clB c = 5)), [], []) := by
  have h := h79 c [33, 35, 36, 37, 38, 42, 43, 46, 47, 60, 61, 62, 63, 64, 94, 124, 126, 58, 45] (by decide)
  rw [op_cl] at h
  simp (disch := first | decide | omega | (simp only [LN]; omega) | (simp only [LN]; done) | fail) only [SV, f77, Nat.zero_add, Bool.and_self, beq_self_eq_true, V.own, V.own1, Bool.or_self, V.new, V.new1, D.flat, Bool.or_true, V.flatV, V.flat1, Bool.not_true, Bool.and_false, Bool.false_and, view, viewD, h, Bool.false_eq_true, if_false, V.refs, decide_true, if_true, oneOr, finV, finA, finC]
theorem ev_special (K : Cx) (h79 : K79 K) (c : UInt8) : runFun K f57 [vB c] [] = some (vT1 (spcB c), [], []) := by
  have h := h79 c [40, 41, 91, 93, 123, 125, 44, 59, 96, 92] (by decide)
  rw [sp_cl] at h
  unfold spcB
  simp (disch := first | decide | omega | (simp only [LN]; omega) | (simp only [LN]; done) | fail) only [SV, f57, Nat.zero_add, Bool.and_self, beq_self_eq_true, V.own, V.own1, Bool.or_self, V.new, V.new1, D.flat, Bool.or_true, V.flatV, V.flat1, Bool.not_true, Bool.and_false, Bool.false_and, view, viewD, h, Bool.false_eq_true, if_false, V.refs, decide_true, if_true, oneOr, finV, finA, finC]
def endR (n : Nat) (s r : BS) (k : Nat) : Ex × S := if n = r.length then (.exit 0, ⟨[(1, vI s.length)], [], 0, []⟩) else (.ret, ⟨[(4, vI ((k + n : Nat)))], [], 0, []⟩)
theorem endR_nil (s : BS) (k : Nat) : endR 0 s [] k = (.exit 0, ⟨[(1, vI s.length)], [], 0, []⟩) := rfl
theorem endR_cons (n : Nat) (s r : BS) (u : UInt8) (k : Nat) : endR (n + 1) s (u :: r) k = endR n s r (k + 1) := by
  unfold endR
  rw [List.length_cons, show k + (n + 1) = k + 1 + n from by omega]
  by_cases g : n = r.length
  · rw [if_pos g, if_pos (by omega)]
  · rw [if_neg g, if_neg (by omega)]
theorem endR_no (s r : BS) (u : UInt8) (k : Nat) : endR 0 s (u :: r) k = (.ret, ⟨[(4, vI k)], [], 0, []⟩) := by
  unfold endR
  rw [List.length_cons, if_neg (by omega)]; rfl
theorem signs_loop (K : Cx) (h86 : K86 K) (s : BS) (hs : s.length ≤ 4611686018427387903) : ∀ (r : BS) (k : Nat), s.drop k = r → k ≤ s.length →
    lp K 0 [0, 1] f76_L0 ⟨[(0, vS s), (1, vI k)], [], 0, []⟩ = some (endR (nameL r) s r k) := by
  intro r
  induction r with
  | nil =>
    intro k hd hk
    have hx := congrArg List.length hd
    rw [List.length_drop, List.length_nil] at hx
    have e : k = s.length := by omega
    subst e
    rw [show nameL [] = 0 from rfl, endR_nil, lp_un f76_L0.eq_1]
    simp (disch := first | decide | omega | (simp only [LN]; omega) | (simp only [LN]; done) | fail) only [SV, Nat.reduceBEq, beq_self_eq_true, evLen, evBin, intBin, decide_false, if_true, V.refs, decide_true, Bool.and_self]
  | cons u r ih =>
    intro k hd hk
    have hx := congrArg List.length hd
    rw [List.length_drop, List.length_cons] at hx
    have hn := nth_bAt (s := s) (i := k) (by omega)
    have hn2 : nth s (k : Int) = u := by rw [hn, hd]; rfl
    have ih := ih (k + 1) (by rw [dd, hd]; rfl) (by omega)
    have h := h86 u
    rw [lp_un f76_L0.eq_1]
    have e1 : inNm (u :: r) = (decide (1 ≤ clB u) && decide (clB u ≤ 4)) := rfl
    rw [← e1] at h
    clear e1 hn hd
    by_cases g : inNm (u :: r) = true
    · have e2 : nameL (u :: r) = nameL r + 1 := by simp only [nameL]; rw [if_pos g]
      rw [e2, endR_cons, ← ih]
      rw [g] at h
      clear ih e2 g
      simp (disch := first | decide | omega | (simp only [LN]; omega) | (simp only [LN]; done) | fail) only [SV, Nat.reduceBEq, beq_self_eq_true, evLen, evBin, intBin, decide_true, if_true, hn2, V.own, V.own1, Bool.or_self, V.new, V.new1, D.flat, Bool.or_true, Bool.and_self, V.flatV, V.flat1, Bool.not_true, Bool.and_false, Bool.false_and, view, viewD, h, Bool.false_eq_true, if_false, evUn, cast1, V.refs]
    · have e2 : nameL (u :: r) = 0 := by simp only [nameL]; rw [if_neg g]
      rw [e2, endR_no]
      rw [Bool.not_eq_true] at g
      rw [g] at h
      clear ih e2 g
      simp (disch := first | decide | omega | (simp only [LN]; omega) | (simp only [LN]; done) | fail) only [SV, Nat.reduceBEq, beq_self_eq_true, evLen, evBin, intBin, decide_true, if_true, hn2, V.own, V.own1, Bool.or_self, V.new, V.new1, D.flat, Bool.or_true, Bool.and_self, V.flatV, V.flat1, Bool.not_true, Bool.and_false, Bool.false_and, view, viewD, h, Bool.false_eq_true, if_false, evUn, Bool.not_false, V.refs]
theorem ev_signs (K : Cx) (h86 : K86 K) (s : BS) (i : Nat) (hi : i ≤ s.length) (hs : s.length ≤ 4611686018427387903) : runFun K f76 [vS s, vI i] [] = some (vI ((i + nameL (s.drop i) : Nat)), [], []) := by
  have h := signs_loop K h86 s hs (s.drop i) i rfl hi
  unfold endR at h
  by_cases g : nameL (s.drop i) = (s.drop i).length
  · rw [if_pos g] at h
    rw [List.length_drop] at g
    have e : i + nameL (s.drop i) = s.length := by omega
    rw [e]
    clear g e
    simp (disch := first | decide | omega | (simp only [LN]; omega) | (simp only [LN]; done) | fail) only [SV, f76, Nat.zero_add, Nat.reduceAdd, Bool.and_self, beq_self_eq_true, Nat.reduceBEq, V.refs, decide_true, if_true, h, oneOr, Bool.false_eq_true, if_false, finV, finA, finC]
  · rw [if_neg g] at h
    clear g
    simp (disch := first | decide | omega | (simp only [LN]; omega) | (simp only [LN]; done) | fail) only [SV, f76, Nat.zero_add, Nat.reduceAdd, Bool.and_self, beq_self_eq_true, Nat.reduceBEq, V.refs, decide_true, if_true, h, oneOr, Bool.false_eq_true, if_false, finV, finA, finC]
theorem run5_loop (K : Cx) (h77 : K77 K) (s : BS) (hs : s.length ≤ 4611686018427387903) : ∀ (r : BS) (k : Nat), s.drop k = r → k ≤ s.length →
    lp K 0 [0, 1] f55_L0 ⟨[(0, vS s), (1, vI k)], [], 0, []⟩ = some (endR (runL 5 r) s r k) := by
  intro r
  induction r with
  | nil =>
    intro k hd hk
    have hx := congrArg List.length hd
    rw [List.length_drop, List.length_nil] at hx
    have e : k = s.length := by omega
    subst e
    rw [show runL 5 [] = 0 from rfl, endR_nil, lp_un f55_L0.eq_1]
    simp (disch := first | decide | omega | (simp only [LN]; omega) | (simp only [LN]; done) | fail) only [SV, Nat.reduceBEq, beq_self_eq_true, evLen, evBin, intBin, decide_false, if_true, V.refs, decide_true, Bool.and_self]
  | cons u r ih =>
    intro k hd hk
    have hx := congrArg List.length hd
    rw [List.length_drop, List.length_cons] at hx
    have hn := nth_bAt (s := s) (i := k) (by omega)
    have hn2 : nth s (k : Int) = u := by rw [hn, hd]; rfl
    have ih := ih (k + 1) (by rw [dd, hd]; rfl) (by omega)
    have h := h77 u
    rw [lp_un f55_L0.eq_1]
    clear hn hd
    by_cases g : clB u = 5
    · have e2 : runL 5 (u :: r) = runL 5 r + 1 := by simp only [runL]; rw [if_pos g]
      rw [e2, endR_cons, ← ih]
      rw [decide_eq_true g] at h
      clear ih e2 g
      simp (disch := first | decide | omega | (simp only [LN]; omega) | (simp only [LN]; done) | fail) only [SV, Nat.reduceBEq, beq_self_eq_true, evLen, evBin, intBin, decide_true, if_true, hn2, V.own, V.own1, Bool.or_self, V.new, V.new1, D.flat, Bool.or_true, Bool.and_self, V.flatV, V.flat1, Bool.not_true, Bool.and_false, Bool.false_and, view, viewD, h, Bool.false_eq_true, if_false, evUn, cast1, V.refs]
    · have e2 : runL 5 (u :: r) = 0 := by simp only [runL]; rw [if_neg g]
      rw [e2, endR_no]
      rw [decide_eq_false g] at h
      clear ih e2 g
      simp (disch := first | decide | omega | (simp only [LN]; omega) | (simp only [LN]; done) | fail) only [SV, Nat.reduceBEq, beq_self_eq_true, evLen, evBin, intBin, decide_true, if_true, hn2, V.own, V.own1, Bool.or_self, V.new, V.new1, D.flat, Bool.or_true, Bool.and_self, V.flatV, V.flat1, Bool.not_true, Bool.and_false, Bool.false_and, view, viewD, h, Bool.false_eq_true, if_false, evUn, Bool.not_false, V.refs]
theorem ev_run5 (K : Cx) (h77 : K77 K) (s : BS) (i : Nat) (hi : i ≤ s.length) (hs : s.length ≤ 4611686018427387903) : runFun K f55 [vS s, vI i] [] = some (vI ((i + runL 5 (s.drop i) : Nat)), [], []) := by
  have h := run5_loop K h77 s hs (s.drop i) i rfl hi
  unfold endR at h
  by_cases g : runL 5 (s.drop i) = (s.drop i).length
  · rw [if_pos g] at h
    rw [List.length_drop] at g
    have e : i + runL 5 (s.drop i) = s.length := by omega
    rw [e]
    clear g e
    simp (disch := first | decide | omega | (simp only [LN]; omega) | (simp only [LN]; done) | fail) only [SV, f55, Nat.zero_add, Nat.reduceAdd, Bool.and_self, beq_self_eq_true, Nat.reduceBEq, V.refs, decide_true, if_true, h, oneOr, Bool.false_eq_true, if_false, finV, finA, finC]
  · rw [if_neg g] at h
    clear g
    simp (disch := first | decide | omega | (simp only [LN]; omega) | (simp only [LN]; done) | fail) only [SV, f55, Nat.zero_add, Nat.reduceAdd, Bool.and_self, beq_self_eq_true, Nat.reduceBEq, V.refs, decide_true, if_true, h, oneOr, Bool.false_eq_true, if_false, finV, finA, finC]
end Go.Vm
end
