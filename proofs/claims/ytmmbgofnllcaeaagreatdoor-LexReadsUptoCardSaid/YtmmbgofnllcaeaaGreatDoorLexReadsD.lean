/-
  Parts of the proof: lex in plain words: joined texts, comments between. lex: qualified names, bytes within quotes. lex: numbers. lex: what stands between quotes. lex: the token at a place. lex.Lex: one step. lex.Lex: what it answers. lex.escaped: bytes within a quote. lex.written, lex.isToken: a token as text. lex.Print: a row of tokens as text. The statements' own helpers: same, alike, moved, plain. awake: evaluated. Tokens' places; a text's answer. The document's lexer: bytes, names, runs, reserved words. The document's lexer: what is a token. The document's lexer in plain words, and that it says what lex says. The document's lexer: nothing, fault, comments, names. The document's lexer: numbers. Conditions: none.
-/
import Derived.Test.YtmmbgofnllcaeaaGreatDoorLexReadsC
import Derived.Lib.ItoaNum
set_option linter.unusedVariables false
set_option linter.unusedSimpArgs false

section
namespace Go.Vm

theorem nameL_pos {r : BS} (h : inNm r = true) : 1 ≤ nameL r := by
  cases r with
  | nil => cases h
  | cons c r => simp only [nameL]; rw [if_pos h]; omega
theorem inNm_cls {r : BS} (h : 1 ≤ cls r ∧ cls r ≤ 4) : inNm r = true := by simp [inNm, h]
theorem hexB_digit : ∀ c : UInt8, clB c = 3 → 0 ≤ hexB c ∧ hexB c < 10 := u8all (by decide +kernel)
theorem ite_tok {c : Prop} [Decidable c] {e : Nat} {b : St} {k : Nat} {t : BS} {m : Int} {n : Nat} (h : (if c then St.bad e else b) = .tok k t m n) : b = .tok k t m n := by
  split at h
  · cases h
  · exact h
theorem tokS_len {r : BS} {k : Nat} {t : BS} {m : Int} {n : Nat} (h : tokS r = .tok k t m n) : 1 ≤ n ∧ n ≤ r.length := by
  have quot : ∀ c r', r = c :: r' → quotS r = .tok k t m n → 1 ≤ n ∧ n ≤ r.length := by
    rintro c r' rfl hy
    unfold quotS at hy
    split at hy
    · cases hy
    · rename_i bs k' hq
      have := quotL_len _ _ _ rfl _ hq
      simp only [List.drop_succ_cons, List.drop_zero] at this
      simp only [List.length_cons]
      split at hy
      · injection hy; omega
      · split at hy
        · injection hy; omega
        · cases hy
  match r with
  | [] => simp [tokS, cls, bAt] at h
  | c :: r' =>
    unfold tokS at h
    split at h
    · rename_i h1
      injection h with _ _ _ h5
      have a := nameL_le (c :: r')
      have b := nameL_pos (inNm_cls (r := c :: r') (by omega))
      omega
    · split at h
      · rename_i h2
        injection h with _ _ _ h5
        have a := nameL_le (c :: r')
        have b := nameL_pos (inNm_cls (r := c :: r') (by omega))
        have d := nameL_le ((c :: r').drop (nameL (c :: r') + 1))
        rw [List.length_drop] at d
        rw [← h5]
        unfold upS
        simp only
        split
        · omega
        · split
          · split
            · omega
            · simp only; omega
          · split
            · simp only; omega
            · omega
      · split at h
        · rename_i h3
          unfold numS at h
          have h := ite_tok h
          · injection h with _ _ _ h5
            have ho : (if hexP (c :: r') = true then 2 else 0) ≤ (c :: r').length := by
              split
              · rename_i h; have := hexP_len h; omega
              · omega
            have a := numL_le (if hexP (c :: r') = true then 16 else 10) ((c :: r').drop (if hexP (c :: r') = true then 2 else 0)) false 0
            rw [List.length_drop] at a
            refine ⟨?_, by omega⟩
            by_cases hp : hexP (c :: r') = true
            · simp only [hp, if_true] at h5; omega
            · simp only [hp] at h5
              obtain ⟨d1, d2⟩ := hexB_digit c h3
              simp only [Bool.false_eq_true, if_false, List.drop_zero, numL, d1, d2, and_self, if_true] at h5
              omega
        · split at h
          · rename_i h4
            have a := runL_le 5 (c :: r')
            have b : 1 ≤ runL 5 (c :: r') := by
              have h4' : clB c = 5 := h4
              simp only [runL]; rw [if_pos h4']; omega
            unfold opS at h
            simp only at h
            split at h
            · injection h; omega
            · split at h
              · cases h
              · injection h; omega
          · split at h
            · injection h; simp only [List.length_cons]; omega
            · split at h
              · split at h
                · exact quot c r' rfl h
                · split at h
                  · cases h
                  · injection h; simp only [List.length_cons]; omega
              · split at h
                · exact quot c r' rfl h
                · cases h

theorem stepS_len {r : BS} (h0 : r ≠ []) : (∀ k, stepS r = .skip k → 1 ≤ k ∧ k ≤ r.length) ∧ (∀ k t m n, stepS r = .tok k t m n → 1 ≤ n ∧ n ≤ r.length) := by
  have hl : 1 ≤ r.length := by cases r with | nil => exact absurd rfl h0 | cons a b => simp
  constructor
  · intro k h
    unfold stepS at h
    split at h
    · injection h; omega
    · split at h
      · split at h
        · cases h
        · rename_i k' hc
          injection h with h
          subst h
          exact (comL_app [] 0 r k' hc).2
      · split at h
        · rename_i h3
          injection h with h
          subst h
          refine ⟨?_, nlL_le r⟩
          cases r with
          | nil => exact absurd rfl h0
          | cons c r =>
            unfold dsh at h3
            simp only [Bool.and_eq_true, decide_eq_true_eq, List.length_take, List.all_eq_true, beq_iff_eq] at h3
            have : c = 45 := by
              apply h3.2
              obtain ⟨m, hm⟩ : ∃ m, runL 5 (c :: r) = m + 1 := ⟨runL 5 (c :: r) - 1, by omega⟩
              rw [hm]; simp
            subst this
            simp [nlL]
        · exact absurd h (tokS_ns r k)
  · intro k t m n h
    unfold stepS at h
    split at h
    · cases h
    · split at h
      · split at h <;> cases h
      · split at h
        · cases h
        · exact tokS_len h

theorem lexS_cons {r : BS} (h0 : r ≠ []) (i n : Nat) : lexS r i n = (match stepS r with
    | .bad e => .bad e i
    | .skip k => lexS (r.drop k) (i + k) n
    | .tok kd tx nm k => if n = 20000 then .bad 4 i else LR.cons ⟨kd, tx, nm, i⟩ (lexS (r.drop k) (i + k) (n + 1))) := by
  obtain ⟨s1, s2⟩ := stepS_len h0
  cases r with
  | nil => exact absurd rfl h0
  | cons c r =>
    rw [lexS]
    cases hs : stepS (c :: r) with
    | bad e => rfl
    | skip k => simp only [drop_pred (c := c) (s1 k hs).1]
    | tok k t m len => simp only [drop_pred (c := c) (s2 k t m len hs).1]
theorem lexS_nil (i n : Nat) : lexS [] i n = .ok [] := by rw [lexS]

def mvT (j : Nat) (t : Tok) : Tok := { t with at_ := t.at_ + j }
def LR.mv (j : Nat) : LR → LR
  | .bad e i => .bad e (i + j)
  | .ok l => .ok (l.map (mvT j))
def LR.app (l : List Tok) : LR → LR
  | .bad e i => .bad e i
  | .ok m => .ok (l ++ m)

end Go.Vm
end

section
namespace Go.Vm
set_option maxRecDepth 20000
/- 'sloth/lex.upper' -/
def f44 : Fun := ⟨
 (.seq
  (.reg [⟨[], [], [(.int .i64 0)], none, [0, 1], 2, [], [], []⟩])
  (.seq
   (.reg [⟨[], [(6, (.call 40 (.cons (.sl 0) (.cons (.sl 1) .nil))))], [], none, [0], 4, [], [], []⟩])
   (.seq
    (.seq
     (.reg [⟨[], [(21, (.or (.bin .geq (.bin .add (.sl 6) (.int .i64 1)) (.len true (.sl 0))) (.bin .neq (.ix (.sl 0) (.sl 6)) (.int .u8 46))))], [], none, [0, 6], 11, [], [], []⟩])
     (.cond (.sl 21)
      (.seq
       (.reg [⟨[], [(4, (.int .i64 2)), (5, (.sl 6))], [], none, [], 3, [], [], []⟩])
       (.seq
        (.tidy 0 [4, 5])
        .ret))
      .skip))
    (.seq
     (.reg [⟨[], [(7, (.call 40 (.cons (.sl 0) (.cons (.bin .add (.sl 6) (.int .i64 1)) .nil))))], [], none, [0, 6], 5, [], [], []⟩])
     (.seq
      (.seq
       (.reg [⟨[], [(30, (.call 12 (.cons (.sl 0) (.cons (.bin .add (.sl 6) (.int .i64 1)) .nil))))], [], none, [0, 6, 7], 4, [], [], []⟩])
       (.block 0
        (.seq
         (.reg [⟨[], [(31, (.bin .eql (.sl 30) (.int .u8 1)))], [], none, [0, 6, 7, 30], 2, [], [], []⟩])
         (.cond (.sl 31)
          (.seq
           (.reg [⟨[], [(39, (.un .not (.call 41 (.cons (.cut true true true false 0 (.sl 0) (.bin .add (.sl 6) (.int .i64 1)) (.sl 7) .nil) .nil))))], [], none, [6, 7], 7, [], [], []⟩])
           (.cond (.sl 39)
            (.seq
             (.reg [⟨[], [(4, (.int .i64 3)), (5, (.sl 7))], [], none, [], 3, [], [], []⟩])
             (.seq
              (.tidy 0 [4, 5])
              .ret))
            .skip))
          (.seq
           (.reg [⟨[], [(41, (.bin .eql (.sl 30) (.int .u8 2)))], [], none, [6, 7], 2, [], [], []⟩])
           (.cond (.sl 41)
            (.seq
             (.reg [⟨[], [(4, (.int .i64 4)), (5, (.sl 7))], [], none, [], 3, [], [], []⟩])
             (.seq
              (.tidy 0 [4, 5])
              .ret))
            .skip))))))
      (.seq
       (.reg [⟨[], [(4, (.int .i64 2)), (5, (.sl 6))], [], none, [], 3, [], [], []⟩])
       (.seq
        (.tidy 0 [4, 5])
        .ret))))))),
 [(.sl 4), (.sl 5)], false⟩
theorem f44_ok : funOk Go.Proofs.Tryz.prog 42 0 2 f44 = true := by kernel_rfl

/- 'sloth/lex.sound' -/
def f70_L0 : C :=
 (.seq
  (.seq
   (.reg [⟨[], [(56, (.bin .lss (.sl 11) (.bin .add (.sl 1) (.int .i64 4))))], [], none, [0, 1, 10, 11], 4, [], [], []⟩])
   (.cond (.sl 56)
    .skip
    (.seq
     (.tidy 0 [1, 10])
     (.exit 1))))
  (.seq
   (.block 2
    (.seq
     (.seq
      (.reg [⟨[], [(62, (.bin .neq (.call 12 (.cons (.sl 0) (.cons (.sl 11) .nil))) (.int .u8 3)))], [], none, [0, 1, 10, 11], 4, [], [], []⟩])
      (.cond (.sl 62)
       (.seq
        (.reg [⟨[], [(6, (.int .u8 0)), (7, (.int .i64 (-1)))], [], none, [], 2, [], [], []⟩])
        (.seq
         (.tidy 0 [6, 7])
         .ret))
       .skip))
     (.reg [⟨[], [(10, (.bin .add (.bin .mul (.int .i64 10) (.sl 10)) (.conv .i64 (.bin .sub (.ix (.sl 0) (.sl 11)) (.int .u8 48)))))], [], none, [0, 1, 11], 9, [], [], []⟩])))
   (.reg [⟨[], [(11, (.bin .add (.sl 11) (.int .i64 1)))], [], none, [0, 1, 10], 3, [], [], []⟩])))
def f70 : Fun := ⟨
 (.seq
  (.reg [⟨[], [], [(.int .i64 0), (.int .u8 0)], none, [0, 1, 2], 2, [], [], []⟩])
  (.seq
   (.reg [⟨[], [(8, (.call 69 (.cons (.sl 0) (.cons (.sl 1) .nil))))], [], none, [0, 1, 2], 4, [], [], []⟩])
   (.seq
    (.seq
     (.reg [⟨[], [(16, (.bin .neq (.sl 8) (.int .u8 92)))], [], none, [0, 1, 2, 8], 2, [], [], []⟩])
     (.cond (.sl 16)
      (.seq
       (.seq
        (.reg [⟨[], [(27, (.or (.or (.bin .lss (.sl 8) (.int .u8 32)) (.bin .gtr (.sl 8) (.int .u8 126))) (.bin .eql (.sl 8) (.sl 2))))], [], none, [1, 8], 11, [], [], []⟩])
        (.cond (.sl 27)
         (.seq
          (.reg [⟨[], [(6, (.int .u8 0)), (7, (.int .i64 (-1)))], [], none, [], 2, [], [], []⟩])
          (.seq
           (.tidy 0 [6, 7])
           .ret))
         .skip))
       (.seq
        (.reg [⟨[], [(6, (.sl 8)), (7, (.bin .add (.sl 1) (.int .i64 1)))], [], none, [], 5, [], [], []⟩])
        (.seq
         (.tidy 0 [6, 7])
         .ret)))
      .skip))
    (.seq
     (.seq
      (.reg [⟨[], [(9, (.call 69 (.cons (.sl 0) (.cons (.bin .add (.sl 1) (.int .i64 1)) .nil))))], [], none, [0, 1], 5, [], [], []⟩])
      (.seq
       (.reg [⟨[], [(35, (.sl 9))], [], none, [0, 1, 9], 1, [], [], []⟩])
       (.block 0
        (.seq
         (.reg [⟨[], [(36, (.bin .eql (.sl 35) (.int .u8 110)))], [], none, [0, 1, 9, 35], 2, [], [], []⟩])
         (.cond (.sl 36)
          (.seq
           (.reg [⟨[], [(6, (.int .u8 10)), (7, (.bin .add (.sl 1) (.int .i64 2)))], [], none, [], 4, [], [], []⟩])
           (.seq
            (.tidy 0 [6, 7])
            .ret))
          (.seq
           (.reg [⟨[], [(40, (.bin .eql (.sl 35) (.int .u8 116)))], [], none, [0, 1, 9, 35], 2, [], [], []⟩])
           (.cond (.sl 40)
            (.seq
             (.reg [⟨[], [(6, (.int .u8 9)), (7, (.bin .add (.sl 1) (.int .i64 2)))], [], none, [], 4, [], [], []⟩])
             (.seq
              (.tidy 0 [6, 7])
              .ret))
            (.seq
             (.seq
              (.reg [⟨[], [(44, (.bin .eql (.sl 35) (.int .u8 92)))], [], none, [0, 1, 9, 35], 2, [], [], []⟩])
              (.cond (.sl 44)
               .skip
               (.seq
                (.reg [⟨[], [(44, (.bin .eql (.sl 35) (.int .u8 39)))], [], none, [0, 1, 9, 35], 2, [], [], []⟩])
                (.cond (.sl 44)
                 .skip
                 (.reg [⟨[], [(44, (.bin .eql (.sl 35) (.int .u8 34)))], [], none, [0, 1, 9], 2, [], [], []⟩])))))
             (.cond (.sl 44)
              (.seq
               (.reg [⟨[], [(6, (.sl 9)), (7, (.bin .add (.sl 1) (.int .i64 2)))], [], none, [], 5, [], [], []⟩])
               (.seq
                (.tidy 0 [6, 7])
                .ret))
              .skip)))))))))
     (.seq
      (.reg [⟨[], [(10, (.int .i64 0))], [], none, [0, 1], 1, [], [], []⟩])
      (.seq
       (.seq
        (.reg [⟨[], [(11, (.bin .add (.sl 1) (.int .i64 1)))], [], none, [0, 1, 10], 3, [], [], []⟩])
        (.block 1
         (.seq (.tidy 0 [0, 1, 10, 11]) (.loop (.seq (.tidy 0 [0, 1, 10, 11]) f70_L0)))))
       (.seq
        (.seq
         (.reg [⟨[], [(72, (.bin .gtr (.sl 10) (.int .i64 255)))], [], none, [1, 10], 2, [], [], []⟩])
         (.cond (.sl 72)
          (.seq
           (.reg [⟨[], [(6, (.int .u8 0)), (7, (.int .i64 (-1)))], [], none, [], 2, [], [], []⟩])
           (.seq
            (.tidy 0 [6, 7])
            .ret))
          .skip))
        (.seq
         (.reg [⟨[], [(6, (.conv .u8 (.sl 10))), (7, (.bin .add (.sl 1) (.int .i64 4)))], [], none, [], 6, [], [], []⟩])
         (.seq
          (.tidy 0 [6, 7])
          .ret))))))))),
 [(.sl 6), (.sl 7)], false⟩
theorem f70_ok : funOk Go.Proofs.Tryz.prog 71 0 3 f70 = true := by kernel_rfl

theorem u8k {a c : UInt8} (n : Int) (h : (c.toNat : Int) = n) : ((a.toNat : Int) = n) = (a = c) := by
  rw [← h, u8eq]
theorem u8y {a c : UInt8} (n : Int) (h : (c.toNat : Int) = n) (g : a = c) : (a.toNat : Int) = n := by rw [u8k n h]; exact g
theorem u8n {a c : UInt8} (n : Int) (h : (c.toNat : Int) = n) (g : ¬ a = c) : ¬ (a.toNat : Int) = n := by rw [u8k n h]; exact g
theorem nc (n : Nat) : ((no_index (OfNat.ofNat n) : Nat) : Int) = OfNat.ofNat n := rfl
theorem nth_bAt {s : BS} {i : Nat} (h : i < s.length) : nth s (i : Int) = bAt (s.drop i) := by
  rw [List.drop_eq_getElem_cons h]
  simp [nth, h, bAt]
theorem dd (s : BS) (i k : Nat) : s.drop (i + k) = (s.drop i).drop k := by rw [List.drop_drop]
theorem u8wrap {n : Int} (h1 : 0 ≤ n) (h2 : n ≤ 255) : IntKind.u8.wrap n = n := by
  unfold IntKind.wrap
  have e1 : (2 : Int) ^ IntKind.u8.bits = 256 := by decide
  have e2 : IntKind.u8.signed = false := rfl
  simp only [e1, e2, Bool.false_and]
  rw [if_neg (by simp)]
  omega

def K44 (K : Cx) : Prop := ∀ (s : BS) (i : Nat), i ≤ s.length → s.length ≤ 2000000 → K.call 42 [.d false (.str s), .d false (.int .i64 i)] = some (.tup [.d false (.int .i64 (upS (s.drop i)).1), .d false (.int .i64 ((i + (upS (s.drop i)).2 : Nat)))], [])
def vSound (i : Nat) : Option (UInt8 × Nat) → V
  | none => .tup [.d false (.int .u8 0), .d false (.int .i64 (-1))]
  | some y => .tup [.d false (.int .u8 y.1.toNat), .d false (.int .i64 ((i + y.2 : Nat)))]
theorem vSound_none (i : Nat) : vSound i none = .tup [.d false (.int .u8 0), .d false (.int .i64 (-1))] := rfl
theorem vSound_some (i : Nat) (c : UInt8) (n : Nat) : vSound i (some (c, n)) = .tup [.d false (.int .u8 c.toNat), .d false (.int .i64 ((i + n : Nat)))] := rfl
def K70 (K : Cx) : Prop := ∀ (s : BS) (i : Nat) (q : UInt8), s.length ≤ 2000000 → i ≤ s.length → K.call 71 [.d false (.str s), .d false (.int .i64 i), .d false (.int .u8 q.toNat)] = some (vSound i (soundS (s.drop i) q), [])

theorem ev_upper (K : Cx) (h42 : K42 K) (h27 : K27 K) (h43 : K43 K) (s : BS) (i : Nat) (hi : i ≤ s.length) (hs : s.length ≤ 2000000) :
    runFun K f44 [.d false (.str s), .d false (.int .i64 i)] [] = some (.tup [.d false (.int .i64 (upS (s.drop i)).1), .d false (.int .i64 ((i + (upS (s.drop i)).2 : Nat)))], [], []) := by
  have h := h42 s i hi hs
  have hle := nameL_le (s.drop i)
  have hlen : (s.drop i).length = s.length - i := by rw [List.length_drop]
  have h42' := h42 s (i + nameL (s.drop i) + 1)
  have h27' := h27 s (i + nameL (s.drop i) + 1)
  have hnth := nth_bAt (s := s) (i := i + nameL (s.drop i))
  unfold upS
  simp only
  rw [dd] at hnth
  rw [Nat.add_assoc, dd] at h42' h27'
  generalize hr2 : (s.drop i).drop (nameL (s.drop i) + 1) = r2 at h42' h27'
  generalize he : nameL (s.drop i) = e at h hle h42' h27' hnth hr2 ⊢
  generalize hq : bAt ((s.drop i).drop e) = q at hnth ⊢
  have hcut := cut_slh [] s (i + (e + 1)) (i + (e + 1) + nameL r2) (by omega)
  rw [dd, hr2, Nat.add_sub_cancel_left] at hcut
  have hl2 : nameL r2 ≤ s.length - i - (e + 1) := by
    have := nameL_le r2
    rw [← hr2] at this ⊢
    simp only [List.length_drop] at this ⊢
    exact this
  clear hr2 he
  have c46 := u8k (a := q) 46 (c := 46) rfl
  by_cases g1 : (s.drop i).length ≤ e + 1
  · rw [if_pos (Or.inl g1)]
    clear h42' h27' hcut
    simp (disch := first | decide | omega | (simp only [LN]; omega) | (simp only [LN]; done) | fail) only [SV, SW, f44, Nat.reduceAdd, Nat.reduceBEq, viewD, h, cast1, oneOr, nc]
  · have hn := hnth (by omega)
    by_cases g2 : q = 46
    · rw [if_neg (by rintro (h | h); exact g1 h; exact h g2)]
      subst g2
      have h1 := h42' (by omega) hs
      have h2 := h27' (by omega)
      have h3 := hcut (by omega)
      have h4 := h43 (r2.take (nameL r2))
      clear h42' h27' hcut hnth c46
      have e46 : ((46 : UInt8).toNat : Int) = 46 := rfl
      have ea : i + (e + 1) + nameL r2 = i + (e + 1 + nameL r2) := by omega
      have ha : i + e + 1 = i + (e + 1) := rfl
      rw [ea] at h1 h3
      by_cases g3 : cls r2 = 1
      · rw [if_pos g3]
        rw [g3] at h2
        cases g4 : resv (r2.take (nameL r2)) with
        | true =>
          rw [g4] at h4
          simp (disch := first | decide | omega | (simp only [LN]; omega) | (simp only [LN]; done) | fail) only [SV, SW, f44, Nat.reduceAdd, Nat.reduceBEq, viewD, h, cast1, ha, hn, e46, h1, h2, nc, h3, h4, oneOr]
        | false =>
          rw [g4] at h4
          simp (disch := first | decide | omega | (simp only [LN]; omega) | (simp only [LN]; done) | fail) only [SV, SW, f44, Nat.reduceAdd, Nat.reduceBEq, viewD, h, cast1, ha, hn, e46, h1, h2, nc, h3, h4, oneOr]
      · rw [if_neg g3]
        have g3' : ¬ ((cls r2 : Int) = 1) := by omega
        by_cases g5 : cls r2 = 2
        · rw [if_pos g5]
          rw [g5] at h2
          simp (disch := first | decide | omega | (simp only [LN]; omega) | (simp only [LN]; done) | fail) only [SV, SW, f44, Nat.reduceAdd, Nat.reduceBEq, viewD, h, cast1, ha, hn, e46, h1, h2, nc, oneOr]
        · rw [if_neg g5]
          have g5' : ¬ ((cls r2 : Int) = 2) := by omega
          simp (disch := first | decide | omega | (simp only [LN]; omega) | (simp only [LN]; done) | fail) only [SV, SW, f44, Nat.reduceAdd, Nat.reduceBEq, viewD, h, cast1, ha, hn, e46, h1, h2, oneOr, nc]
    · rw [if_pos (Or.inr g2)]
      have g2' := u8n 46 rfl g2
      clear h42' h27' hcut hnth g2 c46
      simp (disch := first | decide | omega | (simp only [LN]; omega) | (simp only [LN]; done) | fail) only [SV, SW, f44, Nat.reduceAdd, Nat.reduceBEq, viewD, h, cast1, hn, oneOr, nc]

def digv (r : BS) (k : Nat) : Int := ((bAt (r.drop k)).toNat : Int) - 48
theorem dig_range : ∀ c : UInt8, clB c = 3 → 48 ≤ c.toNat ∧ c.toNat ≤ 57 := u8all (by decide +kernel)
theorem dig_of {r : BS} {k : Nat} (h : cls (r.drop k) = 3) : 0 ≤ digv r k ∧ digv r k ≤ 9 := by
  unfold digv
  cases hd : r.drop k with
  | nil => rw [hd] at h; cases h
  | cons c t =>
    rw [hd] at h
    have := dig_range c h
    simp only [bAt]
    omega

theorem esc_step (K : Cx) (h27 : K27 K) (s : BS) (i j : Nat) (n : Int) (hj : i < j ∧ j < i + 4) (hs : s.length ≤ 2000000) (hi : j ≤ s.length) (hn : 0 ≤ n ∧ n ≤ 1000) :
    lp K 0 [0, 1, 10, 11] f70_L0 ⟨[(0, .d false (.str s)), (1, .d false (.int .i64 i)), (10, .d false (.int .i64 n)), (11, .d false (.int .i64 j))], [], 0, []⟩ =
      if cls (s.drop j) = 3 then lp K 0 [0, 1, 10, 11] f70_L0 ⟨[(0, .d false (.str s)), (1, .d false (.int .i64 i)), (10, .d false (.int .i64 (10 * n + digv s j))), (11, .d false (.int .i64 ((j + 1 : Nat) : Int)))], [], 0, []⟩
      else some (.ret, ⟨[(6, .d false (.int .u8 0)), (7, .d false (.int .i64 (-1)))], [], 0, []⟩) := by
  have h := h27 s j hi
  obtain ⟨j1, j2⟩ := hj
  obtain ⟨n1, n2⟩ := hn
  rw [lp_un f70_L0.eq_1]
  by_cases g : cls (s.drop j) = 3
  · rw [if_pos g]
    have hd := dig_of (r := s) (k := j) g
    have hlt := cls3_len g
    have hb := nth_bAt (s := s) (i := j) (by omega)
    rw [g] at h
    have hw : IntKind.u8.wrap (((bAt (s.drop j)).toNat : Int) - 48) = digv s j := by
      unfold digv at hd ⊢
      exact u8wrap (by omega) (by omega)
    generalize digv s j = v at hd hw ⊢
    obtain ⟨d1, d2⟩ := hd
    simp (disch := first | decide | omega | (simp only [LN]; omega) | (simp only [LN]; done) | fail) only [SV, SW, Int.reduceNeg, Nat.reduceBEq, viewD, h, hb, hw, evConv, cast1]
  · rw [if_neg g]
    have g' : ¬ ((cls (s.drop j) : Int) = 3) := by omega
    simp (disch := first | decide | omega | (simp only [LN]; omega) | (simp only [LN]; done) | fail) only [SV, SW, Int.reduceNeg, Nat.reduceBEq, viewD, h]
theorem esc_end (K : Cx) (s : BS) (i : Nat) (n : Int) (hi : i ≤ 2000000) :
    lp K 0 [0, 1, 10, 11] f70_L0 ⟨[(0, .d false (.str s)), (1, .d false (.int .i64 i)), (10, .d false (.int .i64 n)), (11, .d false (.int .i64 ((i + 4 : Nat) : Int)))], [], 0, []⟩ =
      some (.exit 1, ⟨[(1, .d false (.int .i64 i)), (10, .d false (.int .i64 n))], [], 0, []⟩) := by
  rw [lp_un f70_L0.eq_1]
  simp (disch := first | decide | omega | (simp only [LN]; omega) | (simp only [LN]; done) | fail) only [SV, SW, Int.reduceNeg, Nat.reduceBEq]
def escOut (i : Nat) (r : BS) : Ex × S :=
  if cls (r.drop 1) = 3 ∧ cls (r.drop 2) = 3 ∧ cls (r.drop 3) = 3 then (.exit 1, ⟨[(1, .d false (.int .i64 i)), (10, .d false (.int .i64 (100 * digv r 1 + 10 * digv r 2 + digv r 3)))], [], 0, []⟩)
  else (.ret, ⟨[(6, .d false (.int .u8 0)), (7, .d false (.int .i64 (-1)))], [], 0, []⟩)
theorem digv_dd (s : BS) (i k : Nat) : digv s (i + k) = digv (s.drop i) k := by unfold digv; rw [dd]
theorem esc_loop (K : Cx) (h27 : K27 K) (s : BS) (i : Nat) (hs : s.length ≤ 2000000) (hi : i + 1 ≤ s.length) :
    lp K 0 [0, 1, 10, 11] f70_L0 ⟨[(0, .d false (.str s)), (1, .d false (.int .i64 i)), (10, .d false (.int .i64 0)), (11, .d false (.int .i64 ((i + 1 : Nat) : Int)))], [], 0, []⟩ = some (escOut i (s.drop i)) := by
  unfold escOut
  rw [esc_step K h27 s i (i + 1) 0 (by omega) hs hi (by omega), dd s i 1]
  by_cases g1 : cls ((s.drop i).drop 1) = 3
  · have d1 := dig_of g1
    have l1 := cls3_len g1
    rw [List.length_drop] at l1
    rw [if_pos g1, digv_dd, esc_step K h27 s i (i + 1 + 1) _ (by omega) hs (by omega) (by omega), show i + 1 + 1 = i + 2 from rfl, dd s i 2]
    by_cases g2 : cls ((s.drop i).drop 2) = 3
    · have d2 := dig_of g2
      have l2 := cls3_len g2
      rw [List.length_drop] at l2
      rw [if_pos g2, digv_dd, esc_step K h27 s i (i + 2 + 1) _ (by omega) hs (by omega) (by omega), show i + 2 + 1 = i + 3 from rfl, dd s i 3]
      by_cases g3 : cls ((s.drop i).drop 3) = 3
      · rw [if_pos g3, if_pos ⟨g1, g2, g3⟩, digv_dd, show i + 3 + 1 = i + 4 from rfl, esc_end K s i _ (by omega)]
        have e : 10 * (10 * (10 * (0 : Int) + digv (s.drop i) 1) + digv (s.drop i) 2) + digv (s.drop i) 3 = 100 * digv (s.drop i) 1 + 10 * digv (s.drop i) 2 + digv (s.drop i) 3 := by omega
        rw [e]
      · rw [if_neg g3, if_neg (fun h => g3 h.2.2)]
    · rw [if_neg g2, if_neg (fun h => g2 h.2.1)]
  · rw [if_neg g1, if_neg (fun h => g1 h.1)]

theorem ev_sound (K : Cx) (h68 : K68 K) (h27 : K27 K) (s : BS) (i : Nat) (q : UInt8) (hs : s.length ≤ 2000000) (hi : i ≤ s.length) :
    runFun K f70 [.d false (.str s), .d false (.int .i64 i), .d false (.int .u8 q.toNat)] [] = some (vSound i (soundS (s.drop i) q), [], []) := by
  have h0 := h68 s i hs
  have h1 := h68 s (i + 1) hs
  rw [dd] at h1
  have e1 : bAt (s.drop i) ≠ 0 → i + 1 ≤ s.length := fun h => bAt_len h
  have hl := esc_loop K h27 s i hs
  unfold soundS
  generalize s.drop i = r at h0 h1 e1 hl ⊢
  have c92 := u8k (a := bAt r) 92 (c := 92) rfl
  by_cases g1 : bAt r ≠ 92
  · rw [if_pos g1]
    have g1' : ¬ (((bAt r).toNat : Int) = 92) := by rw [c92]; exact g1
    have cq := u8eq (bAt r) q
    clear hl h1 c92 g1
    by_cases g2 : (bAt r).toNat < 32
    · rw [if_pos (Or.inl g2), vSound_none]
      simp (disch := first | decide | omega | (simp only [LN]; omega) | (simp only [LN]; done) | fail) only [SV, SW, f70, Int.reduceNeg, Nat.reduceAdd, Nat.reduceBEq, viewD, h0, oneOr]
    · by_cases g3 : 126 < (bAt r).toNat
      · rw [if_pos (Or.inr (Or.inl g3)), vSound_none]
        simp (disch := first | decide | omega | (simp only [LN]; omega) | (simp only [LN]; done) | fail) only [SV, SW, f70, Int.reduceNeg, Nat.reduceAdd, Nat.reduceBEq, viewD, h0, oneOr]
      · by_cases g4 : bAt r = q
        · rw [if_pos (Or.inr (Or.inr g4)), vSound_none]
          have g4' : (((bAt r).toNat : Int) == (q.toNat : Int)) = true := by rw [g4]; exact beq_self_eq_true _
          clear g4 cq
          simp (disch := first | decide | omega | (simp only [LN]; omega) | (simp only [LN]; done) | fail) only [SV, SW, f70, Int.reduceNeg, Nat.reduceAdd, Nat.reduceBEq, viewD, h0, g4', oneOr]
        · rw [if_neg (by rintro (h | h | h); exact g2 h; exact g3 h; exact g4 h), vSound_some]
          have g4' : (((bAt r).toNat : Int) == (q.toNat : Int)) = false := by rw [beq_eq_false_iff_ne, ne_eq, cq]; exact g4
          clear g4 cq
          simp (disch := first | decide | omega | (simp only [LN]; omega) | (simp only [LN]; done) | fail) only [SV, SW, f70, Int.reduceNeg, Nat.reduceAdd, Nat.reduceBEq, viewD, h0, g4', cast1, oneOr]
  · rw [if_neg g1]
    have g1' : bAt r = 92 := by simpa using g1
    have hi1 := e1 (by rw [g1']; decide)
    have hl := hl hi1
    rw [g1'] at h0
    have e92 : ((92 : UInt8).toNat : Int) = 92 := rfl
    rw [e92] at h0
    clear e1 c92 g1 g1' e92
    by_cases g2 : bAt (r.drop 1) = 110
    · rw [if_pos g2, vSound_some]
      have g2' := u8y 110 rfl g2
      have e10 : ((10 : UInt8).toNat : Int) = 10 := rfl
      clear g2 hl
      simp (disch := first | decide | omega | (simp only [LN]; omega) | (simp only [LN]; done) | fail) only [SV, SW, f70, Int.reduceNeg, Nat.reduceAdd, Nat.reduceBEq, viewD, h0, cast1, h1, cast2, oneOr, e10]
    · rw [if_neg g2]
      have g2' := u8n 110 rfl g2
      clear g2
      by_cases g3 : bAt (r.drop 1) = 116
      · rw [if_pos g3, vSound_some]
        have g3' := u8y 116 rfl g3
        have e9 : ((9 : UInt8).toNat : Int) = 9 := rfl
        clear g3 hl
        simp (disch := first | decide | omega | (simp only [LN]; omega) | (simp only [LN]; done) | fail) only [SV, SW, f70, Int.reduceNeg, Nat.reduceAdd, Nat.reduceBEq, viewD, h0, cast1, h1, cast2, oneOr, e9]
      · rw [if_neg g3]
        have g3' := u8n 116 rfl g3
        clear g3
        by_cases g4 : bAt (r.drop 1) = 92 ∨ bAt (r.drop 1) = 39 ∨ bAt (r.drop 1) = 34
        · rw [if_pos g4, vSound_some]
          clear hl
          rcases g4 with g4 | g4 | g4
          · have g4' := u8y 92 rfl g4
            clear g4
            simp (disch := first | decide | omega | (simp only [LN]; omega) | (simp only [LN]; done) | fail) only [SV, SW, f70, Int.reduceNeg, Nat.reduceAdd, Nat.reduceBEq, viewD, h0, cast1, h1, cast2, oneOr]
          · have g4' := u8y 39 rfl g4
            clear g4
            simp (disch := first | decide | omega | (simp only [LN]; omega) | (simp only [LN]; done) | fail) only [SV, SW, f70, Int.reduceNeg, Nat.reduceAdd, Nat.reduceBEq, viewD, h0, cast1, h1, cast2, oneOr]
          · have g4' := u8y 34 rfl g4
            clear g4
            simp (disch := first | decide | omega | (simp only [LN]; omega) | (simp only [LN]; done) | fail) only [SV, SW, f70, Int.reduceNeg, Nat.reduceAdd, Nat.reduceBEq, viewD, h0, cast1, h1, cast2, oneOr]
        · rw [if_neg g4]
          simp only [not_or] at g4
          have g5' := u8n 92 rfl g4.1
          have g6' := u8n 39 rfl g4.2.1
          have g7' := u8n 34 rfl g4.2.2
          clear g4
          unfold escD
          unfold escOut at hl
          by_cases g8 : cls (r.drop 1) = 3 ∧ cls (r.drop 2) = 3 ∧ cls (r.drop 3) = 3
          · rw [if_pos g8] at hl ⊢
            have d1 := dig_of g8.1
            have d2 := dig_of g8.2.1
            have d3 := dig_of g8.2.2
            have ev : 100 * digv r 1 + 10 * digv r 2 + digv r 3 = ((100 * ((bAt (r.drop 1)).toNat - 48) + 10 * ((bAt (r.drop 2)).toNat - 48) + ((bAt (r.drop 3)).toNat - 48) : Nat) : Int) := by
              unfold digv at d1 d2 d3 ⊢
              omega
            rw [ev] at hl
            have hb : 100 * ((bAt (r.drop 1)).toNat - 48) + 10 * ((bAt (r.drop 2)).toNat - 48) + ((bAt (r.drop 3)).toNat - 48) ≤ 999 := by
              unfold digv at d1 d2 d3
              omega
            generalize 100 * ((bAt (r.drop 1)).toNat - 48) + 10 * ((bAt (r.drop 2)).toNat - 48) + ((bAt (r.drop 3)).toNat - 48) = n at hl hb ⊢
            clear g8 d1 d2 d3 ev
            by_cases g9 : 255 < n
            · rw [if_pos g9, vSound_none]
              simp (disch := first | decide | omega | (simp only [LN]; omega) | (simp only [LN]; done) | fail) only [SV, SW, f70, Int.reduceNeg, Nat.reduceAdd, Nat.reduceBEq, viewD, h0, cast1, h1, hl, oneOr]
            · rw [if_neg g9, vSound_some]
              have hw := u8wrap (n := (n : Int)) (by omega) (by omega)
              have hz : ((UInt8.ofNat n).toNat : Int) = n := by
                rw [UInt8.toNat_ofNat']; omega
              simp (disch := first | decide | omega | (simp only [LN]; omega) | (simp only [LN]; done) | fail) only [SV, SW, f70, Int.reduceNeg, Nat.reduceAdd, Nat.reduceBEq, viewD, h0, cast1, h1, hl, evConv, hw, cast4, oneOr, hz]
          · rw [if_neg g8] at hl ⊢
            rw [vSound_none]
            clear g8
            simp (disch := first | decide | omega | (simp only [LN]; omega) | (simp only [LN]; done) | fail) only [SV, SW, f70, Int.reduceNeg, Nat.reduceAdd, Nat.reduceBEq, viewD, h0, cast1, h1, hl, oneOr]
end Go.Vm
end

section
namespace Go.Vm
set_option maxRecDepth 20000
/- 'sloth/lex.number' -/
def f45_L0 : C :=
 (.seq
  (.seq
   (.reg [⟨[], [(44, (.and (.bin .geq (.sl 12) (.int .i64 0)) (.bin .lss (.sl 12) (.sl 7))))], [], none, [0, 1, 4, 7, 8, 9, 10, 11, 12], 7, [], [], []⟩])
   (.cond (.sl 44)
    .skip
    (.seq
     (.tidy 0 [0, 1, 4, 7, 8, 9, 10, 11])
     (.exit 0))))
  (.seq
   (.block 1
    (.seq
     (.seq
      (.reg [⟨[], [(53, (.bin .gtr (.sl 10) (.bin .quo (.bin .sub (.int .i64 4611686018427387903) (.sl 12)) (.sl 7))))], [], none, [0, 1, 4, 7, 8, 9, 10, 11, 12], 6, [], [], []⟩])
      (.cond (.sl 53)
       (.seq
        (.reg [⟨[], [(11, (.bool true))], [], none, [0, 1, 4, 7, 8, 9, 12], 1, [], [], []⟩])
        (.reg [⟨[], [(10, (.int .i64 0))], [], none, [0, 1, 4, 7, 8, 9, 11, 12], 1, [], [], []⟩]))
       .skip))
     (.seq
      (.reg [⟨[], [(10, (.bin .add (.bin .mul (.sl 10) (.sl 7)) (.sl 12)))], [], none, [0, 1, 4, 7, 8, 9, 11], 6, [], [], []⟩])
      (.reg [⟨[], [(8, (.bin .add (.sl 8) (.int .i64 1)))], [], none, [0, 1, 4, 7, 9, 10, 11], 3, [], [], []⟩]))))
   (.reg [⟨[], [(12, (.call 70 (.cons (.sl 0) (.cons (.sl 8) .nil))))], [], none, [0, 1, 4, 7, 8, 9, 10, 11], 4, [], [], []⟩])))
def f45 : Fun := ⟨
 (.seq
  (.reg [⟨[(4, .box (.agg (.cons (.int .i64 0) (.cons (.str []) (.cons (.int .i64 0) (.cons (.int .i64 0) .nil))))))], [], [], none, [0, 1, 4], 3, [], [], []⟩])
  (.seq
   (.reg [⟨[], [(7, (.int .i64 10)), (8, (.sl 1))], [], none, [0, 1, 4], 3, [], [], []⟩])
   (.seq
    (.seq
     (.reg [⟨[], [(31, (.and (.and (.bin .eql (.ix (.sl 0) (.sl 1)) (.int .u8 48)) (.bin .eql (.call 69 (.cons (.sl 0) (.cons (.bin .add (.sl 1) (.int .i64 1)) .nil))) (.int .u8 120))) (.bin .geq (.call 70 (.cons (.sl 0) (.cons (.bin .add (.sl 1) (.int .i64 2)) .nil))) (.int .i64 0))))], [], none, [0, 1, 4, 7, 8], 18, [], [], []⟩])
     (.cond (.sl 31)
      (.reg [⟨[], [(7, (.int .i64 16)), (8, (.bin .add (.sl 1) (.int .i64 2)))], [], none, [0, 1, 4], 4, [], [], []⟩])
      .skip))
    (.seq
     (.reg [⟨[], [(9, (.sl 8)), (10, (.int .i64 0)), (11, (.bool false))], [], none, [0, 1, 4, 7, 8], 4, [], [], []⟩])
     (.seq
      (.seq
       (.reg [⟨[], [(12, (.call 70 (.cons (.sl 0) (.cons (.sl 8) .nil))))], [], none, [0, 1, 4, 7, 8, 9, 10, 11], 4, [], [], []⟩])
       (.block 0
        (.seq (.tidy 0 [0, 1, 4, 7, 8, 9, 10, 11, 12]) (.loop (.seq (.tidy 0 [0, 1, 4, 7, 8, 9, 10, 11, 12]) f45_L0)))))
      (.seq
       (.seq
        (.reg [⟨[], [(82, (.or (.or (.sl 11) (.and (.and (.bin .eql (.sl 7) (.int .i64 10)) (.bin .eql (.ix (.sl 0) (.sl 9)) (.int .u8 48))) (.bin .gtr (.sl 8) (.bin .add (.sl 9) (.int .i64 1))))) (.call 46 (.cons (.sl 0) (.cons (.sl 8) .nil)))))], [], none, [1, 4, 8, 10], 22, [], [], []⟩])
        (.cond (.sl 82)
         (.seq
          (.reg [⟨[], [], [], some (none, .store 4 (.sl 4) (.agg (.cons (.int .i64 0) (.cons (.str []) (.cons (.int .i64 0) (.cons (.int .i64 0) .nil)))))), [4], 2, [], [], []⟩, ⟨[], [(5, (.int .i64 0)), (6, (.int .i64 11))], [], none, [4], 2, [], [], []⟩])
          (.seq
           (.tidy 0 [4, 5, 6])
           .ret))
         .skip))
       (.seq
        (.reg [⟨[], [(87, (.sl 8))], [], some (none, .store 4 (.sl 4) (.set 3 1 (.sl 1) (.set 2 1 (.sl 10) (.set 0 1 (.int .i64 6) (.agg (.cons (.int .i64 0) (.cons (.str []) (.cons (.int .i64 0) (.cons (.int .i64 0) .nil))))))))), [4], 5, [], [], []⟩, ⟨[], [(5, (.sl 87)), (6, (.int .i64 0))], [], none, [4], 2, [], [], []⟩])
        (.seq
         (.tidy 0 [4, 5, 6])
         .ret)))))))),
 [(.ld 4 true (.sl 4)), (.sl 5), (.sl 6)], false⟩
theorem f45_ok : funOk Go.Proofs.Tryz.prog 43 0 2 f45 = true := by kernel_rfl

abbrev vI (n : Int) : V := .d false (.int .i64 n)
abbrev vS (s : BS) : V := .d false (.str s)
def stV (i : Nat) : St → V
  | .bad e => .tup [.agg [vI 0, vS [], vI 0, vI 0], vI 0, vI e]
  | .skip _ => .tup []
  | .tok k t m n => .tup [.agg [vI k, vS t, vI m, vI i], vI ((i + n : Nat)), vI 0]
theorem stV_bad (i e : Nat) : stV i (.bad e) = .tup [.agg [vI 0, vS [], vI 0, vI 0], vI 0, vI e] := rfl
theorem stV_tok (i k t m n) : stV i (.tok k t m n) = .tup [.agg [vI k, vS t, vI m, vI i], vI ((i + n : Nat)), vI 0] := rfl
def K45 (K : Cx) : Prop := ∀ (s : BS) (i : Nat), i < s.length → s.length ≤ 2000000 → K.call 43 [vS s, vI i] = some (stV i (numS (s.drop i)), [])

theorem hexL_nil : hexL [] = -1 := by decide
theorem num_loop (K : Cx) (h69 : K69 K) (s : BS) (hs : s.length ≤ 2000000) (i f b : Int) (hb : b = 10 ∨ b = 16) : ∀ (r : BS) (e : Nat) (g : Bool) (n : Int), s.drop e = r → e ≤ s.length → 0 ≤ n → n ≤ 4611686018427387903 →
    lp K 0 [0, 1, 4, 7, 8, 9, 10, 11, 12] f45_L0 ⟨[(0, vS s), (1, vI i), (4, .ptr 0 0 0), (7, vI b), (8, vI e), (9, vI f), (10, vI n), (11, .d false (.bool g)), (12, vI (hexL r))], [(0, .mix 4 [[vI 0, vS [], vI 0, vI 0]])], 1, []⟩ =
    some (.exit 0, ⟨[(0, vS s), (1, vI i), (4, .ptr 0 0 0), (7, vI b), (8, vI ((e + (numL b r g n).2.2 : Nat))), (9, vI f), (10, vI (numL b r g n).2.1), (11, .d false (.bool (numL b r g n).1))], [(0, .mix 4 [[vI 0, vS [], vI 0, vI 0]])], 1, []⟩) := by
  intro r
  induction r with
  | nil =>
    intro e g n hr he h0 h1
    rw [hexL_nil]
    simp only [numL, Nat.add_zero]
    rw [lp_un f45_L0.eq_1]
    simp (disch := first | decide | omega | (simp only [LN]; omega) | (simp only [LN]; done) | fail) only [SV, SW, Int.reduceNeg, Nat.reduceBEq]
  | cons c r ih =>
    intro e g n hr he h0 h1
    have hlt : e < s.length := by
      apply Classical.byContradiction
      intro h
      rw [List.drop_eq_nil_of_le (by omega)] at hr
      cases hr
    have hr2 : s.drop (e + 1) = r := by rw [dd, hr]; rfl
    have h2 := h69 s (e + 1) hs
    rw [hr2] at h2
    have hx : hexL (c :: r) = hexB c := rfl
    have hd16 := hexB_lt c
    rw [hx]
    simp only [numL]
    generalize hexB c = d at hd16 ⊢
    have hb0 : (b = 0) = False := eq_false (by omega)
    rw [lp_un f45_L0.eq_1]
    by_cases g1 : 0 ≤ d ∧ d < b
    · rw [if_pos g1]
      obtain ⟨d0, d1⟩ := g1
      have hq : (4611686018427387903 - d).tdiv b = (4611686018427387903 - d) / b := Int.tdiv_eq_ediv_of_nonneg (by omega)
      have hq0 : 0 ≤ (4611686018427387903 - d) / b := Int.ediv_nonneg (by omega) (by omega)
      have hq1 : (4611686018427387903 - d) / b ≤ 4611686018427387903 := by
        have := Int.ediv_le_self (a := 4611686018427387903 - d) b (by omega)
        omega
      have key : ¬ (4611686018427387903 - d) / b < n → n * b ≤ 4611686018427387903 - d := by
        intro h
        exact (Int.le_ediv_iff_mul_le (by omega)).1 (by omega)
      have hnb : 0 ≤ n * b := Int.mul_nonneg h0 (by omega)
      generalize (4611686018427387903 - d) / b = q at hq hq0 hq1 key ⊢
      have cast : ∀ k : Nat, ((e + (k + 1) : Nat)) = e + 1 + k := fun k => by omega
      by_cases g2 : q < n
      · rw [if_pos g2]
        have ih := ih (e + 1) true d hr2 (by omega) d0 (by omega)
        rw [cast]
        clear key hb
        generalize hz : n * b = z at hnb
        simp (disch := first | decide | omega | (simp only [LN]; omega) | (simp only [LN]; done) | fail) only [SV, SW, Nat.reduceBEq, hb0, hq, Int.zero_mul, Int.zero_add, cast1, viewD, h2]
        exact ih
      · rw [if_neg g2]
        have hk := key g2
        generalize hz : n * b = z at hnb hk ⊢
        have ih := ih (e + 1) g (z + d) hr2 (by omega) (by omega) (by omega)
        rw [cast]
        clear key hb
        simp (disch := first | decide | omega | (simp only [LN]; omega) | (simp only [LN]; done) | fail) only [SV, SW, Nat.reduceBEq, hb0, hq, hz, cast1, viewD, h2]
        exact ih
    · rw [if_neg g1]
      simp only [Nat.add_zero]
      by_cases g2 : 0 ≤ d
      · have g3 : ¬ d < b := fun h => g1 ⟨g2, h⟩
        clear g1 hb
        simp (disch := first | decide | omega | (simp only [LN]; omega) | (simp only [LN]; done) | fail) only [SV, SW, Nat.reduceBEq]
      · clear g1 hb
        simp (disch := first | decide | omega | (simp only [LN]; omega) | (simp only [LN]; done) | fail) only [SV, SW, Nat.reduceBEq]

theorem ev_number (K : Cx) (h68 : K68 K) (h69 : K69 K) (h48 : K48 K) (s : BS) (i : Nat) (hi : i < s.length) (hs : s.length ≤ 2000000) :
    runFun K f45 [vS s, vI i] [] = some (stV i (numS (s.drop i)), [], []) := by
  have h1 := h68 s (i + 1) hs
  have h2 := h69 s (i + 2) hs
  have h0 := h69 s i hs
  have hn := nth_bAt hi
  have hlen : (s.drop i).length = s.length - i := List.length_drop ..
  have k48 := fun k => h48 s (i + k)
  rw [dd] at h1 h2
  simp only [dd s i] at k48
  have L16 := num_loop K h69 s hs i ((i + 2 : Nat) : Int) 16 (Or.inr rfl) ((s.drop i).drop 2) (i + 2) false 0 (by rw [dd])
  have L10 := num_loop K h69 s hs i i 10 (Or.inl rfl) (s.drop i) i false 0 rfl (by omega) (by omega) (by omega)
  have hn2 := nth_bAt (s := s) (i := i + 2)
  rw [dd] at hn2
  unfold numS
  simp only
  generalize s.drop i = r at *
  have c48 : ∀ n : Int, n = 48 → bAt r = 48 → ((bAt r).toNat : Int) = n := fun n hn h => by rw [hn, h]; rfl
  by_cases hp : hexP r = true
  · simp only [hp, if_true]
    have hl3 := hexP_len hp
    unfold hexP at hp
    simp only [Bool.and_eq_true, decide_eq_true_eq] at hp
    obtain ⟨⟨p1, p2⟩, p3⟩ := hp
    have q1 := u8y 48 rfl p1
    have q2 := u8y 120 rfl p2
    have L16 := L16 (by omega) (by omega) (by omega)
    have hle := numL_le 16 (r.drop 2) false 0
    rw [List.length_drop] at hle
    generalize numL 16 (r.drop 2) false 0 = x at L16 hle ⊢
    obtain ⟨g, n, k⟩ := x
    simp only at L16 hle ⊢
    have h3 := k48 (2 + k) (by omega)
    rw [show i + (2 + k) = i + 2 + k from by omega] at h3
    clear L10 k48 hn2 c48 p1 p2
    cases g with
    | true =>
      rw [if_pos (Or.inl rfl), stV_bad]
      simp (disch := first | decide | omega | (simp only [LN]; omega) | (simp only [LN]; done) | fail) only [SV, SW, f45, Nat.reduceAdd, Nat.reduceBEq, hn, q1, cast1, viewD, h1, q2, cast2, h2, L16, lose, oneOr, nc]
    | false =>
      cases g2 : inNm (r.drop (2 + k)) with
      | true =>
        rw [if_pos (Or.inr (Or.inr rfl)), stV_bad]
        rw [g2] at h3
        simp (disch := first | decide | omega | (simp only [LN]; omega) | (simp only [LN]; done) | fail) only [SV, SW, f45, Nat.reduceAdd, Nat.reduceBEq, hn, q1, cast1, viewD, h1, q2, cast2, h2, L16, h3, lose, oneOr, nc]
      | false =>
        rw [if_neg (by rintro (h | h | h) <;> simp at h), stV_tok]
        rw [g2] at h3
        rw [show i + (2 + k) = i + 2 + k from by omega]
        simp (disch := first | decide | omega | (simp only [LN]; omega) | (simp only [LN]; done) | fail) only [SV, SW, f45, Nat.reduceAdd, Nat.reduceBEq, hn, q1, cast1, viewD, h1, q2, cast2, h2, L16, h3, lose, oneOr, nc]
  · have hp' : hexP r = false := by simpa using hp
    simp only [hp', Bool.false_eq_true, if_false, List.drop_zero, Nat.zero_add, true_and]
    have hle := numL_le 10 r false 0
    generalize numL 10 r false 0 = x at L10 hle ⊢
    obtain ⟨g, n, k⟩ := x
    simp only at L10 hle ⊢
    have h3 := k48 k (by omega)
    clear L16 k48 hn2 hp
    unfold hexP at hp'
    have fin : ∀ rr : V, rr = stV i (if g = true ∨ (bAt r = 48 ∧ 1 < k) ∨ inNm (r.drop k) = true then .bad 11 else .tok 6 [] n k) → runFun K f45 [vS s, vI i] [] = some (rr, [], []) := by
      intro rr hrr
      by_cases p1 : bAt r = 48
      · have q1 := u8y 48 rfl p1
        have pre3 : ¬ (((bAt (r.drop 1)).toNat : Int) = 120) ∨ ¬ 0 ≤ hexL (r.drop 2) := by
          by_cases p2 : bAt (r.drop 1) = 120
          · right
            intro h
            rw [p1, p2] at hp'
            simp [h] at hp'
          · left; exact u8n 120 rfl p2
        subst hrr
        cases g with
        | true =>
          rw [if_pos (Or.inl rfl), stV_bad]
          rcases pre3 with p | p
          · clear p1 hp' c48
            simp (disch := first | decide | omega | (simp only [LN]; omega) | (simp only [LN]; done) | fail) only [SV, SW, f45, Nat.reduceAdd, Nat.reduceBEq, hn, q1, cast1, viewD, h1, cast2, h2, h0, L10, lose, oneOr, nc]
          · clear p1 hp' c48
            by_cases p2 : ((bAt (r.drop 1)).toNat : Int) = 120
            · simp (disch := first | decide | omega | (simp only [LN]; omega) | (simp only [LN]; done) | fail) only [SV, SW, f45, Nat.reduceAdd, Nat.reduceBEq, hn, q1, cast1, viewD, h1, p2, cast2, h2, h0, L10, lose, oneOr, nc]
            · simp (disch := first | decide | omega | (simp only [LN]; omega) | (simp only [LN]; done) | fail) only [SV, SW, f45, Nat.reduceAdd, Nat.reduceBEq, hn, q1, cast1, viewD, h1, cast2, h2, h0, L10, lose, oneOr, nc]
        | false =>
          by_cases g1 : 1 < k
          · rw [if_pos (Or.inr (Or.inl ⟨p1, g1⟩)), stV_bad]
            clear p1 hp' c48
            rcases pre3 with p | p
            · simp (disch := first | decide | omega | (simp only [LN]; omega) | (simp only [LN]; done) | fail) only [SV, SW, f45, Nat.reduceAdd, Nat.reduceBEq, hn, q1, cast1, viewD, h1, cast2, h2, h0, L10, lose, oneOr, nc]
            · by_cases p2 : ((bAt (r.drop 1)).toNat : Int) = 120
              · simp (disch := first | decide | omega | (simp only [LN]; omega) | (simp only [LN]; done) | fail) only [SV, SW, f45, Nat.reduceAdd, Nat.reduceBEq, hn, q1, cast1, viewD, h1, p2, cast2, h2, h0, L10, lose, oneOr, nc]
              · simp (disch := first | decide | omega | (simp only [LN]; omega) | (simp only [LN]; done) | fail) only [SV, SW, f45, Nat.reduceAdd, Nat.reduceBEq, hn, q1, cast1, viewD, h1, cast2, h2, h0, L10, lose, oneOr, nc]
          · cases g2 : inNm (r.drop k) with
            | true =>
              rw [if_pos (Or.inr (Or.inr rfl)), stV_bad]
              rw [g2] at h3
              clear p1 hp' c48
              rcases pre3 with p | p
              · simp (disch := first | decide | omega | (simp only [LN]; omega) | (simp only [LN]; done) | fail) only [SV, SW, f45, Nat.reduceAdd, Nat.reduceBEq, hn, q1, cast1, viewD, h1, cast2, h2, h0, L10, h3, lose, oneOr, nc]
              · by_cases p2 : ((bAt (r.drop 1)).toNat : Int) = 120
                · simp (disch := first | decide | omega | (simp only [LN]; omega) | (simp only [LN]; done) | fail) only [SV, SW, f45, Nat.reduceAdd, Nat.reduceBEq, hn, q1, cast1, viewD, h1, p2, cast2, h2, h0, L10, h3, lose, oneOr, nc]
                · simp (disch := first | decide | omega | (simp only [LN]; omega) | (simp only [LN]; done) | fail) only [SV, SW, f45, Nat.reduceAdd, Nat.reduceBEq, hn, q1, cast1, viewD, h1, cast2, h2, h0, L10, h3, lose, oneOr, nc]
            | false =>
              rw [if_neg (by rintro (h | h | h); simp at h; exact g1 h.2; simp at h), stV_tok]
              rw [g2] at h3
              clear p1 hp' c48
              rcases pre3 with p | p
              · simp (disch := first | decide | omega | (simp only [LN]; omega) | (simp only [LN]; done) | fail) only [SV, SW, f45, Nat.reduceAdd, Nat.reduceBEq, hn, q1, cast1, viewD, h1, cast2, h2, h0, L10, h3, lose, oneOr, nc]
              · by_cases p2 : ((bAt (r.drop 1)).toNat : Int) = 120
                · simp (disch := first | decide | omega | (simp only [LN]; omega) | (simp only [LN]; done) | fail) only [SV, SW, f45, Nat.reduceAdd, Nat.reduceBEq, hn, q1, cast1, viewD, h1, p2, cast2, h2, h0, L10, h3, lose, oneOr, nc]
                · simp (disch := first | decide | omega | (simp only [LN]; omega) | (simp only [LN]; done) | fail) only [SV, SW, f45, Nat.reduceAdd, Nat.reduceBEq, hn, q1, cast1, viewD, h1, cast2, h2, h0, L10, h3, lose, oneOr, nc]
      · have q1 := u8n 48 rfl p1
        subst hrr
        cases g with
        | true =>
          rw [if_pos (Or.inl rfl), stV_bad]
          clear p1 hp' c48
          simp (disch := first | decide | omega | (simp only [LN]; omega) | (simp only [LN]; done) | fail) only [SV, SW, f45, Nat.reduceAdd, Nat.reduceBEq, hn, cast1, viewD, h1, cast2, h2, h0, L10, lose, oneOr, nc]
        | false =>
          cases g2 : inNm (r.drop k) with
          | true =>
            rw [if_pos (Or.inr (Or.inr rfl)), stV_bad]
            rw [g2] at h3
            clear p1 hp' c48
            simp (disch := first | decide | omega | (simp only [LN]; omega) | (simp only [LN]; done) | fail) only [SV, SW, f45, Nat.reduceAdd, Nat.reduceBEq, hn, cast1, viewD, h1, cast2, h2, h0, L10, h3, lose, oneOr, nc]
          | false =>
            rw [if_neg (by rintro (h | h | h); simp at h; exact p1 h.1; simp at h), stV_tok]
            rw [g2] at h3
            clear p1 hp' c48
            simp (disch := first | decide | omega | (simp only [LN]; omega) | (simp only [LN]; done) | fail) only [SV, SW, f45, Nat.reduceAdd, Nat.reduceBEq, hn, cast1, viewD, h1, cast2, h2, h0, L10, h3, lose, oneOr, nc]
    exact fin _ rfl
end Go.Vm
end

section
namespace Go.Vm
set_option maxRecDepth 20000
/- 'sloth/lex.quoted' -/
def f47_L0 : C :=
 (.seq
  (.seq
   (.reg [⟨[], [(21, (.bin .neq (.call 69 (.cons (.sl 0) (.cons (.sl 9) .nil))) (.sl 7)))], [], none, [0, 1, 4, 7, 8, 9], 5, [], [], []⟩])
   (.cond (.sl 21)
    .skip
    (.seq
     (.tidy 0 [1, 4, 7, 8, 9])
     (.exit 0))))
  (.block 1
   (.seq
    (.reg [⟨[], [(10, (.ext 0 (.call 71 (.cons (.sl 0) (.cons (.sl 9) (.cons (.sl 7) .nil)))))), (11, (.ext 1 (.call 71 (.cons (.sl 0) (.cons (.sl 9) (.cons (.sl 7) .nil))))))], [], none, [0, 1, 4, 7, 8], 9, [], [], []⟩])
    (.seq
     (.seq
      (.reg [⟨[], [(30, (.bin .lss (.sl 11) (.int .i64 0)))], [], none, [0, 1, 4, 7, 8, 10, 11], 2, [], [], []⟩])
      (.cond (.sl 30)
       (.seq
        (.reg [⟨[], [], [], some (none, .store 4 (.sl 4) (.agg (.cons (.int .i64 0) (.cons (.str []) (.cons (.int .i64 0) (.cons (.int .i64 0) .nil)))))), [4], 2, [], [], []⟩, ⟨[], [(5, (.int .i64 0)), (6, (.int .i64 12))], [], none, [4], 2, [], [], []⟩])
        (.seq
         (.tidy 0 [4, 5, 6])
         .ret))
       .skip))
     (.seq
      (.reg [⟨[(34, .lits 1 (.cons (.sl 10) .nil))], [], [], some (some 35, .app 1 (.sl 8) (.sl 34)), [0, 1, 4, 7, 11], 4, [], [], []⟩, ⟨[], [(8, (.sl 35))], [], none, [0, 1, 4, 7, 11], 1, [], [], []⟩])
      (.reg [⟨[], [(9, (.sl 11))], [], none, [0, 1, 4, 7, 8], 2, [], [], []⟩]))))))
def f47 : Fun := ⟨
 (.seq
  (.reg [⟨[(4, .box (.agg (.cons (.int .i64 0) (.cons (.str []) (.cons (.int .i64 0) (.cons (.int .i64 0) .nil))))))], [], [], none, [0, 1, 4], 3, [], [], []⟩])
  (.seq
   (.reg [⟨[], [(7, (.ix (.sl 0) (.sl 1)))], [], none, [0, 1, 4], 4, [], [], []⟩])
   (.seq
    (.reg [⟨[], [(8, (.nilsl 1))], [], none, [0, 1, 4, 7], 1, [], [], []⟩])
    (.seq
     (.reg [⟨[], [(9, (.bin .add (.sl 1) (.int .i64 1)))], [], none, [0, 1, 4, 7, 8], 3, [], [], []⟩])
     (.seq
      (.block 0
       (.seq (.tidy 0 [0, 1, 4, 7, 8, 9]) (.loop (.seq (.tidy 0 [0, 1, 4, 7, 8, 9]) f47_L0))))
      (.seq
       (.reg [⟨[], [(9, (.bin .add (.sl 9) (.int .i64 1)))], [], none, [1, 4, 7, 8], 3, [], [], []⟩])
       (.seq
        (.seq
         (.reg [⟨[], [(40, (.bin .eql (.sl 7) (.int .u8 34)))], [], none, [1, 4, 8, 9], 2, [], [], []⟩])
         (.cond (.sl 40)
          (.seq
           (.reg [⟨[], [(45, (.sl 9))], [], some (none, .store 4 (.sl 4) (.set 3 1 (.sl 1) (.set 1 1 (.b2s (.sl 8)) (.set 0 1 (.int .i64 8) (.agg (.cons (.int .i64 0) (.cons (.str []) (.cons (.int .i64 0) (.cons (.int .i64 0) .nil))))))))), [4], 6, [], [], []⟩, ⟨[], [(5, (.sl 45)), (6, (.int .i64 0))], [], none, [4], 2, [], [], []⟩])
           (.seq
            (.tidy 0 [4, 5, 6])
            .ret))
          .skip))
        (.seq
         (.seq
          (.reg [⟨[], [(48, (.bin .neq (.len false (.sl 8)) (.int .i64 1)))], [], none, [1, 4, 8, 9], 3, [], [], []⟩])
          (.cond (.sl 48)
           (.seq
            (.reg [⟨[], [], [], some (none, .store 4 (.sl 4) (.agg (.cons (.int .i64 0) (.cons (.str []) (.cons (.int .i64 0) (.cons (.int .i64 0) .nil)))))), [4], 2, [], [], []⟩, ⟨[], [(5, (.int .i64 0)), (6, (.int .i64 12))], [], none, [4], 2, [], [], []⟩])
            (.seq
             (.tidy 0 [4, 5, 6])
             .ret))
           .skip))
         (.seq
          (.reg [⟨[], [(56, (.sl 9))], [], some (none, .store 4 (.sl 4) (.set 3 1 (.sl 1) (.set 2 1 (.conv .i64 (.ld 1 false (.ia 1 (.sl 8) (.int .i64 0)))) (.set 0 1 (.int .i64 7) (.agg (.cons (.int .i64 0) (.cons (.str []) (.cons (.int .i64 0) (.cons (.int .i64 0) .nil))))))))), [4], 8, [], [], []⟩, ⟨[], [(5, (.sl 56)), (6, (.int .i64 0))], [], none, [4], 2, [], [], []⟩])
          (.seq
           (.tidy 0 [4, 5, 6])
           .ret)))))))))),
 [(.ld 4 true (.sl 4)), (.sl 5), (.sl 6)], false⟩
theorem f47_ok : funOk Go.Proofs.Tryz.prog 45 0 2 f47 = true := by kernel_rfl

def eU8 (c : UInt8) : List D := [.int .u8 c.toNat]
def K47 (K : Cx) : Prop := ∀ (s : BS) (i : Nat), i < s.length → s.length ≤ 2000000 → bAt (s.drop i) = 34 ∨ bAt (s.drop i) = 39 → K.call 45 [vS s, vI i] = some (stV i (quotS (s.drop i)), [])

theorem bytesOf_map : ∀ l : BS, bytesOf (l.map eU8) = some l
  | [] => rfl
  | c :: l => by
    simp only [List.map_cons, eU8, bytesOf, bytesOf_map l]
    simp
theorem b2s_bsl (H : List (Nat × Blk)) (b n : Nat) (c : Bool) (l : BS) (hb : look H b = some (.dat c 1 (l.map eU8))) (hn : n = l.length) : evB2s H (.bsl b 0 n) = some (vS l) := by
  subst hn
  unfold evB2s
  have := viewD_datm 5 H b 0 l.length c 1 l eU8 hb (by omega)
  rw [show viewDepth = 6 from rfl, this]
  simp only [List.drop_zero, List.take_length, b2sD, bytesOf_map, Option.map_some]
theorem b2s_nil (H : List (Nat × Blk)) : evB2s H (.fs true 1 []) = some (vS []) := rfl

def qSt (s : BS) (i : Int) (q : UInt8) (e : Nat) : BS → S
  | [] => ⟨[(0, vS s), (1, vI i), (4, .ptr 0 0 0), (7, .d false (.int .u8 q.toNat)), (8, .fs true 1 []), (9, vI e)], [(0, .mix 4 [[vI 0, vS [], vI 0, vI 0]])], 1, []⟩
  | l => ⟨[(0, vS s), (1, vI i), (4, .ptr 0 0 0), (7, .d false (.int .u8 q.toNat)), (8, .bsl 1 0 l.length), (9, vI e)], [(0, .mix 4 [[vI 0, vS [], vI 0, vI 0]]), (1, .dat true 1 (l.map eU8))], 2, []⟩
def qEnd (i : Int) (q : UInt8) (e : Nat) : BS → S
  | [] => ⟨[(1, vI i), (4, .ptr 0 0 0), (7, .d false (.int .u8 q.toNat)), (8, .fs true 1 []), (9, vI e)], [(0, .mix 4 [[vI 0, vS [], vI 0, vI 0]])], 1, []⟩
  | l => ⟨[(1, vI i), (4, .ptr 0 0 0), (7, .d false (.int .u8 q.toNat)), (8, .bsl 1 0 l.length), (9, vI e)], [(0, .mix 4 [[vI 0, vS [], vI 0, vI 0]]), (1, .dat true 1 (l.map eU8))], 2, []⟩
theorem qSt_nil (s i q e) : qSt s i q e [] = ⟨[(0, vS s), (1, vI i), (4, .ptr 0 0 0), (7, .d false (.int .u8 q.toNat)), (8, .fs true 1 []), (9, vI e)], [(0, .mix 4 [[vI 0, vS [], vI 0, vI 0]])], 1, []⟩ := rfl
theorem qSt_app (s i q e) (l : BS) (x : UInt8) : qSt s i q e (l ++ [x]) = ⟨[(0, vS s), (1, vI i), (4, .ptr 0 0 0), (7, .d false (.int .u8 q.toNat)), (8, .bsl 1 0 (l.length + 1)), (9, vI e)], [(0, .mix 4 [[vI 0, vS [], vI 0, vI 0]]), (1, .dat true 1 (l.map eU8 ++ [[.int .u8 x.toNat]]))], 2, []⟩ := by
  cases l with
  | nil => rfl
  | cons a l => simp [qSt, eU8]
theorem qSt_ne (s i q e) {l : BS} (h : l ≠ []) : qSt s i q e l = ⟨[(0, vS s), (1, vI i), (4, .ptr 0 0 0), (7, .d false (.int .u8 q.toNat)), (8, .bsl 1 0 l.length), (9, vI e)], [(0, .mix 4 [[vI 0, vS [], vI 0, vI 0]]), (1, .dat true 1 (l.map eU8))], 2, []⟩ := by
  cases l with
  | nil => exact absurd rfl h
  | cons a l => rfl
theorem qEnd_nil (i q e) : qEnd i q e [] = ⟨[(1, vI i), (4, .ptr 0 0 0), (7, .d false (.int .u8 q.toNat)), (8, .fs true 1 []), (9, vI e)], [(0, .mix 4 [[vI 0, vS [], vI 0, vI 0]])], 1, []⟩ := rfl
theorem qEnd_ne (i q e) {l : BS} (h : l ≠ []) : qEnd i q e l = ⟨[(1, vI i), (4, .ptr 0 0 0), (7, .d false (.int .u8 q.toNat)), (8, .bsl 1 0 l.length), (9, vI e)], [(0, .mix 4 [[vI 0, vS [], vI 0, vI 0]]), (1, .dat true 1 (l.map eU8))], 2, []⟩ := by
  cases l with
  | nil => exact absurd rfl h
  | cons a l => rfl
def qOut (i : Int) (q : UInt8) (e : Nat) (l : BS) : Option (BS × Nat) → Ex × S
  | none => (.ret, ⟨[(4, .ptr 0 0 0), (5, vI 0), (6, vI 12)], [(0, .mix 4 [[vI 0, vS [], vI 0, vI 0]])], 1, []⟩)
  | some (bs, k) => (.exit 0, qEnd i q (e + k) (l ++ bs))

theorem quot_loop (K : Cx) (h68 : K68 K) (h70 : K70 K) (s : BS) (hs : s.length ≤ 2000000) (i : Int) (q : UInt8) (hq : q = 34 ∨ q = 39) : ∀ (n : Nat) (r : BS), r.length = n → ∀ (e : Nat) (l : BS), s.drop e = r → e ≤ s.length → l.length ≤ e →
    lp K 0 [0, 1, 4, 7, 8, 9] f47_L0 (qSt s i q e l) = some (qOut i q e l (quotL q r)) := by
  intro n
  induction n using Nat.strongRecOn with
  | ind n ih =>
    intro r hr e l hd he hle
    subst hr
    have h1 := h68 s e hs
    have h2 := h70 s e q hs he
    rw [hd] at h1 h2
    match r, ih, hd, h1, h2 with
    | [], ih, hd, h1, h2 =>
      have hq0 : ¬ (((bAt ([] : BS)).toNat : Int) = (q.toNat : Int)) := by
        rcases hq with rfl | rfl <;> decide
      have hs0 : soundS ([] : BS) q = none := by
        unfold soundS
        rw [if_pos (by decide), if_pos (Or.inl (by decide))]
      rw [hs0, vSound_none] at h2
      have hx : quotL q [] = none := by rw [quotL]
      rw [hx]
      simp only [qOut]
      generalize ((bAt ([] : BS)).toNat : Int) = z at h1 hq0
      have hq1 : (z != (q.toNat : Int)) = true := by simpa using hq0
      clear hq ih
      by_cases hl0 : l = []
      · subst hl0
        rw [qSt_nil, lp_un f47_L0.eq_1]
        simp (disch := first | decide | omega | (simp only [LN]; omega) | (simp only [LN]; done) | fail) only [SV, SW, Nat.reduceBEq, viewD, h1, hq1, h2, Int.reduceNeg, Nat.reduceAdd, lose]
      · skip
        rw [qSt_ne _ _ _ _ hl0, lp_un f47_L0.eq_1]
        clear hl0
        simp (disch := first | decide | omega | (simp only [LN]; omega) | (simp only [LN]; done) | fail) only [SV, SW, Nat.reduceBEq, viewD, h1, hq1, h2, Int.reduceNeg, Nat.reduceAdd, lose]
    | c :: r', ih, hd, h1, h2 =>
      have hlt : e + 1 ≤ s.length := by
        have := congrArg List.length hd
        rw [List.length_drop, List.length_cons] at this
        omega
      have hb : bAt (c :: r') = c := rfl
      rw [hb] at h1
      rw [quotL]
      by_cases g : c = q
      · subst g
        rw [if_pos rfl]
        simp only [qOut, Nat.add_zero, List.append_nil]
        have hq1 : ((c.toNat : Int) != (c.toNat : Int)) = false := by simp
        clear hq ih
        by_cases hl0 : l = []
        · subst hl0
          rw [qSt_nil, qEnd_nil, lp_un f47_L0.eq_1]
          simp (disch := first | decide | omega | (simp only [LN]; omega) | (simp only [LN]; done) | fail) only [SV, SW, Nat.reduceBEq, viewD, h1]
        · skip
          rw [qSt_ne _ _ _ _ hl0, qEnd_ne _ _ _ hl0, lp_un f47_L0.eq_1]
          clear hl0
          simp (disch := first | decide | omega | (simp only [LN]; omega) | (simp only [LN]; done) | fail) only [SV, SW, Nat.reduceBEq, viewD, h1, reduceCtorEq, Nat.reduceAdd]
      · rw [if_neg g]
        have hq1 : ((c.toNat : Int) != (q.toNat : Int)) = true := by
          rw [bne_iff_ne, ne_eq, u8eq]; exact g
        cases hsd : soundS (c :: r') q with
        | none =>
          rw [hsd, vSound_none] at h2
          simp only [qOut]
          clear hq ih g
          by_cases hl0 : l = []
          · subst hl0
            rw [qSt_nil, lp_un f47_L0.eq_1]
            simp (disch := first | decide | omega | (simp only [LN]; omega) | (simp only [LN]; done) | fail) only [SV, SW, Nat.reduceBEq, viewD, h1, hq1, h2, Int.reduceNeg, Nat.reduceAdd, lose]
          · skip
            rw [qSt_ne _ _ _ _ hl0, lp_un f47_L0.eq_1]
            clear hl0
            simp (disch := first | decide | omega | (simp only [LN]; omega) | (simp only [LN]; done) | fail) only [SV, SW, Nat.reduceBEq, viewD, h1, hq1, h2, Int.reduceNeg, Nat.reduceAdd, lose]
        | some y =>
          obtain ⟨x, k⟩ := y
          have hk := soundS_len hsd
          simp only [List.length_cons] at hk
          have hlr : r'.length + 1 + e = s.length := by
            have := congrArg List.length hd
            rw [List.length_drop, List.length_cons] at this
            omega
          rw [hsd, vSound_some] at h2
          have ih := ih (r'.drop (k - 1)).length (by rw [List.length_drop, List.length_cons]; omega) (r'.drop (k - 1)) rfl (e + k) (l ++ [x]) (by rw [dd, hd, drop_pred hk.1]) (by omega) (by simp; omega)
          rw [qSt_app] at ih
          simp only
          have ho : qOut i q e l (Option.map (fun y => (x :: y.1, k + y.2)) (quotL q (r'.drop (k - 1)))) = qOut i q (e + k) (l ++ [x]) (quotL q (r'.drop (k - 1))) := by
            cases quotL q (r'.drop (k - 1)) with
            | none => rfl
            | some z => simp [qOut, Nat.add_assoc]
          rw [ho, ← ih]
          clear ho ih hq g hsd hd hb
          have hn : ¬ (((e + k : Nat) : Int) < 0) := by omega
          by_cases hl0 : l = []
          · subst hl0
            rw [qSt_nil, lp_un f47_L0.eq_1]
            simp (disch := first | decide | omega | (simp only [LN]; omega) | (simp only [LN]; done) | fail) only [SV, SW, Nat.reduceBEq, viewD, h1, hq1, h2, Nat.reduceAdd, lose, reduceCtorEq]
          · skip
            rw [qSt_ne _ _ _ _ hl0, lp_un f47_L0.eq_1]
            clear hl0
            simp (disch := first | decide | omega | (simp only [LN]; omega) | (simp only [LN]; done) | fail) only [SV, SW, Nat.reduceBEq, viewD, h1, hq1, h2, Nat.reduceAdd, lose, V.forget, V.drop1, V.ref0, reduceCtorEq]

theorem ev_quoted (K : Cx) (h68 : K68 K) (h70 : K70 K) (s : BS) (i : Nat) (hi : i < s.length) (hs : s.length ≤ 2000000) (hq : bAt (s.drop i) = 34 ∨ bAt (s.drop i) = 39) :
    runFun K f47 [vS s, vI i] [] = some (stV i (quotS (s.drop i)), [], []) := by
  have hn := nth_bAt hi
  have hd1 : s.drop (i + 1) = (s.drop i).drop 1 := dd s i 1
  unfold quotS
  generalize bAt (s.drop i) = q at hn hq ⊢
  have hl := quot_loop K h68 h70 s hs i q hq _ ((s.drop i).drop 1) rfl (i + 1) [] hd1 (by omega) (by simp)
  rw [qSt_nil] at hl
  have hlen : ∀ bs k, quotL q ((s.drop i).drop 1) = some (bs, k) → k + i + 1 < s.length := by
    intro bs k h
    have := quotL_len _ _ _ rfl _ h
    simp only [List.length_drop] at this
    omega
  cases hx : quotL q ((s.drop i).drop 1) with
  | none =>
    rw [hx] at hl
    simp only [qOut] at hl
    simp only
    rw [stV_bad]
    clear hlen hq
    simp (disch := first | decide | omega | (simp only [LN]; omega) | (simp only [LN]; done) | fail) only [SV, SW, f47, Nat.reduceAdd, Nat.reduceBEq, hn, cast1, hl, oneOr, nc]
  | some y =>
    obtain ⟨bs, k⟩ := y
    have hk := hlen bs k hx
    rw [hx] at hl
    simp only [qOut, List.nil_append] at hl
    simp only
    have hik : i + 1 + k + 1 = i + (k + 2) := by omega
    rcases hq with rfl | rfl
    · rw [if_pos rfl, stV_tok]
      have e34 : ((34 : UInt8).toNat : Int) = 34 := rfl
      clear hlen
      by_cases hb0 : bs = []
      · subst hb0
        rw [qEnd_nil] at hl
        have hb := b2s_nil
        simp only [e34] at hl hn
        simp (disch := first | decide | omega | (simp only [LN]; omega) | (simp only [LN]; done) | fail) only [SV, SW, f47, Nat.reduceAdd, Nat.reduceBEq, hn, e34, cast1, hl, hik, e_b2s, hb, lose, oneOr, nc]
      · rw [qEnd_ne _ _ _ hb0] at hl
        have hb := b2s_bsl [(0, .mix 4 [[vI 0, vS [], vI 0, vI 0]]), (1, .dat true 1 (bs.map eU8))] 1 bs.length true bs rfl rfl
        clear hb0
        simp only [e34] at hl hn
        simp (disch := first | decide | omega | (simp only [LN]; omega) | (simp only [LN]; done) | fail) only [SV, SW, f47, Nat.reduceAdd, Nat.reduceBEq, hn, e34, cast1, hl, hik, e_b2s, hb, lose, oneOr, nc]
    · rw [if_neg (by decide)]
      have e39 : ((39 : UInt8).toNat : Int) = 39 := rfl
      clear hlen
      match bs, hl with
      | [], hl =>
        rw [if_neg (by simp), stV_bad]
        rw [qEnd_nil] at hl
        simp only [e39] at hl hn
        simp (disch := first | decide | omega | (simp only [LN]; omega) | (simp only [LN]; done) | fail) only [SV, SW, f47, Nat.reduceAdd, Nat.reduceBEq, hn, e39, cast1, hl, hik, nc, lose, oneOr]
      | [a], hl =>
        rw [if_pos (show [a].length = 1 from rfl), stV_tok]
        rw [qEnd_ne _ _ _ (by simp)] at hl
        simp only [e39] at hl hn
        have hba : bAt [a] = a := rfl
        have hlt := a.toNat_lt
        have hw : IntKind.i64.wrap (a.toNat : Int) = a.toNat := wrap64 (by omega) (by omega)
        simp (disch := first | decide | omega | (simp only [LN]; omega) | (simp only [LN]; done) | fail) only [SV, SW, f47, Nat.reduceAdd, Nat.reduceBEq, hn, e39, cast1, hl, eU8, hik, nc, Int.toNat_zero, Blk.row?, evConv, hw, lose, oneOr, hba]
      | a :: b :: bs, hl =>
        rw [if_neg (by simp), stV_bad]
        rw [qEnd_ne _ _ _ (by simp)] at hl
        simp only [e39] at hl hn
        simp (disch := first | decide | omega | (simp only [LN]; omega) | (simp only [LN]; done) | fail) only [SV, SW, f47, Nat.reduceAdd, Nat.reduceBEq, hn, e39, cast1, hl, hik, lose, oneOr, nc]
end Go.Vm
end

section
namespace Go.Vm
set_option maxRecDepth 20000
/- 'sloth/lex.token' -/
def f32 : Fun := ⟨
 (.seq
  (.reg [⟨[(4, .box (.agg (.cons (.int .i64 0) (.cons (.str []) (.cons (.int .i64 0) (.cons (.int .i64 0) .nil))))))], [], [], none, [0, 1, 4], 3, [], [], []⟩])
  (.seq
   (.reg [⟨[(7, .box (.agg (.cons (.int .i64 0) (.cons (.str []) (.cons (.int .i64 0) (.cons (.int .i64 0) .nil))))))], [], [], some (none, .store 4 (.sl 7) (.set 3 1 (.sl 1) (.agg (.cons (.int .i64 0) (.cons (.str []) (.cons (.int .i64 0) (.cons (.int .i64 0) .nil))))))), [0, 1, 4, 7], 4, [], [], []⟩])
   (.seq
    (.reg [⟨[], [(8, (.bin .add (.sl 1) (.int .i64 1)))], [], none, [0, 1, 4, 7], 3, [], [], []⟩])
    (.seq
     (.seq
      (.reg [⟨[], [(16, (.call 12 (.cons (.sl 0) (.cons (.sl 1) .nil))))], [], none, [0, 1, 4, 7, 8], 3, [], [], []⟩])
      (.block 0
       (.seq
        (.reg [⟨[], [(28, (.bin .eql (.sl 16) (.int .u8 1)))], [], none, [0, 1, 4, 7, 8, 16], 2, [], [], []⟩])
        (.cond (.sl 28)
         (.seq
          (.reg [⟨[], [(8, (.call 40 (.cons (.sl 0) (.cons (.sl 1) .nil))))], [], none, [0, 1, 4, 7], 4, [], [], []⟩])
          (.seq
           (.reg [⟨[], [], [], some (none, .store 1 (.fa 0 (.sl 7)) (.int .i64 1)), [0, 1, 4, 7, 8], 2, [], [], []⟩])
           (.seq
            (.reg [⟨[], [(38, (.call 41 (.cons (.cut true true true false 0 (.sl 0) (.sl 1) (.sl 8) .nil) .nil)))], [], none, [0, 1, 4, 7, 8], 5, [], [], []⟩])
            (.cond (.sl 38)
             (.reg [⟨[], [], [], some (none, .store 1 (.fa 0 (.sl 7)) (.int .i64 10)), [0, 1, 4, 7, 8], 2, [], [], []⟩])
             .skip))))
         (.seq
          (.reg [⟨[], [(40, (.bin .eql (.sl 16) (.int .u8 2)))], [], none, [0, 1, 4, 7, 8, 16], 2, [], [], []⟩])
          (.cond (.sl 40)
           (.reg [⟨[], [(47, (.ext 1 (.call 42 (.cons (.sl 0) (.cons (.sl 1) .nil)))))], [], some (none, .store 1 (.fa 0 (.sl 7)) (.ext 0 (.call 42 (.cons (.sl 0) (.cons (.sl 1) .nil))))), [0, 1, 4, 7], 8, [], [], []⟩, ⟨[], [(8, (.sl 47))], [], none, [0, 1, 4, 7], 1, [], [], []⟩])
           (.seq
            (.reg [⟨[], [(49, (.bin .eql (.sl 16) (.int .u8 3)))], [], none, [0, 1, 4, 7, 8, 16], 2, [], [], []⟩])
            (.cond (.sl 49)
             (.seq
              (.reg [⟨[], [(55, (.ext 1 (.call 43 (.cons (.sl 0) (.cons (.sl 1) .nil))))), (56, (.ext 2 (.call 43 (.cons (.sl 0) (.cons (.sl 1) .nil)))))], [], some (none, .store 4 (.sl 4) (.ext 0 (.call 43 (.cons (.sl 0) (.cons (.sl 1) .nil))))), [4], 7, [], [], []⟩, ⟨[], [(5, (.sl 55)), (6, (.sl 56))], [], none, [4], 2, [], [], []⟩])
              (.seq
               (.tidy 0 [4, 5, 6])
               .ret))
             (.seq
              (.reg [⟨[], [(57, (.bin .eql (.sl 16) (.int .u8 5)))], [], none, [0, 1, 4, 7, 8, 16], 2, [], [], []⟩])
              (.cond (.sl 57)
               (.seq
                (.reg [⟨[], [(8, (.call 15 (.cons (.sl 0) (.cons (.sl 1) (.cons (.int .u8 5) .nil)))))], [], none, [0, 1, 4, 7], 4, [], [], []⟩])
                (.seq
                 (.reg [⟨[], [], [], some (none, .store 1 (.fa 0 (.sl 7)) (.int .i64 5)), [0, 1, 4, 7, 8], 2, [], [], []⟩])
                 (.seq
                  (.reg [⟨[], [(9, (.cut true true true false 0 (.sl 0) (.sl 1) (.sl 8) .nil))], [], none, [0, 1, 4, 7, 8], 5, [], [], []⟩])
                  (.block 1
                   (.seq
                    (.reg [⟨[], [(67, (.call 44 (.cons (.sl 9) .nil)))], [], none, [0, 1, 4, 7, 8, 9], 3, [], [], []⟩])
                    (.cond (.sl 67)
                     (.reg [⟨[], [], [], some (none, .store 1 (.fa 0 (.sl 7)) (.int .i64 11)), [0, 1, 4, 7, 8], 2, [], [], []⟩])
                     (.seq
                      (.reg [⟨[], [(71, (.and (.bin .eql (.ix (.sl 9) (.int .i64 0)) (.int .u8 58)) (.bin .neq (.sl 9) (.str [58]))))], [], none, [0, 1, 4, 7, 8], 8, [], [], []⟩])
                      (.cond (.sl 71)
                       (.seq
                        (.reg [⟨[], [], [], some (none, .store 4 (.sl 4) (.agg (.cons (.int .i64 0) (.cons (.str []) (.cons (.int .i64 0) (.cons (.int .i64 0) .nil)))))), [4], 2, [], [], []⟩, ⟨[], [(5, (.int .i64 0)), (6, (.int .i64 14))], [], none, [4], 2, [], [], []⟩])
                        (.seq
                         (.tidy 0 [4, 5, 6])
                         .ret))
                       .skip))))))))
               (.seq
                (.reg [⟨[], [(80, (.bin .eql (.sl 16) (.int .u8 6)))], [], none, [0, 1, 4, 7, 8, 16], 2, [], [], []⟩])
                (.cond (.sl 80)
                 (.reg [⟨[], [], [], some (none, .store 1 (.fa 0 (.sl 7)) (.int .i64 9)), [0, 1, 4, 7, 8], 2, [], [], []⟩])
                 (.seq
                  (.reg [⟨[], [(83, (.bin .eql (.sl 16) (.int .u8 4)))], [], none, [0, 1, 4, 7, 8], 2, [], [], []⟩])
                  (.cond (.sl 83)
                   (.seq
                    (.seq
                     (.reg [⟨[], [(88, (.bin .eql (.ix (.sl 0) (.sl 1)) (.int .u8 39)))], [], none, [0, 1, 4, 7, 8], 4, [], [], []⟩])
                     (.cond (.sl 88)
                      (.seq
                       (.reg [⟨[], [(93, (.ext 1 (.call 45 (.cons (.sl 0) (.cons (.sl 1) .nil))))), (94, (.ext 2 (.call 45 (.cons (.sl 0) (.cons (.sl 1) .nil)))))], [], some (none, .store 4 (.sl 4) (.ext 0 (.call 45 (.cons (.sl 0) (.cons (.sl 1) .nil))))), [4], 7, [], [], []⟩, ⟨[], [(5, (.sl 93)), (6, (.sl 94))], [], none, [4], 2, [], [], []⟩])
                       (.seq
                        (.tidy 0 [4, 5, 6])
                        .ret))
                      .skip))
                    (.seq
                     (.seq
                      (.reg [⟨[], [(97, (.call 46 (.cons (.sl 0) (.cons (.sl 8) .nil))))], [], none, [0, 1, 4, 7, 8], 3, [], [], []⟩])
                      (.cond (.sl 97)
                       (.seq
                        (.reg [⟨[], [], [], some (none, .store 4 (.sl 4) (.agg (.cons (.int .i64 0) (.cons (.str []) (.cons (.int .i64 0) (.cons (.int .i64 0) .nil)))))), [4], 2, [], [], []⟩, ⟨[], [(5, (.int .i64 0)), (6, (.int .i64 10))], [], none, [4], 2, [], [], []⟩])
                        (.seq
                         (.tidy 0 [4, 5, 6])
                         .ret))
                       .skip))
                     (.reg [⟨[], [], [], some (none, .store 1 (.fa 0 (.sl 7)) (.int .i64 9)), [0, 1, 4, 7, 8], 2, [], [], []⟩])))
                   (.seq
                    (.seq
                     (.reg [⟨[], [(20, (.bin .eql (.ix (.sl 0) (.sl 1)) (.int .u8 34)))], [], none, [0, 1, 4], 4, [], [], []⟩])
                     (.cond (.sl 20)
                      (.seq
                       (.reg [⟨[], [(25, (.ext 1 (.call 45 (.cons (.sl 0) (.cons (.sl 1) .nil))))), (26, (.ext 2 (.call 45 (.cons (.sl 0) (.cons (.sl 1) .nil)))))], [], some (none, .store 4 (.sl 4) (.ext 0 (.call 45 (.cons (.sl 0) (.cons (.sl 1) .nil))))), [4], 7, [], [], []⟩, ⟨[], [(5, (.sl 25)), (6, (.sl 26))], [], none, [4], 2, [], [], []⟩])
                       (.seq
                        (.tidy 0 [4, 5, 6])
                        .ret))
                      .skip))
                    (.seq
                     (.reg [⟨[], [], [], some (none, .store 4 (.sl 4) (.agg (.cons (.int .i64 0) (.cons (.str []) (.cons (.int .i64 0) (.cons (.int .i64 0) .nil)))))), [4], 2, [], [], []⟩, ⟨[], [(5, (.int .i64 0)), (6, (.int .i64 10))], [], none, [4], 2, [], [], []⟩])
                     (.seq
                      (.tidy 0 [4, 5, 6])
                      .ret)))))))))))))))))
     (.seq
      (.reg [⟨[], [], [], some (none, .store 1 (.fa 1 (.sl 7)) (.cut true true true false 0 (.sl 0) (.sl 1) (.sl 8) .nil)), [4, 7, 8], 6, [], [], []⟩])
      (.seq
       (.reg [⟨[], [(106, (.sl 8))], [], some (none, .store 4 (.sl 4) (.ld 4 true (.sl 7))), [4], 3, [], [], []⟩, ⟨[], [(5, (.sl 106)), (6, (.int .i64 0))], [], none, [4], 2, [], [], []⟩])
       (.seq
        (.tidy 0 [4, 5, 6])
        .ret))))))),
 [(.ld 4 true (.sl 4)), (.sl 5), (.sl 6)], false⟩
theorem f32_ok : funOk Go.Proofs.Tryz.prog 17 0 2 f32 = true := by kernel_rfl

def K32 (K : Cx) : Prop := ∀ (s : BS) (i : Nat), i < s.length → s.length ≤ 2000000 → K.call 17 [vS s, vI i] = some (stV i (tokS (s.drop i)), [])

theorem ev_token (K : Cx) (h27 : K27 K) (h42 : K42 K) (h43 : K43 K) (h44 : K44 K) (h45 : K45 K) (h30 : K30 K) (h46 : K46 K) (h47 : K47 K) (h48 : K48 K) (s : BS) (i : Nat) (hi : i < s.length) (hs : s.length ≤ 2000000) :
    runFun K f32 [vS s, vI i] [] = some (stV i (tokS (s.drop i)), [], []) := by
  have hlen : (s.drop i).length = s.length - i := List.length_drop ..
  have c0 := h27 s i (by omega)
  have n0 := h42 s i (by omega) hs
  have nle := nameL_le (s.drop i)
  have u0 := h44 s i (by omega) hs
  have d0 := h45 s i hi hs
  have r0 := h30 s i 5 (by omega) hs (by decide)
  have rle := runL_le 5 (s.drop i)
  have q0 := h47 s i hi hs
  have x0 := h48 s (i + 1) (by omega)
  have hn := nth_bAt hi
  have cut := fun k (hk : i + k ≤ s.length) => cut_slh [] s i (i + k) (by omega) hk
  simp only [Nat.add_sub_cancel_left] at cut
  have cutB := fun (H : List (Nat × Blk)) k (hk : i + k ≤ s.length) => cut_slh H s i (i + k) (by omega) hk
  simp only [Nat.add_sub_cancel_left] at cutB
  rw [dd] at x0
  have hur : (upS (s.drop i)).2 ≤ (s.drop i).length := by
    unfold upS
    have a := nameL_le (s.drop i)
    have b := nameL_le ((s.drop i).drop (nameL (s.drop i) + 1))
    rw [List.length_drop] at b
    simp only
    split
    · exact a
    · split
      · split
        · exact a
        · simp only; omega
      · split
        · simp only; omega
        · exact a
  have hne : s.drop i ≠ [] := by rw [ne_eq, List.drop_eq_nil_iff]; omega
  have hr5 : cls (s.drop i) = 5 → 1 ≤ runL 5 (s.drop i) := by
    intro h
    cases hd : s.drop i with
    | nil => exact absurd hd hne
    | cons c t =>
      rw [hd] at h
      have h' : clB c = 5 := h
      simp only [runL]; rw [if_pos h']; omega
  have k43 := h43
  have k46 := h46
  unfold tokS
  generalize s.drop i = r at *
  by_cases g1 : cls r = 1
  · rw [if_pos g1, stV_tok]
    rw [g1] at c0
    have h1 := h43 (r.take (nameL r))
    have h2 := cut (nameL r) (by omega)
    have h3 := fun H => cutB H (nameL r) (by omega)
    clear q0 hr5 cut cutB h43 h46 k43 k46 hne
    generalize nameL r = n at *
    cases g2 : resv (r.take n) with
    | true =>
      rw [g2] at h1
      rw [if_pos rfl]
      simp (disch := first | decide | omega | (simp only [LN]; omega) | (simp only [LN]; done) | fail) only [SV, SW, f32, Nat.reduceAdd, Nat.reduceBEq, lose, cast1, viewD, c0, nc, n0, h3, h1, oneOr]
    | false =>
      rw [g2] at h1
      rw [if_neg (by simp)]
      simp (disch := first | decide | omega | (simp only [LN]; omega) | (simp only [LN]; done) | fail) only [SV, SW, f32, Nat.reduceAdd, Nat.reduceBEq, lose, cast1, viewD, c0, nc, n0, h3, h1, oneOr]
  · rw [if_neg g1]
    have g1' : ¬ ((cls r : Int) = 1) := by omega
    by_cases g2 : cls r = 2
    · rw [if_pos g2, stV_tok]
      rw [g2] at c0
      have h3 := fun H => cutB H (upS r).2 (by omega)
      clear q0 hr5 cut cutB h43 h46 k43 k46 hne g1 g1'
      generalize upS r = u at *
      simp (disch := first | decide | omega | (simp only [LN]; omega) | (simp only [LN]; done) | fail) only [SV, SW, f32, Nat.reduceAdd, Nat.reduceBEq, lose, cast1, viewD, c0, nc, u0, h3, oneOr]
    · rw [if_neg g2]
      have g2' : ¬ ((cls r : Int) = 2) := by omega
      by_cases g3 : cls r = 3
      · rw [if_pos g3]
        rw [g3] at c0
        clear q0 hr5 cut cutB h43 h46 k43 k46 hne g1 g1' g2 g2'
        have hns := numS_ns r
        generalize numS r = z at *
        cases z with
        | bad e =>
          rw [stV_bad] at d0 ⊢
          simp (disch := first | decide | omega | (simp only [LN]; omega) | (simp only [LN]; done) | fail) only [SV, SW, f32, Nat.reduceAdd, Nat.reduceBEq, lose, cast1, viewD, c0, nc, d0, oneOr]
        | skip k => exact absurd rfl (hns k)
        | tok k t m n =>
          rw [stV_tok] at d0 ⊢
          simp (disch := first | decide | omega | (simp only [LN]; omega) | (simp only [LN]; done) | fail) only [SV, SW, f32, Nat.reduceAdd, Nat.reduceBEq, lose, cast1, viewD, c0, nc, d0, oneOr]
      · rw [if_neg g3]
        have g3' : ¬ ((cls r : Int) = 3) := by omega
        have noq : stV i (quotS r) = .tup [.agg [vI 0, vS [], vI 0, vI 0], vI 0, vI 0] ∨ True := Or.inr trivial
        clear noq
        by_cases g4 : cls r = 5
        · rw [if_pos g4]
          have hp := hr5 g4
          rw [g4] at c0
          unfold opS
          simp only
          have h1 := h46 (r.take (runL 5 r))
          have h2 := cut (runL 5 r) (by omega)
          have h3 := fun H => cutB H (runL 5 r) (by omega)
          have hxl : (r.take (runL 5 r)).length = runL 5 r := by rw [List.length_take]; omega
          have hn0 : nth (r.take (runL 5 r)) 0 = bAt (r.take (runL 5 r)) := by
            have := nth_bAt (s := r.take (runL 5 r)) (i := 0) (by rw [hxl]; omega)
            rw [List.drop_zero] at this
            exact this
          have hil : i + runL 5 r ≤ s.length := by omega
          have r0 : K.call 15 [vS s, vI i, .d false (.int .u8 5)] = some (vI ((i + runL 5 r : Nat)), []) := r0
          clear q0 hr5 cut cutB h43 h46 k43 k46 hne g1 g1' g2 g2' g3 g3' u0 n0 d0 x0
          generalize r.take (runL 5 r) = x at *
          generalize runL 5 r = n at *
          cases g5 : isSg x with
          | true =>
            rw [g5] at h1
            rw [if_pos rfl, stV_tok]
            simp (disch := first | decide | omega | (simp only [LN]; omega) | (simp only [LN]; done) | fail) only [SV, SW, f32, Nat.reduceAdd, Nat.reduceBEq, lose, cast1, viewD, c0, nc, r0, h3, h1, oneOr]
          | false =>
            rw [g5] at h1
            rw [if_neg (by simp)]
            by_cases g6 : bAt x = 58
            · have g6' := u8y 58 rfl g6
              by_cases g7 : x = [58]
              · rw [if_neg (fun h => h.2 g7), stV_tok]
                have g7' := eq_true g7
                clear g6 g7
                simp (disch := first | decide | omega | (simp only [LN]; omega) | (simp only [LN]; done) | fail) only [SV, SW, f32, Nat.reduceAdd, Nat.reduceBEq, lose, cast1, viewD, c0, nc, r0, h3, h1, hn0, g7', oneOr]
              · rw [if_pos ⟨g6, g7⟩, stV_bad]
                have g7' := eq_false g7
                clear g6 g7
                simp (disch := first | decide | omega | (simp only [LN]; omega) | (simp only [LN]; done) | fail) only [SV, SW, f32, Nat.reduceAdd, Nat.reduceBEq, lose, cast1, viewD, c0, nc, r0, h3, h1, hn0, g7', oneOr]
            · rw [if_neg (fun h => g6 h.1), stV_tok]
              have g6' := u8n 58 rfl g6
              clear g6
              simp (disch := first | decide | omega | (simp only [LN]; omega) | (simp only [LN]; done) | fail) only [SV, SW, f32, Nat.reduceAdd, Nat.reduceBEq, lose, cast1, viewD, c0, nc, r0, h3, h1, hn0, oneOr]
        · rw [if_neg g4]
          have g4' : ¬ ((cls r : Int) = 5) := by omega
          have h3 := fun H => cutB H 1 (by omega)
          by_cases g5 : cls r = 6
          · rw [if_pos g5, stV_tok]
            rw [g5] at c0
            clear q0 hr5 cut cutB h43 h46 k43 k46 hne g1 g1' g2 g2' g3 g3' g4 g4'
            simp (disch := first | decide | omega | (simp only [LN]; omega) | (simp only [LN]; done) | fail) only [SV, SW, f32, Nat.reduceAdd, Nat.reduceBEq, lose, cast1, viewD, c0, nc, h3, oneOr]
          · rw [if_neg g5]
            have g5' : ¬ ((cls r : Int) = 6) := by omega
            have hqs := quotS_ns r
            by_cases g6 : cls r = 4
            · rw [if_pos g6]
              rw [g6] at c0
              by_cases g7 : bAt r = 39
              · rw [if_pos g7]
                have q1 := q0 (Or.inr g7)
                have g7' := u8y 39 rfl g7
                clear q0 hr5 cut cutB h43 h46 k43 k46 hne g1 g1' g2 g2' g3 g3' g4 g4' g5 g5' g7
                generalize quotS r = z at *
                cases z with
                | bad e =>
                  rw [stV_bad] at q1 ⊢
                  simp (disch := first | decide | omega | (simp only [LN]; omega) | (simp only [LN]; done) | fail) only [SV, SW, f32, Nat.reduceAdd, Nat.reduceBEq, lose, cast1, viewD, c0, nc, hn, q1, oneOr]
                | skip k => exact absurd rfl (hqs k)
                | tok k t m n =>
                  rw [stV_tok] at q1 ⊢
                  simp (disch := first | decide | omega | (simp only [LN]; omega) | (simp only [LN]; done) | fail) only [SV, SW, f32, Nat.reduceAdd, Nat.reduceBEq, lose, cast1, viewD, c0, nc, hn, q1, oneOr]
              · rw [if_neg g7]
                have g7' := u8n 39 rfl g7
                clear q0 hr5 cut cutB h43 h46 k43 k46 hne g1 g1' g2 g2' g3 g3' g4 g4' g5 g5' g7 hqs
                cases g8 : inNm (r.drop 1) with
                | true =>
                  rw [g8] at x0
                  rw [if_pos rfl, stV_bad]
                  simp (disch := first | decide | omega | (simp only [LN]; omega) | (simp only [LN]; done) | fail) only [SV, SW, f32, Nat.reduceAdd, Nat.reduceBEq, lose, cast1, viewD, c0, nc, hn, x0, oneOr]
                | false =>
                  rw [g8] at x0
                  rw [if_neg (by simp), stV_tok]
                  simp (disch := first | decide | omega | (simp only [LN]; omega) | (simp only [LN]; done) | fail) only [SV, SW, f32, Nat.reduceAdd, Nat.reduceBEq, lose, cast1, viewD, c0, nc, hn, x0, h3, oneOr]
            · rw [if_neg g6]
              have g6' : ¬ ((cls r : Int) = 4) := by omega
              by_cases g7 : bAt r = 34
              · rw [if_pos g7]
                have q1 := q0 (Or.inl g7)
                have g7' := u8y 34 rfl g7
                clear q0 hr5 cut cutB h43 h46 k43 k46 hne g1 g2 g3 g4 g5 g7
                generalize quotS r = z at *
                cases z with
                | bad e =>
                  rw [stV_bad] at q1 ⊢
                  simp (disch := first | decide | omega | (simp only [LN]; omega) | (simp only [LN]; done) | fail) only [SV, SW, f32, Nat.reduceAdd, Nat.reduceBEq, lose, cast1, viewD, c0, hn, q1, oneOr]
                | skip k => exact absurd rfl (hqs k)
                | tok k t m n =>
                  rw [stV_tok] at q1 ⊢
                  simp (disch := first | decide | omega | (simp only [LN]; omega) | (simp only [LN]; done) | fail) only [SV, SW, f32, Nat.reduceAdd, Nat.reduceBEq, lose, cast1, viewD, c0, hn, q1, oneOr]
              · rw [if_neg g7, stV_bad]
                have g7' := u8n 34 rfl g7
                clear q0 hr5 cut cutB h43 h46 k43 k46 hne g1 g2 g3 g4 g5 g7 hqs
                simp (disch := first | decide | omega | (simp only [LN]; omega) | (simp only [LN]; done) | fail) only [SV, SW, f32, Nat.reduceAdd, Nat.reduceBEq, lose, cast1, viewD, c0, hn, oneOr, nc]
end Go.Vm
end

section
namespace Go.Vm
set_option maxRecDepth 20000
/- 'sloth/lex.Lex' -/
def f13_L0 : C :=
 (.seq
  (.seq
   (.reg [⟨[], [(52, (.and (.bin .lss (.sl 7) (.len true (.sl 0))) (.bin .neq (.ix (.sl 0) (.sl 7)) (.int .u8 10))))], [], none, [0, 4, 5, 7], 10, [], [], []⟩])
   (.cond (.sl 52)
    .skip
    (.seq
     (.tidy 0 [0, 4, 5, 7])
     (.exit 0))))
  (.block 1
   (.reg [⟨[], [(7, (.bin .add (.sl 7) (.int .i64 1)))], [], none, [0, 4, 5], 3, [], [], []⟩])))
def f13_G0 : C :=
 (.seq
  .skip
  (.seq
   (.seq
    (.reg [⟨[], [(18, (.bin .eql (.sl 7) (.len true (.sl 0))))], [], none, [0, 4, 5, 7], 4, [], [], []⟩])
    (.cond (.sl 18)
     (.seq
      (.tidy 0 [4])
      (.goto 0))
     .skip))
   (.seq
    (.seq
     (.reg [⟨[], [(22, (.bin .eql (.call 12 (.cons (.sl 0) (.cons (.sl 7) .nil))) (.int .u8 7)))], [], none, [0, 4, 5, 7], 4, [], [], []⟩])
     (.cond (.sl 22)
      (.seq
       (.reg [⟨[], [(7, (.bin .add (.sl 7) (.int .i64 1)))], [], none, [0, 4, 5], 3, [], [], []⟩])
       (.seq
        (.tidy 0 [0, 4, 5, 7])
        (.goto 1)))
      .skip))
    (.seq
     (.seq
      (.reg [⟨[], [(28, (.call 13 (.cons (.cut true true false false 0 (.sl 0) (.sl 7) .nil .nil) (.cons (.str [123, 45]) .nil))))], [], none, [0, 4, 5, 7], 4, [], [], []⟩])
      (.cond (.sl 28)
       (.seq
        (.seq
         (.reg [⟨[], [(8, (.call 14 (.cons (.sl 0) (.cons (.sl 7) .nil))))], [], none, [0, 4, 5, 7], 4, [], [], []⟩])
         (.seq
          (.reg [⟨[], [(33, (.bin .lss (.sl 8) (.int .i64 0)))], [], none, [0, 4, 5, 7, 8], 2, [], [], []⟩])
          (.cond (.sl 33)
           (.seq
            (.reg [⟨[], [(6, (.int .i64 13))], [], none, [7], 1, [], [], []⟩])
            (.seq
             (.tidy 0 [6, 7])
             (.goto 2)))
           .skip)))
        (.seq
         (.reg [⟨[], [(7, (.sl 8))], [], none, [0, 4, 5], 2, [], [], []⟩])
         (.seq
          (.tidy 0 [0, 4, 5, 7])
          (.goto 1))))
       .skip))
     (.seq
      (.seq
       (.reg [⟨[], [(8, (.call 15 (.cons (.sl 0) (.cons (.sl 7) (.cons (.int .u8 5) .nil)))))], [], none, [0, 4, 5, 7], 4, [], [], []⟩])
       (.seq
        (.reg [⟨[], [(42, (.call 16 (.cons (.cut true true true false 0 (.sl 0) (.sl 7) (.sl 8) .nil) .nil)))], [], none, [0, 4, 5, 7], 5, [], [], []⟩])
        (.cond (.sl 42)
         (.seq
          (.block 0
           (.seq (.tidy 0 [0, 4, 5, 7]) (.loop (.seq (.tidy 0 [0, 4, 5, 7]) f13_L0))))
          (.seq
           (.tidy 0 [0, 4, 5, 7])
           (.goto 1)))
         .skip)))
      (.seq
       (.seq
        (.reg [⟨[], [(60, (.ext 1 (.call 17 (.cons (.sl 0) (.cons (.sl 7) .nil))))), (61, (.ext 2 (.call 17 (.cons (.sl 0) (.cons (.sl 7) .nil)))))], [], some (none, .store 4 (.sl 5) (.ext 0 (.call 17 (.cons (.sl 0) (.cons (.sl 7) .nil))))), [0, 4, 5, 7], 8, [], [], []⟩, ⟨[], [(8, (.sl 60)), (6, (.sl 61))], [], none, [0, 4, 5, 7], 2, [], [], []⟩])
        (.seq
         (.reg [⟨[], [(63, (.bin .neq (.sl 6) (.int .i64 0)))], [], none, [0, 4, 5, 6, 7, 8], 2, [], [], []⟩])
         (.cond (.sl 63)
          (.seq
           (.tidy 0 [6, 7])
           (.goto 2))
          .skip)))
       (.seq
        (.seq
         (.reg [⟨[], [(66, (.bin .eql (.len false (.sl 4)) (.int .i64 20000)))], [], none, [0, 4, 5, 7, 8], 3, [], [], []⟩])
         (.cond (.sl 66)
          (.seq
           (.reg [⟨[], [(6, (.int .i64 4))], [], none, [7], 1, [], [], []⟩])
           (.seq
            (.tidy 0 [6, 7])
            (.goto 2)))
          .skip))
        (.seq
         (.reg [⟨[(69, .lits 4 (.cons (.ld 4 true (.sl 5)) .nil))], [], [], some (some 70, .app 4 (.sl 4) (.sl 69)), [0, 5, 8], 4, [], [], []⟩, ⟨[], [(4, (.sl 70))], [], none, [0, 5, 8], 1, [], [], []⟩])
         (.seq
          (.reg [⟨[], [(7, (.sl 8))], [], none, [0, 4, 5], 2, [], [], []⟩])
          (.seq
           (.seq
            (.tidy 0 [0, 4, 5, 7])
            (.goto 1))
           (.seq
            (.label 2)
            (.seq
             (.seq
              (.reg [⟨[(75, .box (.set 2 1 (.sl 7) (.set 0 1 (.sl 6) (.agg (.cons (.int .i64 0) (.cons (.int .i64 0) (.cons (.int .i64 0) (.cons (.str []) .nil))))))))], [(2, (.nilsl 4)), (3, (.mki 45 (.sl 75)))], [], none, [], 7, [], [], []⟩])
              (.seq
               (.tidy 0 [2, 3])
               .ret))
             (.seq
              (.label 0)
              (.seq
               (.reg [⟨[], [(2, (.sl 4)), (3, .nilif)], [], none, [], 3, [], [], []⟩])
               (.seq
                (.tidy 0 [2, 3])
                .ret)))))))))))))))
def f13_G1 : C :=
 (.seq
  .skip
  (.seq
   (.seq
    (.reg [⟨[(75, .box (.set 2 1 (.sl 7) (.set 0 1 (.sl 6) (.agg (.cons (.int .i64 0) (.cons (.int .i64 0) (.cons (.int .i64 0) (.cons (.str []) .nil))))))))], [(2, (.nilsl 4)), (3, (.mki 45 (.sl 75)))], [], none, [], 7, [], [], []⟩])
    (.seq
     (.tidy 0 [2, 3])
     .ret))
   (.seq
    (.label 0)
    (.seq
     (.reg [⟨[], [(2, (.sl 4)), (3, .nilif)], [], none, [], 3, [], [], []⟩])
     (.seq
      (.tidy 0 [2, 3])
      .ret)))))
def f13_G2 : C :=
 (.seq
  .skip
  (.seq
   (.reg [⟨[], [(2, (.sl 4)), (3, .nilif)], [], none, [], 3, [], [], []⟩])
   (.seq
    (.tidy 0 [2, 3])
    .ret)))
def f13 : Fun := ⟨
 (.seq
  (.reg [⟨[], [], [.nilif, (.nilsl 4)], none, [0], 2, [], [], []⟩])
  (.scope
   (.seq
    (.seq
     (.reg [⟨[], [(11, (.bin .gtr (.len true (.sl 0)) (.int .i64 65536)))], [], none, [0], 3, [], [], []⟩])
     (.cond (.sl 11)
      (.seq
       (.reg [⟨[(13, .box (.set 2 1 (.int .i64 (-1)) (.set 0 1 (.int .i64 2) (.agg (.cons (.int .i64 0) (.cons (.int .i64 0) (.cons (.int .i64 0) (.cons (.str []) .nil))))))))], [(2, (.nilsl 4)), (3, (.mki 45 (.sl 13)))], [], none, [], 5, [], [], []⟩])
       (.seq
        (.tidy 0 [2, 3])
        .ret))
      .skip))
    (.seq
     (.reg [⟨[], [(4, (.nilsl 4))], [], none, [0], 1, [], [], []⟩])
     (.seq
      (.reg [⟨[(5, .box (.agg (.cons (.int .i64 0) (.cons (.str []) (.cons (.int .i64 0) (.cons (.int .i64 0) .nil))))))], [], [], none, [0, 4, 5], 1, [], [], []⟩])
      (.seq
       (.reg [⟨[], [], [(.int .i64 0)], none, [0, 4, 5], 1, [], [], []⟩])
       (.seq
        (.reg [⟨[], [(7, (.int .i64 0))], [], none, [0, 4, 5], 2, [], [], []⟩])
        (.seq
         (.label 1)
         (.seq
          (.seq
           (.reg [⟨[], [(18, (.bin .eql (.sl 7) (.len true (.sl 0))))], [], none, [0, 4, 5, 7], 4, [], [], []⟩])
           (.cond (.sl 18)
            (.seq
             (.tidy 0 [4])
             (.goto 0))
            .skip))
          (.seq
           (.seq
            (.reg [⟨[], [(22, (.bin .eql (.call 12 (.cons (.sl 0) (.cons (.sl 7) .nil))) (.int .u8 7)))], [], none, [0, 4, 5, 7], 4, [], [], []⟩])
            (.cond (.sl 22)
             (.seq
              (.reg [⟨[], [(7, (.bin .add (.sl 7) (.int .i64 1)))], [], none, [0, 4, 5], 3, [], [], []⟩])
              (.seq
               (.tidy 0 [0, 4, 5, 7])
               (.goto 1)))
             .skip))
           (.seq
            (.seq
             (.reg [⟨[], [(28, (.call 13 (.cons (.cut true true false false 0 (.sl 0) (.sl 7) .nil .nil) (.cons (.str [123, 45]) .nil))))], [], none, [0, 4, 5, 7], 4, [], [], []⟩])
             (.cond (.sl 28)
              (.seq
               (.seq
                (.reg [⟨[], [(8, (.call 14 (.cons (.sl 0) (.cons (.sl 7) .nil))))], [], none, [0, 4, 5, 7], 4, [], [], []⟩])
                (.seq
                 (.reg [⟨[], [(33, (.bin .lss (.sl 8) (.int .i64 0)))], [], none, [0, 4, 5, 7, 8], 2, [], [], []⟩])
                 (.cond (.sl 33)
                  (.seq
                   (.reg [⟨[], [(6, (.int .i64 13))], [], none, [7], 1, [], [], []⟩])
                   (.seq
                    (.tidy 0 [6, 7])
                    (.goto 2)))
                  .skip)))
               (.seq
                (.reg [⟨[], [(7, (.sl 8))], [], none, [0, 4, 5], 2, [], [], []⟩])
                (.seq
                 (.tidy 0 [0, 4, 5, 7])
                 (.goto 1))))
              .skip))
            (.seq
             (.seq
              (.reg [⟨[], [(8, (.call 15 (.cons (.sl 0) (.cons (.sl 7) (.cons (.int .u8 5) .nil)))))], [], none, [0, 4, 5, 7], 4, [], [], []⟩])
              (.seq
               (.reg [⟨[], [(42, (.call 16 (.cons (.cut true true true false 0 (.sl 0) (.sl 7) (.sl 8) .nil) .nil)))], [], none, [0, 4, 5, 7], 5, [], [], []⟩])
               (.cond (.sl 42)
                (.seq
                 (.block 0
                  (.seq (.tidy 0 [0, 4, 5, 7]) (.loop (.seq (.tidy 0 [0, 4, 5, 7]) f13_L0))))
                 (.seq
                  (.tidy 0 [0, 4, 5, 7])
                  (.goto 1)))
                .skip)))
             (.seq
              (.seq
               (.reg [⟨[], [(60, (.ext 1 (.call 17 (.cons (.sl 0) (.cons (.sl 7) .nil))))), (61, (.ext 2 (.call 17 (.cons (.sl 0) (.cons (.sl 7) .nil)))))], [], some (none, .store 4 (.sl 5) (.ext 0 (.call 17 (.cons (.sl 0) (.cons (.sl 7) .nil))))), [0, 4, 5, 7], 8, [], [], []⟩, ⟨[], [(8, (.sl 60)), (6, (.sl 61))], [], none, [0, 4, 5, 7], 2, [], [], []⟩])
               (.seq
                (.reg [⟨[], [(63, (.bin .neq (.sl 6) (.int .i64 0)))], [], none, [0, 4, 5, 6, 7, 8], 2, [], [], []⟩])
                (.cond (.sl 63)
                 (.seq
                  (.tidy 0 [6, 7])
                  (.goto 2))
                 .skip)))
              (.seq
               (.seq
                (.reg [⟨[], [(66, (.bin .eql (.len false (.sl 4)) (.int .i64 20000)))], [], none, [0, 4, 5, 7, 8], 3, [], [], []⟩])
                (.cond (.sl 66)
                 (.seq
                  (.reg [⟨[], [(6, (.int .i64 4))], [], none, [7], 1, [], [], []⟩])
                  (.seq
                   (.tidy 0 [6, 7])
                   (.goto 2)))
                 .skip))
               (.seq
                (.reg [⟨[(69, .lits 4 (.cons (.ld 4 true (.sl 5)) .nil))], [], [], some (some 70, .app 4 (.sl 4) (.sl 69)), [0, 5, 8], 4, [], [], []⟩, ⟨[], [(4, (.sl 70))], [], none, [0, 5, 8], 1, [], [], []⟩])
                (.seq
                 (.reg [⟨[], [(7, (.sl 8))], [], none, [0, 4, 5], 2, [], [], []⟩])
                 (.seq
                  (.seq
                   (.tidy 0 [0, 4, 5, 7])
                   (.goto 1))
                  (.seq
                   (.label 2)
                   (.seq
                    (.seq
                     (.reg [⟨[(75, .box (.set 2 1 (.sl 7) (.set 0 1 (.sl 6) (.agg (.cons (.int .i64 0) (.cons (.int .i64 0) (.cons (.int .i64 0) (.cons (.str []) .nil))))))))], [(2, (.nilsl 4)), (3, (.mki 45 (.sl 75)))], [], none, [], 7, [], [], []⟩])
                     (.seq
                      (.tidy 0 [2, 3])
                      .ret))
                    (.seq
                     (.label 0)
                     (.seq
                      (.reg [⟨[], [(2, (.sl 4)), (3, .nilif)], [], none, [], 3, [], [], []⟩])
                      (.seq
                       (.tidy 0 [2, 3])
                       .ret))))))))))))))))))))
   (.lcons 1 f13_G0
    (.lcons 2 f13_G1
     (.lcons 0 f13_G2
      .lnil))))),
 [(.sl 2), (.sl 3)], false⟩
theorem f13_ok : funOk Go.Proofs.Tryz.prog 6 0 1 f13 = true := by kernel_rfl

def eTok (t : Tok) : List D := [.int .i64 t.kind, .str t.text, .int .i64 t.num, .int .i64 t.at_]
def vTok (t : Tok) : List V := [vI t.kind, vS t.text, vI t.num, vI t.at_]
def lxSt (s : BS) (i : Nat) (x : Tok) : List Tok → S
  | [] => ⟨[(0, vS s), (4, .fs true 4 []), (5, .ptr 0 0 0), (7, vI i)], [(0, .mix 4 [vTok x])], 1, []⟩
  | l => ⟨[(0, vS s), (4, .bsl 0 0 l.length), (5, .ptr 1 0 0), (7, vI i)], [(0, .dat true 4 (l.map eTok)), (1, .mix 4 [vTok x])], 2, []⟩
theorem lxSt_nil (s i x) : lxSt s i x [] = ⟨[(0, vS s), (4, .fs true 4 []), (5, .ptr 0 0 0), (7, vI i)], [(0, .mix 4 [vTok x])], 1, []⟩ := rfl
theorem lxSt_ne (s i x) {l : List Tok} (h : l ≠ []) : lxSt s i x l = ⟨[(0, vS s), (4, .bsl 0 0 l.length), (5, .ptr 1 0 0), (7, vI i)], [(0, .dat true 4 (l.map eTok)), (1, .mix 4 [vTok x])], 2, []⟩ := by
  cases l with
  | nil => exact absurd rfl h
  | cons a l => rfl
theorem lxSt_app (s i x) (l : List Tok) (y : Tok) : lxSt s i x (l ++ [y]) = ⟨[(0, vS s), (4, .bsl 0 0 (l.length + 1)), (5, .ptr 1 0 0), (7, vI i)], [(0, .dat true 4 (l.map eTok ++ [eTok y])), (1, .mix 4 [vTok x])], 2, []⟩ := by
  rw [lxSt_ne _ _ _ (by simp)]
  simp
def lxP (s : BS) (i : Nat) (x : Tok) : S := ⟨[(7, vI i), (0, vS s), (4, .fs true 4 []), (5, .ptr 0 0 0)], [(0, .mix 4 [vTok x])], 1, []⟩
def lxDone : List Tok → S
  | [] => ⟨[(4, .fs true 4 [])], [], 0, []⟩
  | l => ⟨[(4, .bsl 0 0 l.length)], [(0, .dat true 4 (l.map eTok))], 1, []⟩
theorem lxDone_nil : lxDone [] = ⟨[(4, .fs true 4 [])], [], 0, []⟩ := rfl
theorem lxDone_ne {l : List Tok} (h : l ≠ []) : lxDone l = ⟨[(4, .bsl 0 0 l.length)], [(0, .dat true 4 (l.map eTok))], 1, []⟩ := by
  cases l with
  | nil => exact absurd rfl h
  | cons a l => rfl
def lxBad (e i : Nat) : S := ⟨[(6, vI e), (7, vI i)], [], 0, []⟩
theorem tokS_bad {r : BS} {e : Nat} (h : tokS r = .bad e) : 10 ≤ e ∧ e ≤ 14 := by
  have quot : quotS r = .bad e → 10 ≤ e ∧ e ≤ 14 := by
    intro h
    unfold quotS at h
    split at h
    · injection h; omega
    · split at h
      · cases h
      · split at h
        · cases h
        · injection h; omega
  unfold tokS at h
  split at h
  · cases h
  · split at h
    · cases h
    · split at h
      · unfold numS at h
        have : ∀ {c : Prop} [Decidable c] {b : St}, (if c then St.bad 11 else b) = .bad e → (∀ e, b ≠ .bad e) → e = 11 := by
          intro c _ b h hb
          split at h
          · injection h with h; exact h.symm
          · exact absurd h (hb e)
        have := this h (fun e h => by cases h)
        omega
      · split at h
        · unfold opS at h
          have : ∀ {c d : Prop} [Decidable c] [Decidable d] {a b : St}, (if c then a else if d then St.bad 14 else b) = .bad e → (∀ e, a ≠ .bad e) → (∀ e, b ≠ .bad e) → e = 14 := by
            intro c d _ _ a b h ha hb
            split at h
            · exact absurd h (ha e)
            · split at h
              · injection h with h; exact h.symm
              · exact absurd h (hb e)
          have := this h (fun e h => by cases h) (fun e h => by cases h)
          omega
        · split at h
          · cases h
          · split at h
            · split at h
              · exact quot h
              · split at h
                · injection h; omega
                · cases h
            · split at h
              · exact quot h
              · injection h; omega

def stepOut (s : BS) (i : Nat) (x : Tok) (l : List Tok) : St → Ex × S
  | .bad e => (.goto 2, lxBad e i)
  | .skip k => (.goto 1, lxSt s (i + k) x l)
  | .tok kd tx nm k => if l.length = 20000 then (.goto 2, lxBad 4 i) else (.goto 1, lxSt s (i + k) ⟨kd, tx, nm, i⟩ (l ++ [⟨kd, tx, nm, i⟩]))

theorem nl_loop_nil (K : Cx) (s : BS) (hs : s.length ≤ 2000000) (x : Tok) : ∀ (r : BS) (i : Nat), s.drop i = r → i ≤ s.length →
    lp K 0 [0, 4, 5, 7] f13_L0 (lxSt s i x []) = some (.exit 0, lxSt s (i + nlL r) x []) := by
  intro r
  induction r with
  | nil =>
    intro i hd hi
    have hlen := congrArg List.length hd
    rw [List.length_drop, List.length_nil] at hlen
    simp only [nlL, Nat.add_zero]
    rw [lxSt_nil, lp_un f13_L0.eq_1]
    skip
    simp (disch := first | decide | omega | (simp only [LN]; omega) | (simp only [LN]; done) | fail) only [SV, SW, vTok, Nat.reduceBEq]
  | cons c r ih =>
    intro i hd hi
    have hlen := congrArg List.length hd
    rw [List.length_drop, List.length_cons] at hlen
    have hn := nth_bAt (s := s) (i := i) (by omega)
    rw [hd] at hn
    have hb : bAt (c :: r) = c := rfl
    rw [hb] at hn
    have ih := ih (i + 1) (by rw [dd, hd]; rfl) (by omega)
    simp only [nlL]
    by_cases g : c = 10
    · rw [if_pos g]
      have g' := u8y 10 rfl g
      simp only [Nat.add_zero]
      rw [lxSt_nil, lp_un f13_L0.eq_1]
      skip
      clear g
      simp (disch := first | decide | omega | (simp only [LN]; omega) | (simp only [LN]; done) | fail) only [SV, SW, vTok, Nat.reduceBEq, hn]
    · rw [if_neg g]
      have g' := u8n 10 rfl g
      rw [show i + (nlL r + 1) = i + 1 + nlL r from by omega, ← ih]
      rw [lxSt_nil, lxSt_nil, lp_un f13_L0.eq_1]
      skip
      clear g ih
      simp (disch := first | decide | omega | (simp only [LN]; omega) | (simp only [LN]; done) | fail) only [SV, SW, vTok, Nat.reduceBEq, hn, cast1]

theorem lx_end_nil (K : Cx) (s : BS) (hs : s.length ≤ 2000000) (x : Tok) : exec K f13_G0 (lxSt s s.length x []) = some (.goto 0, lxDone []) := by
  rw [lxSt_nil, lxDone_nil]
  skip
  simp (disch := first | decide | omega | (simp only [LN]; omega) | (simp only [LN]; done) | fail) only [SV, SW, f13_G0, vTok, Nat.reduceBEq]

theorem lx_step_nil (K : Cx) (h27 : K27 K) (h28 : K28 K) (h29 : K29 K) (h30 : K30 K) (h31 : K31 K) (h32 : K32 K) (s : BS) (hs : s.length ≤ 65536) (i : Nat) (hi : i < s.length) (x : Tok) :
    exec K f13_G0 (lxSt s i x []) = some (stepOut s i x [] (stepS (s.drop i))) := by
  have hlen : (s.drop i).length = s.length - i := List.length_drop ..
  have c0 := h27 s i (by omega)
  have p0 := h28 [123, 45] (s.drop i) (by omega) (by simp)
  have m0 := h29 s i (by omega) (by omega)
  have r0 : K.call 15 [vS s, vI i, .d false (.int .u8 5)] = some (vI ((i + runL 5 (s.drop i) : Nat)), []) := h30 s i 5 (by omega) (by omega) (by decide)
  have rle := runL_le 5 (s.drop i)
  have d0 := h31 ((s.drop i).take (runL 5 (s.drop i))) (by rw [List.length_take]; omega)
  have t0 := h32 s i hi (by omega)
  have tl := fun k t m n => tokS_len (r := s.drop i) (k := k) (t := t) (m := m) (n := n)
  have tb := fun e => tokS_bad (r := s.drop i) (e := e)
  have hcl := fun k => comL_app [] 0 (s.drop i) k
  have cutA := fun H => cut_sl H s i (by omega)
  have cutB := fun (H : List (Nat × Blk)) => cut_slh H s i (i + runL 5 (s.drop i)) (by omega) (by omega)
  simp only [Nat.add_sub_cancel_left] at cutB
  have nl := nl_loop_nil K s (by omega) x (s.drop i) i rfl (by omega)
  have hns := tokS_ns (s.drop i)
  have hi' : ¬ ((i : Int) = (s.length : Int)) := by omega
  unfold stepS
  generalize s.drop i = r at *
  by_cases g1 : cls r = 7
  · rw [if_pos g1]
    rw [g1] at c0
    simp only [stepOut]
    rw [lxSt_nil, lxSt_nil]
    skip
    clear tl tb hcl cutA cutB nl hns
    simp (disch := first | decide | omega | (simp only [LN]; omega) | (simp only [LN]; done) | fail) only [SV, SW, f13_G0, vTok, Nat.reduceBEq, viewD, c0, cast1]
  · rw [if_neg g1]
    have g1' : ¬ ((cls r : Int) = 7) := by omega
    cases g2 : pre [123, 45] r with
    | true =>
      rw [if_pos rfl]
      rw [g2] at p0
      cases g3 : comL 0 r with
      | none =>
        rw [g3] at m0
        simp only at m0
        simp only [stepOut, lxBad]
        rw [lxSt_nil]
        skip
        clear tl tb hcl cutB nl hns g1
        simp (disch := first | decide | omega | (simp only [LN]; omega) | (simp only [LN]; done) | fail) only [SV, SW, f13_G0, vTok, Nat.reduceBEq, viewD, c0, cutA, p0, m0, Int.reduceNeg, nc]
      | some k =>
        rw [g3] at m0
        simp only at m0
        have hk := (hcl k g3).2
        simp only [stepOut]
        rw [lxSt_nil, lxSt_nil]
        skip
        clear tl tb hcl cutB nl hns g1
        have hik : ¬ (((i + k : Nat) : Int) < 0) := by omega
        simp (disch := first | decide | omega | (simp only [LN]; omega) | (simp only [LN]; done) | fail) only [SV, SW, f13_G0, vTok, Nat.reduceBEq, viewD, c0, cutA, p0, m0]
    | false =>
      rw [if_neg (by simp)]
      rw [g2] at p0
      cases g3 : dsh (r.take (runL 5 r)) with
      | true =>
        rw [if_pos rfl]
        rw [g3] at d0
        simp only [stepOut]
        rw [lxSt_nil, lxSt_nil] at nl
        rw [lxSt_nil, lxSt_nil]
        skip
        clear tl tb hcl hns g1
        simp only [vTok] at nl
        simp (disch := first | decide | omega | (simp only [LN]; omega) | (simp only [LN]; done) | fail) only [SV, SW, f13_G0, vTok, Nat.reduceBEq, viewD, c0, cutA, p0, r0, cutB, d0, nl]
      | false =>
        rw [if_neg (by simp)]
        rw [g3] at d0
        cases g4 : tokS r with
        | skip k => exact absurd g4 (hns k)
        | bad e =>
          have he := tb e g4
          rw [g4, stV_bad] at t0
          simp only [stepOut, lxBad]
          rw [lxSt_nil]
          skip
          clear tl tb hcl nl hns g1
          have he' : ¬ ((e : Int) = 0) := by omega
          simp (disch := first | decide | omega | (simp only [LN]; omega) | (simp only [LN]; done) | fail) only [SV, SW, f13_G0, vTok, Nat.reduceBEq, viewD, c0, cutA, p0, r0, cutB, d0, t0, Nat.reduceAdd, lose]
        | tok k t m n =>
          have hn := tl k t m n g4
          rw [g4, stV_tok] at t0
          simp only [stepOut]
          clear tl tb hcl nl hns g1
          rw [if_neg (by simp)]
          rw [lxSt_nil, lxSt_app]
          simp (disch := first | decide | omega | (simp only [LN]; omega) | (simp only [LN]; done) | fail) only [SV, SW, f13_G0, vTok, Nat.reduceBEq, viewD, c0, cutA, p0, r0, cutB, d0, t0, Nat.reduceAdd, lose, nc, reduceCtorEq, eTok]

theorem nl_loop_ne (K : Cx) (s : BS) (hs : s.length ≤ 2000000) (x : Tok) (l : List Tok) (hl : l ≠ []) : ∀ (r : BS) (i : Nat), s.drop i = r → i ≤ s.length →
    lp K 0 [0, 4, 5, 7] f13_L0 (lxSt s i x l) = some (.exit 0, lxSt s (i + nlL r) x l) := by
  intro r
  induction r with
  | nil =>
    intro i hd hi
    have hlen := congrArg List.length hd
    rw [List.length_drop, List.length_nil] at hlen
    simp only [nlL, Nat.add_zero]
    rw [lxSt_ne _ _ _ hl, lp_un f13_L0.eq_1]
    clear hl
    simp (disch := first | decide | omega | (simp only [LN]; omega) | (simp only [LN]; done) | fail) only [SV, SW, vTok, Nat.reduceBEq, reduceCtorEq, Nat.reduceAdd]
  | cons c r ih =>
    intro i hd hi
    have hlen := congrArg List.length hd
    rw [List.length_drop, List.length_cons] at hlen
    have hn := nth_bAt (s := s) (i := i) (by omega)
    rw [hd] at hn
    have hb : bAt (c :: r) = c := rfl
    rw [hb] at hn
    have ih := ih (i + 1) (by rw [dd, hd]; rfl) (by omega)
    simp only [nlL]
    by_cases g : c = 10
    · rw [if_pos g]
      have g' := u8y 10 rfl g
      simp only [Nat.add_zero]
      rw [lxSt_ne _ _ _ hl, lp_un f13_L0.eq_1]
      clear hl
      clear g
      simp (disch := first | decide | omega | (simp only [LN]; omega) | (simp only [LN]; done) | fail) only [SV, SW, vTok, Nat.reduceBEq, hn, reduceCtorEq, Nat.reduceAdd]
    · rw [if_neg g]
      have g' := u8n 10 rfl g
      rw [show i + (nlL r + 1) = i + 1 + nlL r from by omega, ← ih]
      rw [lxSt_ne _ _ _ hl, lxSt_ne _ _ _ hl, lp_un f13_L0.eq_1]
      clear hl
      clear g ih
      simp (disch := first | decide | omega | (simp only [LN]; omega) | (simp only [LN]; done) | fail) only [SV, SW, vTok, Nat.reduceBEq, hn, cast1, reduceCtorEq, Nat.reduceAdd]

theorem lx_end_ne (K : Cx) (s : BS) (hs : s.length ≤ 2000000) (x : Tok) (l : List Tok) (hl : l ≠ []) : exec K f13_G0 (lxSt s s.length x l) = some (.goto 0, lxDone l) := by
  rw [lxSt_ne _ _ _ hl, lxDone_ne hl]
  clear hl
  simp (disch := first | decide | omega | (simp only [LN]; omega) | (simp only [LN]; done) | fail) only [SV, SW, f13_G0, vTok, Nat.reduceBEq]

theorem lx_step_ne (K : Cx) (h27 : K27 K) (h28 : K28 K) (h29 : K29 K) (h30 : K30 K) (h31 : K31 K) (h32 : K32 K) (s : BS) (hs : s.length ≤ 65536) (i : Nat) (hi : i < s.length) (x : Tok) (l : List Tok) (hl : l ≠ []) (hll : l.length ≤ 20000):
    exec K f13_G0 (lxSt s i x l) = some (stepOut s i x l (stepS (s.drop i))) := by
  have hlen : (s.drop i).length = s.length - i := List.length_drop ..
  have c0 := h27 s i (by omega)
  have p0 := h28 [123, 45] (s.drop i) (by omega) (by simp)
  have m0 := h29 s i (by omega) (by omega)
  have r0 : K.call 15 [vS s, vI i, .d false (.int .u8 5)] = some (vI ((i + runL 5 (s.drop i) : Nat)), []) := h30 s i 5 (by omega) (by omega) (by decide)
  have rle := runL_le 5 (s.drop i)
  have d0 := h31 ((s.drop i).take (runL 5 (s.drop i))) (by rw [List.length_take]; omega)
  have t0 := h32 s i hi (by omega)
  have tl := fun k t m n => tokS_len (r := s.drop i) (k := k) (t := t) (m := m) (n := n)
  have tb := fun e => tokS_bad (r := s.drop i) (e := e)
  have hcl := fun k => comL_app [] 0 (s.drop i) k
  have cutA := fun H => cut_sl H s i (by omega)
  have cutB := fun (H : List (Nat × Blk)) => cut_slh H s i (i + runL 5 (s.drop i)) (by omega) (by omega)
  simp only [Nat.add_sub_cancel_left] at cutB
  have nl := nl_loop_ne K s (by omega) x l hl (s.drop i) i rfl (by omega)
  have hns := tokS_ns (s.drop i)
  have hi' : ¬ ((i : Int) = (s.length : Int)) := by omega
  unfold stepS
  generalize s.drop i = r at *
  by_cases g1 : cls r = 7
  · rw [if_pos g1]
    rw [g1] at c0
    simp only [stepOut]
    rw [lxSt_ne _ _ _ hl, lxSt_ne _ _ _ hl]
    clear hl
    clear tl tb hcl cutA cutB nl hns
    simp (disch := first | decide | omega | (simp only [LN]; omega) | (simp only [LN]; done) | fail) only [SV, SW, f13_G0, vTok, Nat.reduceBEq, viewD, c0, cast1, reduceCtorEq, Nat.reduceAdd]
  · rw [if_neg g1]
    have g1' : ¬ ((cls r : Int) = 7) := by omega
    cases g2 : pre [123, 45] r with
    | true =>
      rw [if_pos rfl]
      rw [g2] at p0
      cases g3 : comL 0 r with
      | none =>
        rw [g3] at m0
        simp only at m0
        simp only [stepOut, lxBad]
        rw [lxSt_ne _ _ _ hl]
        clear hl
        clear tl tb hcl cutB nl hns g1
        simp (disch := first | decide | omega | (simp only [LN]; omega) | (simp only [LN]; done) | fail) only [SV, SW, f13_G0, vTok, Nat.reduceBEq, viewD, c0, cutA, p0, m0, Int.reduceNeg, nc]
      | some k =>
        rw [g3] at m0
        simp only at m0
        have hk := (hcl k g3).2
        simp only [stepOut]
        rw [lxSt_ne _ _ _ hl, lxSt_ne _ _ _ hl]
        clear hl
        clear tl tb hcl cutB nl hns g1
        have hik : ¬ (((i + k : Nat) : Int) < 0) := by omega
        simp (disch := first | decide | omega | (simp only [LN]; omega) | (simp only [LN]; done) | fail) only [SV, SW, f13_G0, vTok, Nat.reduceBEq, viewD, c0, cutA, p0, m0, reduceCtorEq, Nat.reduceAdd]
    | false =>
      rw [if_neg (by simp)]
      rw [g2] at p0
      cases g3 : dsh (r.take (runL 5 r)) with
      | true =>
        rw [if_pos rfl]
        rw [g3] at d0
        simp only [stepOut]
        rw [lxSt_ne _ _ _ hl, lxSt_ne _ _ _ hl] at nl
        rw [lxSt_ne _ _ _ hl, lxSt_ne _ _ _ hl]
        clear hl
        clear tl tb hcl hns g1
        simp only [vTok] at nl
        simp (disch := first | decide | omega | (simp only [LN]; omega) | (simp only [LN]; done) | fail) only [SV, SW, f13_G0, vTok, Nat.reduceBEq, viewD, c0, cutA, p0, r0, cutB, d0, reduceCtorEq, Nat.reduceAdd, nl]
      | false =>
        rw [if_neg (by simp)]
        rw [g3] at d0
        cases g4 : tokS r with
        | skip k => exact absurd g4 (hns k)
        | bad e =>
          have he := tb e g4
          rw [g4, stV_bad] at t0
          simp only [stepOut, lxBad]
          rw [lxSt_ne _ _ _ hl]
          clear hl
          clear tl tb hcl nl hns g1
          have he' : ¬ ((e : Int) = 0) := by omega
          simp (disch := first | decide | omega | (simp only [LN]; omega) | (simp only [LN]; done) | fail) only [SV, SW, f13_G0, vTok, Nat.reduceBEq, viewD, c0, cutA, p0, r0, cutB, d0, t0, Nat.reduceAdd, lose]
        | tok k t m n =>
          have hn := tl k t m n g4
          rw [g4, stV_tok] at t0
          simp only [stepOut]
          clear tl tb hcl nl hns g1
          by_cases g5 : l.length = 20000
          · rw [if_pos g5]
            simp only [lxBad]
            rw [lxSt_ne _ _ _ hl]
            clear hl
            simp (disch := first | decide | omega | (simp only [LN]; omega) | (simp only [LN]; done) | fail) only [SV, SW, f13_G0, vTok, Nat.reduceBEq, viewD, c0, cutA, p0, r0, cutB, d0, t0, Nat.reduceAdd, lose, nc]
          · rw [if_neg g5]
            rw [lxSt_ne _ _ _ hl, lxSt_app]
            clear hl
            have g5' : ¬ ((l.length : Int) = 20000) := by omega
            have key : ∀ y : Tok, List.map eTok l ++ [eTok y] = List.map eTok (l ++ [y]) := fun y => by simp
            simp (disch := first | decide | omega | (simp only [LN]; omega) | (simp only [LN]; done) | fail) only [SV, SW, f13_G0, vTok, Nat.reduceBEq, viewD, c0, cutA, p0, r0, cutB, d0, t0, Nat.reduceAdd, lose, V.forget, V.drop1, V.ref0, reduceCtorEq, eTok]

theorem lx_end_st (K : Cx) (s : BS) (hs : s.length ≤ 2000000) (x : Tok) : exec K f13_G0 (lxP s s.length x) = some (.goto 0, lxDone []) := by
  rw [lxP, lxDone_nil]
  skip
  simp (disch := first | decide | omega | (simp only [LN]; omega) | (simp only [LN]; done) | fail) only [SV, SW, f13_G0, vTok, Nat.reduceBEq]

theorem lx_step_st (K : Cx) (h27 : K27 K) (h28 : K28 K) (h29 : K29 K) (h30 : K30 K) (h31 : K31 K) (h32 : K32 K) (s : BS) (hs : s.length ≤ 65536) (i : Nat) (hi : i < s.length) (x : Tok) :
    exec K f13_G0 (lxP s i x) = some (stepOut s i x [] (stepS (s.drop i))) := by
  have hlen : (s.drop i).length = s.length - i := List.length_drop ..
  have c0 := h27 s i (by omega)
  have p0 := h28 [123, 45] (s.drop i) (by omega) (by simp)
  have m0 := h29 s i (by omega) (by omega)
  have r0 : K.call 15 [vS s, vI i, .d false (.int .u8 5)] = some (vI ((i + runL 5 (s.drop i) : Nat)), []) := h30 s i 5 (by omega) (by omega) (by decide)
  have rle := runL_le 5 (s.drop i)
  have d0 := h31 ((s.drop i).take (runL 5 (s.drop i))) (by rw [List.length_take]; omega)
  have t0 := h32 s i hi (by omega)
  have tl := fun k t m n => tokS_len (r := s.drop i) (k := k) (t := t) (m := m) (n := n)
  have tb := fun e => tokS_bad (r := s.drop i) (e := e)
  have hcl := fun k => comL_app [] 0 (s.drop i) k
  have cutA := fun H => cut_sl H s i (by omega)
  have cutB := fun (H : List (Nat × Blk)) => cut_slh H s i (i + runL 5 (s.drop i)) (by omega) (by omega)
  simp only [Nat.add_sub_cancel_left] at cutB
  have nl := nl_loop_nil K s (by omega) x (s.drop i) i rfl (by omega)
  have hns := tokS_ns (s.drop i)
  have hi' : ¬ ((i : Int) = (s.length : Int)) := by omega
  unfold stepS
  generalize s.drop i = r at *
  by_cases g1 : cls r = 7
  · rw [if_pos g1]
    rw [g1] at c0
    simp only [stepOut]
    rw [lxP, lxSt_nil]
    skip
    clear tl tb hcl cutA cutB nl hns
    simp (disch := first | decide | omega | (simp only [LN]; omega) | (simp only [LN]; done) | fail) only [SV, SW, f13_G0, vTok, Nat.reduceBEq, viewD, c0, cast1]
  · rw [if_neg g1]
    have g1' : ¬ ((cls r : Int) = 7) := by omega
    cases g2 : pre [123, 45] r with
    | true =>
      rw [if_pos rfl]
      rw [g2] at p0
      cases g3 : comL 0 r with
      | none =>
        rw [g3] at m0
        simp only at m0
        simp only [stepOut, lxBad]
        rw [lxP]
        skip
        clear tl tb hcl cutB nl hns g1
        simp (disch := first | decide | omega | (simp only [LN]; omega) | (simp only [LN]; done) | fail) only [SV, SW, f13_G0, vTok, Nat.reduceBEq, viewD, c0, cutA, p0, m0, Int.reduceNeg, nc]
      | some k =>
        rw [g3] at m0
        simp only at m0
        have hk := (hcl k g3).2
        simp only [stepOut]
        rw [lxP, lxSt_nil]
        skip
        clear tl tb hcl cutB nl hns g1
        have hik : ¬ (((i + k : Nat) : Int) < 0) := by omega
        simp (disch := first | decide | omega | (simp only [LN]; omega) | (simp only [LN]; done) | fail) only [SV, SW, f13_G0, vTok, Nat.reduceBEq, viewD, c0, cutA, p0, m0]
    | false =>
      rw [if_neg (by simp)]
      rw [g2] at p0
      cases g3 : dsh (r.take (runL 5 r)) with
      | true =>
        rw [if_pos rfl]
        rw [g3] at d0
        simp only [stepOut]
        rw [lxSt_nil, lxSt_nil] at nl
        rw [lxP, lxSt_nil]
        skip
        clear tl tb hcl hns g1
        simp only [vTok] at nl
        simp (disch := first | decide | omega | (simp only [LN]; omega) | (simp only [LN]; done) | fail) only [SV, SW, f13_G0, vTok, Nat.reduceBEq, viewD, c0, cutA, p0, r0, cutB, d0, nl]
      | false =>
        rw [if_neg (by simp)]
        rw [g3] at d0
        cases g4 : tokS r with
        | skip k => exact absurd g4 (hns k)
        | bad e =>
          have he := tb e g4
          rw [g4, stV_bad] at t0
          simp only [stepOut, lxBad]
          rw [lxP]
          skip
          clear tl tb hcl nl hns g1
          have he' : ¬ ((e : Int) = 0) := by omega
          simp (disch := first | decide | omega | (simp only [LN]; omega) | (simp only [LN]; done) | fail) only [SV, SW, f13_G0, vTok, Nat.reduceBEq, viewD, c0, cutA, p0, r0, cutB, d0, t0, Nat.reduceAdd, lose]
        | tok k t m n =>
          have hn := tl k t m n g4
          rw [g4, stV_tok] at t0
          simp only [stepOut]
          clear tl tb hcl nl hns g1
          rw [if_neg (by simp)]
          rw [lxP, lxSt_app]
          simp (disch := first | decide | omega | (simp only [LN]; omega) | (simp only [LN]; done) | fail) only [SV, SW, f13_G0, vTok, Nat.reduceBEq, viewD, c0, cutA, p0, r0, cutB, d0, t0, Nat.reduceAdd, lose, nc, reduceCtorEq, eTok]
end Go.Vm
end

section
namespace Go.Vm
set_option maxRecDepth 20000

noncomputable def lxLab (K : Cx) : Nat → Option (S → Option (Ex × S)) := fun l => exec.labelled K (.lcons 1 f13_G0 (.lcons 2 f13_G1 (.lcons 0 f13_G2 .lnil))) l
theorem lab1 (K : Cx) : lxLab K 1 = some (exec K f13_G0) := by simp [lxLab, exec.labelled]
theorem lab2 (K : Cx) : lxLab K 2 = some (exec K f13_G1) := by simp [lxLab, exec.labelled]
theorem lab0 (K : Cx) : lxLab K 0 = some (exec K f13_G2) := by simp [lxLab, exec.labelled]

def lexOut : LR → Ex × S
  | .bad e i => (.ret, ⟨[(2, .fs true 4 []), (3, .iface 45 (.ptr 0 0 0))], [(0, .mix 4 [[vI e, vI 0, vI i, vS []]])], 1, []⟩)
  | .ok [] => (.ret, ⟨[(2, .fs true 4 []), (3, .d false .nilif)], [], 0, []⟩)
  | .ok l => (.ret, ⟨[(2, .bsl 0 0 l.length), (3, .d false .nilif)], [(0, .dat true 4 (l.map eTok))], 1, []⟩)

theorem lx_done (K : Cx) (l : List Tok) : exec K f13_G2 (lxDone l) = some (lexOut (.ok l)) := by
  by_cases h : l = []
  · subst h
    rw [lxDone_nil]
    simp only [lexOut]
    simp (disch := first | decide | omega | (simp only [LN]; omega) | (simp only [LN]; done) | fail) only [SV, SW, f13_G2, Nat.reduceBEq]
  · rw [lxDone_ne h]
    have e : lexOut (.ok l) = (.ret, ⟨[(2, .bsl 0 0 l.length), (3, .d false .nilif)], [(0, .dat true 4 (l.map eTok))], 1, []⟩) := by
      cases l with
      | nil => exact absurd rfl h
      | cons a l => rfl
    rw [e]
    clear h e
    simp (disch := first | decide | omega | (simp only [LN]; omega) | (simp only [LN]; done) | fail) only [SV, SW, f13_G2, Nat.reduceBEq]
theorem lx_wrong (K : Cx) (e i : Nat) : exec K f13_G1 (lxBad e i) = some (lexOut (.bad e i)) := by
  simp only [lxBad, lexOut]
  simp (disch := first | decide | omega | (simp only [LN]; omega) | (simp only [LN]; done) | fail) only [SV, SW, f13_G1, Nat.reduceBEq, Nat.reduceAdd, e_mki, mkiV_eq]

theorem lexOut_shape (r : LR) : ∃ s, lexOut r = (.ret, s) := by
  match r with
  | .bad _ _ => exact ⟨_, rfl⟩
  | .ok [] => exact ⟨_, rfl⟩
  | .ok (_ :: _) => exact ⟨_, rfl⟩
theorem lx_main (K : Cx) (h27 : K27 K) (h28 : K28 K) (h29 : K29 K) (h30 : K30 K) (h31 : K31 K) (h32 : K32 K) (s : BS) (hs : s.length ≤ 65536) :
    ∀ (n : Nat) (r : BS), r.length = n → ∀ (i : Nat) (x : Tok) (l : List Tok), s.drop i = r → i ≤ s.length → l.length ≤ 20000 →
      scopeF (lxLab K) (some (.goto 1, lxSt s i x l)) = some (lexOut ((lexS r i l.length).app l)) := by
  intro n
  induction n using Nat.strongRecOn with
  | ind n ih =>
    intro r hr i x l hd hi hl
    subst hr
    rw [scopeF_goto (lab1 K)]
    by_cases h0 : r = []
    · subst h0
      have hlen := congrArg List.length hd
      rw [List.length_drop, List.length_nil] at hlen
      have : i = s.length := by omega
      subst this
      have he : exec K f13_G0 (lxSt s s.length x l) = some (.goto 0, lxDone l) := by
        by_cases h : l = []
        · subst h; exact lx_end_nil K s (by omega) x
        · exact lx_end_ne K s (by omega) x l h
      rw [he, scopeF_goto (lab0 K), lx_done, lexS_nil]
      simp only [LR.app, List.append_nil]
      obtain ⟨s1, hs1⟩ := lexOut_shape (.ok l)
      rw [hs1, scopeF_ret]
    · have hlen := congrArg List.length hd
      have hpos : 1 ≤ r.length := by cases r with | nil => exact absurd rfl h0 | cons a b => simp
      rw [List.length_drop] at hlen
      have he : exec K f13_G0 (lxSt s i x l) = some (stepOut s i x l (stepS r)) := by
        rw [← hd]
        by_cases h : l = []
        · subst h; exact lx_step_nil K h27 h28 h29 h30 h31 h32 s hs i (by omega) x
        · exact lx_step_ne K h27 h28 h29 h30 h31 h32 s hs i (by omega) x l h hl
      obtain ⟨q1, q2⟩ := stepS_len h0
      rw [he, lexS_cons h0]
      cases hst : stepS r with
      | bad e =>
        simp only [stepOut, LR.app]
        rw [scopeF_goto (lab2 K), lx_wrong]
        obtain ⟨s1, hs1⟩ := lexOut_shape (.bad e i)
        rw [hs1, scopeF_ret]
      | skip k =>
        obtain ⟨k1, k2⟩ := q1 k hst
        simp only [stepOut]
        exact ih (r.drop k).length (by rw [List.length_drop]; omega) (r.drop k) rfl (i + k) x l (by rw [dd, hd]) (by omega) hl
      | tok kd tx nm k =>
        obtain ⟨k1, k2⟩ := q2 kd tx nm k hst
        simp only [stepOut]
        by_cases g : l.length = 20000
        · rw [if_pos g, if_pos g]
          simp only [LR.app]
          rw [scopeF_goto (lab2 K), lx_wrong]
          obtain ⟨s1, hs1⟩ := lexOut_shape (.bad 4 i)
          rw [hs1, scopeF_ret]
        · rw [if_neg g, if_neg g]
          have := ih (r.drop k).length (by rw [List.length_drop]; omega) (r.drop k) rfl (i + k) ⟨kd, tx, nm, i⟩ (l ++ [⟨kd, tx, nm, i⟩]) (by rw [dd, hd]) (by omega) (by simp; omega)
          rw [this]
          simp only [List.length_append, List.length_cons, List.length_nil]
          congr 2
          cases lexS (r.drop k) (i + k) (l.length + (0 + 1)) with
          | bad e p => rfl
          | ok m => simp [LR.app, LR.cons]

def tailC : C → C
  | .seq _ t => t
  | c => c
def T13 : C := tailC f13_G0
theorem f13_eq : f13 = ⟨
 (.seq
  (.reg [⟨[], [], [.nilif, (.nilsl 4)], none, [0], 2, [], [], []⟩])
  (.scope
   (.seq
    (.seq
     (.reg [⟨[], [(11, (.bin .gtr (.len true (.sl 0)) (.int .i64 65536)))], [], none, [0], 3, [], [], []⟩])
     (.cond (.sl 11)
      (.seq
       (.reg [⟨[(13, .box (.set 2 1 (.int .i64 (-1)) (.set 0 1 (.int .i64 2) (.agg (.cons (.int .i64 0) (.cons (.int .i64 0) (.cons (.int .i64 0) (.cons (.str []) .nil))))))))], [(2, (.nilsl 4)), (3, (.mki 45 (.sl 13)))], [], none, [], 5, [], [], []⟩])
       (.seq
        (.tidy 0 [2, 3])
        .ret))
      .skip))
    (.seq
     (.reg [⟨[], [(4, (.nilsl 4))], [], none, [0], 1, [], [], []⟩])
     (.seq
      (.reg [⟨[(5, .box (.agg (.cons (.int .i64 0) (.cons (.str []) (.cons (.int .i64 0) (.cons (.int .i64 0) .nil))))))], [], [], none, [0, 4, 5], 1, [], [], []⟩])
      (.seq
       (.reg [⟨[], [], [(.int .i64 0)], none, [0, 4, 5], 1, [], [], []⟩])
       (.seq
        (.reg [⟨[], [(7, (.int .i64 0))], [], none, [0, 4, 5], 2, [], [], []⟩])
        (.seq
         (.label 1)
         T13))))))
   (.lcons 1 f13_G0
    (.lcons 2 f13_G1
     (.lcons 0 f13_G2
      .lnil))))),
 [(.sl 2), (.sl 3)], false⟩ := rfl
theorem exec_G0 (K : Cx) (s : S) : exec K f13_G0 s = exec K T13 s := by
  have : f13_G0 = .seq .skip T13 := rfl
  rw [this, exec_seq, exec_skip, thn_nrm]

def errV (e i : Int) : V := .tup [.fs true 4 [], .d false (.iface 45 [.ptr [.int .i64 e, .int .i64 0, .int .i64 i, .str []]])]
def lexV0 (s : BS) : V :=
  if 65536 < s.length then errV 2 (-1)
  else match lexS s 0 0 with
    | .bad e i => errV e i
    | .ok [] => .tup [.fs true 4 [], .d false .nilif]
    | .ok l => .tup [.d true (.sl 4 (l.map eTok)), .d false .nilif]

theorem lx_start (K : Cx) (h27 : K27 K) (h28 : K28 K) (h29 : K29 K) (h30 : K30 K) (h31 : K31 K) (h32 : K32 K) (s : BS) (hs : s.length ≤ 65536) (x : Tok) :
    exec K f13_G0 (lxP s 0 x) = exec K f13_G0 (lxSt s 0 x []) := by
  by_cases h : s = []
  · subst h
    have h1 := lx_end_st K [] (by simp) x
    have h2 := lx_end_nil K [] (by simp) x
    exact h1.trans h2.symm
  · have hp : 0 < s.length := by cases s with | nil => exact absurd rfl h | cons a b => simp
    rw [lx_step_st K h27 h28 h29 h30 h31 h32 s hs 0 hp x, lx_step_nil K h27 h28 h29 h30 h31 h32 s hs 0 hp x]

theorem ev_Lex (K : Cx) (h27 : K27 K) (h28 : K28 K) (h29 : K29 K) (h30 : K30 K) (h31 : K31 K) (h32 : K32 K) (s : BS) (hs : s.length ≤ 2000000) :
    runFun K f13 [vS s] [] = some (lexV0 s, [], []) := by
  unfold lexV0
  by_cases g : 65536 < s.length
  · rw [if_pos g]
    unfold errV
    simp (disch := first | decide | omega | (simp only [LN]; omega) | (simp only [LN]; done) | fail) only [SV, SW, f13_eq, Int.reduceNeg, exec_scope, Nat.reduceAdd, Nat.reduceBEq, e_mki, mkiV_eq, scopeF_ret, oneOr, V.forget, V.drop1, V.ref0, viewD]
  · rw [if_neg g]
    have hm := lx_main K h27 h28 h29 h30 h31 h32 s (by omega) _ s rfl 0 ⟨0, [], 0, 0⟩ [] rfl (by omega) (by simp)
    rw [List.length_nil] at hm
    have e0 : ∀ r : LR, r.app [] = r := by intro r; cases r <;> rfl
    rw [e0, scopeF_goto (lab1 K), ← lx_start K h27 h28 h29 h30 h31 h32 s (by omega), exec_G0, show lxLab K = fun l => exec.labelled K (.lcons 1 f13_G0 (.lcons 2 f13_G1 (.lcons 0 f13_G2 .lnil))) l from rfl] at hm
    simp only [lxP, vTok, Int.natCast_zero] at hm
    match hr : lexS s 0 0 with
    | .bad e i =>
      rw [hr] at hm
      simp only [lexOut] at hm
      simp only [errV]
      simp (disch := first | decide | omega | (simp only [LN]; omega) | (simp only [LN]; done) | fail) only [SV, SW, f13_eq, Int.reduceNeg, exec_scope, Nat.reduceBEq, Nat.reduceAdd, exec_label, hm, oneOr, V.forget, V.drop1, V.ref0, viewD]
    | .ok [] =>
      rw [hr] at hm
      simp only [lexOut] at hm
      simp (disch := first | decide | omega | (simp only [LN]; omega) | (simp only [LN]; done) | fail) only [SV, SW, f13_eq, Int.reduceNeg, exec_scope, Nat.reduceBEq, Nat.reduceAdd, exec_label, hm, oneOr]
    | .ok (a :: l) =>
      rw [hr] at hm
      simp only [lexOut] at hm
      simp only
      generalize a :: l = m at hm ⊢
      simp (disch := first | decide | omega | (simp only [LN]; omega) | (simp only [LN]; done) | fail) only [SV, SW, f13_eq, Int.reduceNeg, exec_scope, Nat.reduceBEq, Nat.reduceAdd, exec_label, hm, oneOr, hNew, V.forget, V.drop1, V.ref0, V.newR, viewD]
end Go.Vm
end

section
namespace Go.Vm
set_option maxRecDepth 20000
/- 'sloth/lex.escaped' -/
def f39_L0 : C :=
 (.seq
  (.reg [⟨[], [(11, (.bin .lss (.sl 10) (.sl 9)))], [], none, [0, 1, 5, 9, 10], 1, [], [], []⟩])
  (.seq
   (.cond (.sl 11)
    .skip
    (.seq
     (.tidy 0 [1, 5])
     (.exit 0)))
   (.seq
    (.block 1
     (.seq
      (.reg [⟨[], [(6, (.sl 10))], [], none, [0, 1, 5, 9, 10], 2, [], [], []⟩])
      (.seq
       (.reg [⟨[], [(7, (.ix (.sl 0) (.sl 6)))], [], none, [0, 1, 5, 9, 10], 4, [], [], []⟩])
       (.block 2
        (.seq
         (.reg [⟨[], [(23, (.bin .eql (.sl 7) (.int .u8 10)))], [], none, [0, 1, 5, 7, 9, 10], 3, [], [], []⟩])
         (.cond (.sl 23)
          (.reg [⟨[], [], [], some (some 26, .calle 22 (.cons (.sl 5) (.cons (.str [92, 110]) .nil))), [0, 1, 5, 9, 10], 1, [], [], []⟩])
          (.seq
           (.reg [⟨[], [(27, (.bin .eql (.sl 7) (.int .u8 9)))], [], none, [0, 1, 5, 7, 9, 10], 3, [], [], []⟩])
           (.cond (.sl 27)
            (.reg [⟨[], [], [], some (some 30, .calle 22 (.cons (.sl 5) (.cons (.str [92, 116]) .nil))), [0, 1, 5, 9, 10], 1, [], [], []⟩])
            (.seq
             (.reg [⟨[], [(31, (.or (.bin .eql (.sl 7) (.int .u8 92)) (.bin .eql (.sl 7) (.sl 1))))], [], none, [0, 1, 5, 7, 9, 10], 8, [], [], []⟩])
             (.cond (.sl 31)
              (.seq
               (.reg [⟨[], [], [], some (some 39, .calle 20 (.cons (.sl 5) (.cons (.int .u8 92) .nil))), [0, 1, 5, 7, 9, 10], 1, [], [], []⟩])
               (.reg [⟨[], [], [], some (some 41, .calle 20 (.cons (.sl 5) (.cons (.sl 7) .nil))), [0, 1, 5, 9, 10], 2, [], [], []⟩]))
              (.seq
               (.reg [⟨[], [(42, (.and (.bin .geq (.sl 7) (.int .u8 32)) (.bin .leq (.sl 7) (.int .u8 126))))], [], none, [0, 1, 5, 7, 9, 10], 7, [], [], []⟩])
               (.cond (.sl 42)
                (.reg [⟨[], [], [], some (some 50, .calle 20 (.cons (.sl 5) (.cons (.sl 7) .nil))), [0, 1, 5, 9, 10], 2, [], [], []⟩])
                (.seq
                 (.reg [⟨[], [], [], some (some 16, .calle 20 (.cons (.sl 5) (.cons (.int .u8 92) .nil))), [0, 1, 5, 7, 9, 10], 1, [], [], []⟩])
                 (.reg [⟨[], [], [], some (some 22, .calle 22 (.cons (.sl 5) (.cons (.cut true true false false 0 (.call 49 (.cons (.bin .add (.int .i64 1000) (.conv .i64 (.sl 7))) .nil)) (.int .i64 1) .nil .nil) .nil))), [0, 1, 5, 9, 10], 6, [], [], []⟩]))))))))))))))
    (.reg [⟨[], [(10, (.bin .add (.sl 10) (.int .i64 1)))], [], none, [0, 1, 5, 9], 2, [], [], []⟩]))))
def f39 : Fun := ⟨
 (.seq
  (.reg [⟨[], [], [(.str [])], none, [0, 1], 1, [], [], []⟩])
  (.seq
   (.reg [⟨[(5, .bld 58 5)], [], [], none, [0, 1, 5], 1, [], [], []⟩])
   (.seq
    (.seq
     (.reg [⟨[], [(9, (.len true (.sl 0))), (10, (.int .i64 0))], [], none, [0, 1, 5], 3, [], [], []⟩])
     (.block 0
      (.seq (.tidy 0 [0, 1, 5, 9, 10]) (.loop (.seq (.tidy 0 [0, 1, 5, 9, 10]) f39_L0)))))
    (.seq
     (.reg [⟨[], [(53, (.i2s (.sl 1)))], [], some (some 54, .calle 24 (.cons (.sl 5) .nil)), [1], 3, [], [], []⟩, ⟨[], [(4, (.bin .add (.bin .add (.sl 53) (.sl 54)) (.i2s (.sl 1))))], [], none, [], 5, [], [], []⟩])
     (.seq
      (.tidy 0 [4])
      .ret))))),
 [(.sl 4)], false⟩
theorem f39_ok : funOk Go.Proofs.Tryz.prog 50 0 2 f39 = true := by kernel_rfl

def E22 (K : Cx) : Prop := ∀ (bytes : BS) (c : UInt8), bytes.length ≤ 100000000 → K.eff 20 [.ptr 0 0 0, .d false (.int .u8 c.toNat)] [bldB 58 1 bytes.length, bufB 5 bytes] = some (.d false .nilif, [bldB 58 1 (bytes ++ [c]).length, bufB 5 (bytes ++ [c])], [1])
def E24 (K : Cx) : Prop := ∀ (bytes s : BS), bytes.length ≤ 100000000 → s.length ≤ 100000000 → K.eff 22 [.ptr 0 0 0, vS s] [bldB 58 1 bytes.length, bufB 5 bytes] = some (.tup [vI s.length, .d false .nilif], [bldB 58 1 (bytes ++ s).length, bufB 5 (bytes ++ s)], [1])
def E23 (K : Cx) : Prop := ∀ (bytes : BS), K.eff 21 [.ptr 0 0 0] [bldB 58 1 bytes.length, bufB 5 bytes] = some (vI bytes.length, [bldB 58 1 bytes.length, bufB 5 bytes], [])
def E26 (K : Cx) : Prop := ∀ (bytes : BS), K.eff 24 [.ptr 0 0 0] [bldB 58 1 bytes.length, bufB 5 bytes] = some (vS bytes, [bldB 58 1 bytes.length, bufB 5 bytes], [1])
def K38 (K : Cx) : Prop := ∀ n : Int, -9223372036854775808 ≤ n → n ≤ 9223372036854775807 → K.call 49 [vI n] = some (vS (Lib.itoa n), [])

def escB (q c : UInt8) : BS :=
  if c = 10 then [92, 110] else if c = 9 then [92, 116] else if c = 92 ∨ c = q then [92, c]
  else if 32 ≤ c.toNat ∧ c.toNat ≤ 126 then [c] else 92 :: (Lib.itoa (1000 + c.toNat)).drop 1
def escL (q : UInt8) : BS → BS
  | [] => []
  | c :: r => escB q c ++ escL q r
def escS (s : BS) (q : UInt8) : BS := q :: (escL q s ++ [q])

theorem itoa_len : ∀ c : UInt8, (Lib.itoa (1000 + c.toNat)).length = 4 := u8all (by decide +kernel)
theorem escB_len (q c : UInt8) : 1 ≤ (escB q c).length ∧ (escB q c).length ≤ 4 := by
  unfold escB
  split
  · simp
  · split
    · simp
    · split
      · simp
      · split
        · simp
        · simp [itoa_len]
theorem escL_len (q : UInt8) : ∀ s : BS, (escL q s).length ≤ 4 * s.length
  | [] => by simp [escL]
  | c :: r => by
    have := escL_len q r
    have := escB_len q c
    simp only [escL, List.length_append, List.length_cons]
    omega

def esSt (s : BS) (q : UInt8) (k : Nat) (b : BS) : S := ⟨[(0, vS s), (1, .d false (.int .u8 q.toNat)), (5, .ptr 0 0 0), (9, vI s.length), (10, vI k)], [(0, .map [(.nils 58, .bsl 1 0 b.length)]), (1, .map [(.emps 5, .d false .nilp), (.str b, .d false .nilp)])], 2, []⟩
theorem es_loop (K : Cx) (h22 : E22 K) (h24 : E24 K) (h38 : K38 K) (s : BS) (hs : s.length ≤ 2000000) (q : UInt8) : ∀ (r : BS) (k : Nat) (b : BS), s.drop k = r → k ≤ s.length → b.length ≤ 4 * k →
    lp K 0 [0, 1, 5, 9, 10] f39_L0 (esSt s q k b) = some (.exit 0, ⟨[(1, .d false (.int .u8 q.toNat)), (5, .ptr 0 0 0)], [(0, .map [(.nils 58, .bsl 1 0 (b ++ escL q r).length)]), (1, .map [(.emps 5, .d false .nilp), (.str (b ++ escL q r), .d false .nilp)])], 2, []⟩) := by
  intro r
  induction r with
  | nil =>
    intro k b hd hk hb
    have hlen := congrArg List.length hd
    rw [List.length_drop, List.length_nil] at hlen
    simp only [escL, List.append_nil, esSt]
    rw [lp_un f39_L0.eq_1]
    simp (disch := first | decide | omega | (simp only [LN]; omega) | (simp only [LN]; done) | fail) only [SV, SW, Nat.reduceBEq, reduceCtorEq, Nat.reduceAdd]
  | cons c r ih =>
    intro k b hd hk hb
    have hlen := congrArg List.length hd
    rw [List.length_drop, List.length_cons] at hlen
    have hn := nth_bAt (s := s) (i := k) (by omega)
    rw [hd] at hn
    have hbc : bAt (c :: r) = c := rfl
    rw [hbc] at hn
    have hel := escB_len q c
    have ih := ih (k + 1) (b ++ escB q c) (by rw [dd, hd]; rfl) (by omega) (by rw [List.length_append]; omega)
    simp only [escL, ← List.append_assoc]
    rw [← ih]
    clear ih
    simp only [esSt]
    rw [lp_un f39_L0.eq_1]
    unfold escB at hel ⊢
    by_cases g1 : c = 10
    · rw [if_pos g1]
      have g1' := u8y 10 rfl g1
      have w := h24 b [92, 110] (by omega) (by simp)
      clear g1 hel
      simp (disch := first | decide | omega | (simp only [LN]; omega) | (simp only [LN]; done) | fail) only [SV, SW, Nat.reduceBEq, hn, reduceCtorEq, w, Nat.reduceAdd, nc, loseM, Nat.reduceSub, V.forget, V.drop1, V.ref0, lose, cast1]
    · have g1' := u8n 10 rfl g1
      rw [if_neg g1]
      by_cases g2 : c = 9
      · rw [if_pos g2]
        have g2' := u8y 9 rfl g2
        have w := h24 b [92, 116] (by omega) (by simp)
        clear g1 g2 hel
        simp (disch := first | decide | omega | (simp only [LN]; omega) | (simp only [LN]; done) | fail) only [SV, SW, Nat.reduceBEq, hn, reduceCtorEq, w, Nat.reduceAdd, nc, loseM, Nat.reduceSub, V.forget, V.drop1, V.ref0, lose, cast1]
      · have g2' := u8n 9 rfl g2
        rw [if_neg g2]
        have w92 := h22 b 92 (by omega)
        have e92 : ((92 : UInt8).toNat : Int) = 92 := rfl
        rw [e92] at w92
        by_cases g3 : c = 92 ∨ c = q
        · rw [if_pos g3]
          have w2 := h22 (b ++ [92]) c (by rw [List.length_append, List.length_singleton]; omega)
          simp only [bldB, bufB, List.length_append, List.length_cons, List.length_nil, Nat.zero_add, List.append_assoc, List.cons_append, List.nil_append, Nat.reduceAdd] at w2
          have cond : (((c.toNat : Int) == 92) || ((c.toNat : Int) == (q.toNat : Int))) = true := by
            rcases g3 with h | h <;> (subst h; simp)
          by_cases g4 : c = 92
          · have g4' := u8y 92 rfl g4
            clear g1 g2 g3 g4 hel cond
            simp (disch := first | decide | omega | (simp only [LN]; omega) | (simp only [LN]; done) | fail) only [SV, SW, Nat.reduceBEq, hn, reduceCtorEq, w92, Nat.reduceAdd, loseM, Nat.reduceSub, V.forget, V.drop1, V.ref0, lose, w2, cast1]
          · have g4' := u8n 92 rfl g4
            have g5 : ((c.toNat : Int) == (q.toNat : Int)) = true := by
              rcases g3 with h | h
              · exact absurd h g4
              · rw [h]; simp
            clear g1 g2 g3 g4 hel cond
            simp (disch := first | decide | omega | (simp only [LN]; omega) | (simp only [LN]; done) | fail) only [SV, SW, Nat.reduceBEq, hn, g5, reduceCtorEq, w92, Nat.reduceAdd, loseM, Nat.reduceSub, V.forget, V.drop1, V.ref0, lose, w2, cast1]
        · rw [if_neg g3]
          rw [not_or] at g3
          have g4' := u8n 92 rfl g3.1
          have g5 : ((c.toNat : Int) == (q.toNat : Int)) = false := by
            rw [beq_eq_false_iff_ne, ne_eq, u8eq]; exact g3.2
          by_cases g6 : 32 ≤ c.toNat ∧ c.toNat ≤ 126
          · rw [if_pos g6]
            obtain ⟨g6a, g6b⟩ := g6
            have w1 := h22 b c (by omega)
            clear g1 g2 g3 hel
            simp (disch := first | decide | omega | (simp only [LN]; omega) | (simp only [LN]; done) | fail) only [SV, SW, Nat.reduceBEq, hn, g5, reduceCtorEq, w1, Nat.reduceAdd, loseM, Nat.reduceSub, V.forget, V.drop1, V.ref0, lose, cast1]
          · rw [if_neg g6] at hel ⊢
            have hcl := c.toNat_lt
            have hw : IntKind.i64.wrap (c.toNat : Int) = c.toNat := wrap64 (by omega) (by omega)
            have i38 := h38 (1000 + c.toNat) (by omega) (by omega)
            have il := itoa_len c
            generalize Lib.itoa (1000 + c.toNat) = t at i38 il hel ⊢
            have hcut := fun H => cut_sl H t 1 (by omega)
            rw [Int.natCast_one] at hcut
            have w2 := h24 (b ++ [92]) (t.drop 1) (by rw [List.length_append, List.length_singleton]; omega) (by rw [List.length_drop]; omega)
            simp only [bldB, bufB, List.length_append, List.length_cons, List.length_nil, Nat.zero_add, List.append_assoc, List.cons_append, List.nil_append, Nat.reduceAdd] at w2
            clear g1 g2 g3 hel
            by_cases g7 : 32 ≤ c.toNat
            · have g8 : ¬ c.toNat ≤ 126 := fun h => g6 ⟨g7, h⟩
              clear g6
              simp (disch := first | decide | omega | (simp only [LN]; omega) | (simp only [LN]; done) | fail) only [SV, SW, Nat.reduceBEq, hn, g5, reduceCtorEq, w92, Nat.reduceAdd, loseM, Nat.reduceSub, V.forget, V.drop1, V.ref0, lose, evConv, hw, viewD, i38, hcut, w2, cast1]
            · clear g6
              simp (disch := first | decide | omega | (simp only [LN]; omega) | (simp only [LN]; done) | fail) only [SV, SW, Nat.reduceBEq, hn, g5, reduceCtorEq, w92, Nat.reduceAdd, loseM, Nat.reduceSub, V.forget, V.drop1, V.ref0, lose, evConv, hw, viewD, i38, hcut, w2, cast1]

theorem ev_escaped (K : Cx) (h22 : E22 K) (h24 : E24 K) (h26 : E26 K) (h38 : K38 K) (s : BS) (hs : s.length ≤ 2000000) (q : UInt8) (hq : q = 39 ∨ q = 34) :
    runFun K f39 [vS s, .d false (.int .u8 q.toNat)] [] = some (vS (escS s q), [], []) := by
  have hl := es_loop K h22 h24 h38 s hs q s 0 [] rfl (by omega) (by simp)
  simp only [List.nil_append, esSt, List.length_nil, Int.natCast_zero] at hl
  have hel := escL_len q s
  have h26 := h26 (escL q s)
  unfold escS
  generalize escL q s = t at hl hel h26 ⊢
  have u1 : (Utf8.encode 39).data.toList = [39] := by decide +kernel
  have u2 : (Utf8.encode 34).data.toList = [34] := by decide +kernel
  rcases hq with rfl | rfl
  · have e39 : ((39 : UInt8).toNat : Int) = 39 := rfl
    simp only [e39] at hl ⊢
    simp (disch := first | decide | omega | (simp only [LN]; omega) | (simp only [LN]; done) | fail) only [SV, SW, f39, Nat.reduceAdd, Nat.reduceBEq, evMk_bld, reduceCtorEq, hl, e_i2s, evI2s, u1, h26, loseM, Nat.reduceSub, V.forget, V.drop1, V.ref0, lose, oneOr]
  · have e34 : ((34 : UInt8).toNat : Int) = 34 := rfl
    simp only [e34] at hl ⊢
    simp (disch := first | decide | omega | (simp only [LN]; omega) | (simp only [LN]; done) | fail) only [SV, SW, f39, Nat.reduceAdd, Nat.reduceBEq, evMk_bld, reduceCtorEq, hl, e_i2s, evI2s, u2, h26, loseM, Nat.reduceSub, V.forget, V.drop1, V.ref0, lose, oneOr]
end Go.Vm
end

section
namespace Go.Vm
set_option maxRecDepth 20000
/- 'sloth/lex.isToken' -/
def f21 : Fun := ⟨
 (.seq
  (.reg [⟨[(1, .box (.sl 0))], [], [(.bool false)], none, [1], 2, [], [], []⟩])
  (.seq
   (.seq
    (.reg [⟨[], [(8, (.ld 1 false (.fa 0 (.sl 1))))], [], none, [1], 2, [], [], []⟩])
    (.block 0
     (.seq
      (.reg [⟨[], [(9, (.bin .eql (.sl 8) (.int .i64 6)))], [], none, [1, 8], 2, [], [], []⟩])
      (.cond (.sl 9)
       (.seq
        (.reg [⟨[], [(2, (.and (.and (.bin .eql (.ld 1 false (.fa 1 (.sl 1))) (.str [])) (.bin .geq (.ld 1 false (.fa 2 (.sl 1))) (.int .i64 0))) (.bin .leq (.ld 1 false (.fa 2 (.sl 1))) (.int .i64 4611686018427387903))))], [], none, [], 14, [], [], []⟩])
        (.seq
         (.tidy 0 [2])
         .ret))
       (.seq
        (.reg [⟨[], [(24, (.bin .eql (.sl 8) (.int .i64 7)))], [], none, [1, 8], 2, [], [], []⟩])
        (.cond (.sl 24)
         (.seq
          (.reg [⟨[], [(2, (.and (.and (.bin .eql (.ld 1 false (.fa 1 (.sl 1))) (.str [])) (.bin .geq (.ld 1 false (.fa 2 (.sl 1))) (.int .i64 0))) (.bin .leq (.ld 1 false (.fa 2 (.sl 1))) (.int .i64 255))))], [], none, [], 14, [], [], []⟩])
          (.seq
           (.tidy 0 [2])
           .ret))
         (.seq
          (.reg [⟨[], [(39, (.bin .eql (.sl 8) (.int .i64 8)))], [], none, [1], 2, [], [], []⟩])
          (.cond (.sl 39)
           (.seq
            (.reg [⟨[], [(2, (.bin .eql (.ld 1 false (.fa 2 (.sl 1))) (.int .i64 0)))], [], none, [], 4, [], [], []⟩])
            (.seq
             (.tidy 0 [2])
             .ret))
           .skip))))))))
   (.seq
    (.seq
     (.reg [⟨[], [(62, (.or (.or (.bin .neq (.ld 1 false (.fa 2 (.sl 1))) (.int .i64 0)) (.bin .eql (.ld 1 false (.fa 1 (.sl 1))) (.str []))) (.and (.bin .eql (.call 12 (.cons (.ld 1 false (.fa 1 (.sl 1))) (.cons (.int .i64 0) .nil))) (.int .u8 5)) (.call 16 (.cons (.ld 1 false (.fa 1 (.sl 1))) .nil)))))], [], none, [1], 19, [], [], []⟩])
     (.cond (.sl 62)
      (.seq
       (.reg [⟨[], [(2, (.bool false))], [], none, [], 1, [], [], []⟩])
       (.seq
        (.tidy 0 [2])
        .ret))
      .skip))
    (.seq
     (.reg [⟨[], [(3, (.call 12 (.cons (.ld 1 false (.fa 1 (.sl 1))) (.cons (.int .i64 0) .nil))))], [], none, [1], 4, [], [], []⟩])
     (.seq
      (.seq
       (.reg [⟨[], [(81, (.or (.or (.or (.bin .eql (.sl 3) (.int .u8 3)) (.bin .eql (.sl 3) (.int .u8 0))) (.bin .eql (.sl 3) (.int .u8 7))) (.bin .eql (.ix (.ld 1 false (.fa 1 (.sl 1))) (.int .i64 0)) (.int .u8 39))))], [], none, [1], 16, [], [], []⟩])
       (.cond (.sl 81)
        (.seq
         (.reg [⟨[], [(2, (.bool false))], [], none, [], 1, [], [], []⟩])
         (.seq
          (.tidy 0 [2])
          .ret))
        .skip))
      (.seq
       (.reg [⟨[(4, .box (.agg (.cons (.int .i64 0) (.cons (.str []) (.cons (.int .i64 0) (.cons (.int .i64 0) .nil))))))], [(87, (.ext 1 (.call 17 (.cons (.ld 1 false (.fa 1 (.sl 1))) (.cons (.int .i64 0) .nil))))), (88, (.ext 2 (.call 17 (.cons (.ld 1 false (.fa 1 (.sl 1))) (.cons (.int .i64 0) .nil)))))], [], some (none, .store 4 (.sl 4) (.ext 0 (.call 17 (.cons (.ld 1 false (.fa 1 (.sl 1))) (.cons (.int .i64 0) .nil))))), [1, 4], 9, [], [], []⟩, ⟨[], [(5, (.sl 87)), (6, (.sl 88))], [], none, [1, 4], 2, [], [], []⟩])
       (.seq
        (.reg [⟨[], [(2, (.and (.and (.bin .eql (.sl 6) (.int .i64 0)) (.bin .eql (.sl 5) (.len true (.ld 1 false (.fa 1 (.sl 1)))))) (.bin .eql (.ld 1 false (.fa 0 (.sl 4))) (.ld 1 false (.fa 0 (.sl 1))))))], [], none, [], 17, [], [], []⟩])
        (.seq
         (.tidy 0 [2])
         .ret)))))))),
 [(.sl 2)], false⟩
theorem f21_ok : funOk Go.Proofs.Tryz.prog 19 0 1 f21 = true := by kernel_rfl

/- 'sloth/lex.written' -/
def f25 : Fun := ⟨
 (.seq
  (.reg [⟨[(1, .box (.sl 0))], [], [(.str [])], none, [1], 2, [], [], []⟩])
  (.seq
   (.seq
    (.reg [⟨[], [(4, (.ld 1 false (.fa 0 (.sl 1))))], [], none, [1], 2, [], [], []⟩])
    (.block 0
     (.seq
      (.reg [⟨[], [(5, (.bin .eql (.sl 4) (.int .i64 6)))], [], none, [1, 4], 2, [], [], []⟩])
      (.cond (.sl 5)
       (.seq
        (.reg [⟨[], [(2, (.call 49 (.cons (.ld 1 false (.fa 2 (.sl 1))) .nil)))], [], none, [], 4, [], [], []⟩])
        (.seq
         (.tidy 0 [2])
         .ret))
       (.seq
        (.reg [⟨[], [(10, (.bin .eql (.sl 4) (.int .i64 7)))], [], none, [1, 4], 2, [], [], []⟩])
        (.cond (.sl 10)
         (.seq
          (.reg [⟨[(15, .lits 1 (.cons (.conv .u8 (.ld 1 false (.fa 2 (.sl 1)))) .nil))], [], [], none, [15], 4, [], [], []⟩, ⟨[], [(2, (.call 50 (.cons (.b2s (.sl 15)) (.cons (.int .u8 39) .nil))))], [], none, [], 3, [], [], []⟩])
          (.seq
           (.tidy 0 [2])
           .ret))
         (.seq
          (.reg [⟨[], [(18, (.bin .eql (.sl 4) (.int .i64 8)))], [], none, [1], 2, [], [], []⟩])
          (.cond (.sl 18)
           (.seq
            (.reg [⟨[], [(2, (.call 50 (.cons (.ld 1 false (.fa 1 (.sl 1))) (.cons (.int .u8 34) .nil))))], [], none, [], 4, [], [], []⟩])
            (.seq
             (.tidy 0 [2])
             .ret))
           .skip))))))))
   (.seq
    (.reg [⟨[], [(2, (.ld 1 false (.fa 1 (.sl 1))))], [], none, [], 3, [], [], []⟩])
    (.seq
     (.tidy 0 [2])
     .ret)))),
 [(.sl 2)], false⟩
theorem f25_ok : funOk Go.Proofs.Tryz.prog 23 0 1 f25 = true := by kernel_rfl

def K39 (K : Cx) : Prop := ∀ (s : BS) (q : UInt8), s.length ≤ 2000000 → q = 39 ∨ q = 34 → K.call 50 [vS s, .d false (.int .u8 q.toNat)] = some (vS (escS s q), [])
def writS (t : Tok) : BS :=
  if t.kind = 6 then Lib.itoa t.num else if t.kind = 7 then escS [UInt8.ofNat (t.num % 256).toNat] 39 else if t.kind = 8 then escS t.text 34 else t.text
def vT (t : Tok) : V := .agg [vI t.kind, vS t.text, vI t.num, vI t.at_]
structure TokI (t : Tok) : Prop where
  len : t.text.length ≤ 2000000
  num : -9223372036854775808 ≤ t.num ∧ t.num ≤ 9223372036854775807
def K25 (K : Cx) : Prop := ∀ t : Tok, TokI t → K.call 23 [vT t] = some (vS (writS t), [])

def escTokS (t : Tok) : Bool :=
  if t.kind = 6 then decide (t.text = []) && decide (0 ≤ t.num) && decide (t.num ≤ 4611686018427387903)
  else if t.kind = 7 then decide (t.text = []) && decide (0 ≤ t.num) && decide (t.num ≤ 255)
  else if t.kind = 8 then decide (t.num = 0)
  else if t.num ≠ 0 ∨ t.text = [] ∨ (cls t.text = 5 ∧ dsh t.text = true) then false
  else if cls t.text = 3 ∨ cls t.text = 0 ∨ cls t.text = 7 ∨ bAt t.text = 39 then false
  else match tokS t.text with
    | .tok k _ _ n => decide (n = t.text.length) && decide ((k : Int) = t.kind)
    | _ => false
def K21 (K : Cx) : Prop := ∀ t : Tok, TokI t → K.call 19 [vT t] = some (.d false (.bool (escTokS t)), [])

theorem u8mod (n : Int) : IntKind.u8.wrap n = n % 256 := by
  unfold IntKind.wrap
  have e1 : (2 : Int) ^ IntKind.u8.bits = 256 := by decide
  have e2 : IntKind.u8.signed = false := rfl
  simp only [e1, e2, Bool.false_and]
  rw [if_neg (by simp)]

theorem ev_written (K : Cx) (h38 : K38 K) (h39 : K39 K) (t : Tok) (ht : TokI t) : runFun K f25 [vT t] [] = some (vS (writS t), [], []) := by
  obtain ⟨kind, text, num, at_⟩ := t
  obtain ⟨hl, hn⟩ := ht
  unfold vT writS
  simp only at hl hn ⊢
  by_cases g1 : kind = 6
  · subst g1
    rw [if_pos rfl]
    have h := h38 num hn.1 hn.2
    simp (disch := first | decide | omega | (simp only [LN]; omega) | (simp only [LN]; done) | fail) only [SV, SW, f25, Nat.reduceAdd, Nat.reduceBEq, viewD, h, oneOr]
  · rw [if_neg g1]
    by_cases g2 : kind = 7
    · subst g2
      rw [if_pos rfl]
      have hm : 0 ≤ num % 256 ∧ num % 256 < 256 := ⟨Int.emod_nonneg _ (by decide), Int.emod_lt_of_pos _ (by decide)⟩
      have hz : (((UInt8.ofNat (num % 256).toNat).toNat : Nat) : Int) = num % 256 := by
        rw [UInt8.toNat_ofNat']; omega
      have h := h39 [UInt8.ofNat (num % 256).toNat] 39 (by simp) (Or.inl rfl)
      have e39 : ((39 : UInt8).toNat : Int) = 39 := rfl
      rw [e39] at h
      have hb : ∀ z : Int, z = num % 256 → evB2s [(1, .dat true 1 [[.int .u8 z]]), (0, .mix 4 [[vI 7, vS text, vI num, vI at_]])] (.bsl 1 0 1) = some (vS [UInt8.ofNat (num % 256).toNat]) := by
        intro z hz; subst hz; rfl
      have hb := hb _ rfl
      rw [← u8mod] at hb h ⊢
      clear g1
      simp (disch := first | decide | omega | (simp only [LN]; omega) | (simp only [LN]; done) | fail) only [SV, SW, f25, Nat.reduceAdd, Nat.reduceBEq, evConv, e_b2s, hb, viewD, h, oneOr]
    · rw [if_neg g2]
      by_cases g3 : kind = 8
      · subst g3
        rw [if_pos rfl]
        have h := h39 text 34 hl (Or.inr rfl)
        have e34 : ((34 : UInt8).toNat : Int) = 34 := rfl
        rw [e34] at h
        simp (disch := first | decide | omega | (simp only [LN]; omega) | (simp only [LN]; done) | fail) only [SV, SW, f25, Nat.reduceAdd, Nat.reduceBEq, viewD, h, oneOr]
      · rw [if_neg g3]
        simp (disch := first | decide | omega | (simp only [LN]; omega) | (simp only [LN]; done) | fail) only [SV, SW, f25, Nat.reduceAdd, Nat.reduceBEq, oneOr]

theorem ev_isToken (K : Cx) (h27 : K27 K) (h31 : K31 K) (h32 : K32 K) (t : Tok) (ht : TokI t) : runFun K f21 [vT t] [] = some (.d false (.bool (escTokS t)), [], []) := by
  obtain ⟨kind, text, num, at_⟩ := t
  obtain ⟨hl, hn⟩ := ht
  unfold vT escTokS
  simp only at hl hn ⊢
  by_cases g1 : kind = 6
  · subst g1
    rw [if_pos rfl]
    by_cases g2 : text = []
    · subst g2
      have e : (([] : BS) = []) = True := eq_true rfl
      by_cases g3 : 0 ≤ num
      · by_cases g4 : num ≤ 4611686018427387903
        · simp (disch := first | decide | omega | (simp only [LN]; omega) | (simp only [LN]; done) | fail) only [SV, SW, f21, Nat.reduceAdd, Nat.reduceBEq, oneOr]
        · simp (disch := first | decide | omega | (simp only [LN]; omega) | (simp only [LN]; done) | fail) only [SV, SW, f21, Nat.reduceAdd, Nat.reduceBEq, oneOr]
      · simp (disch := first | decide | omega | (simp only [LN]; omega) | (simp only [LN]; done) | fail) only [SV, SW, f21, Nat.reduceAdd, Nat.reduceBEq, oneOr]
    · have e : (text = []) = False := eq_false g2
      clear g2
      simp (disch := first | decide | omega | (simp only [LN]; omega) | (simp only [LN]; done) | fail) only [SV, SW, f21, Nat.reduceAdd, Nat.reduceBEq, e, oneOr]
  · rw [if_neg g1]
    by_cases g2 : kind = 7
    · subst g2
      rw [if_pos rfl]
      by_cases g2 : text = []
      · subst g2
        have e : (([] : BS) = []) = True := eq_true rfl
        by_cases g3 : 0 ≤ num
        · by_cases g4 : num ≤ 255
          · simp (disch := first | decide | omega | (simp only [LN]; omega) | (simp only [LN]; done) | fail) only [SV, SW, f21, Nat.reduceAdd, Nat.reduceBEq, oneOr]
          · simp (disch := first | decide | omega | (simp only [LN]; omega) | (simp only [LN]; done) | fail) only [SV, SW, f21, Nat.reduceAdd, Nat.reduceBEq, oneOr]
        · simp (disch := first | decide | omega | (simp only [LN]; omega) | (simp only [LN]; done) | fail) only [SV, SW, f21, Nat.reduceAdd, Nat.reduceBEq, oneOr]
      · have e : (text = []) = False := eq_false g2
        clear g2
        simp (disch := first | decide | omega | (simp only [LN]; omega) | (simp only [LN]; done) | fail) only [SV, SW, f21, Nat.reduceAdd, Nat.reduceBEq, e, oneOr]
    · rw [if_neg g2]
      by_cases g3 : kind = 8
      · subst g3
        rw [if_pos rfl]
        by_cases g4 : num = 0
        · subst g4; simp (disch := first | decide | omega | (simp only [LN]; omega) | (simp only [LN]; done) | fail) only [SV, SW, f21, Nat.reduceAdd, Nat.reduceBEq, oneOr]
        · have e : (num == 0) = false := by simpa using g4
          have e' : decide (num = 0) = false := by simpa using g4
          rw [e']
          simp (disch := first | decide | omega | (simp only [LN]; omega) | (simp only [LN]; done) | fail) only [SV, SW, f21, Nat.reduceAdd, Nat.reduceBEq, e, oneOr]
      · rw [if_neg g3]
        have no : ∀ (b : Bool), b = false → runFun K f21 [.agg [vI kind, vS text, vI num, vI at_]] [] = some (.d false (.bool b), [], []) → runFun K f21 [.agg [vI kind, vS text, vI num, vI at_]] [] = some (.d false (.bool false), [], []) := fun b hb h => by rw [hb] at h; exact h
        clear no
        by_cases g4 : num = 0
        · subst g4
          by_cases g5 : text = []
          · subst g5
            have e : (([] : BS) = []) = True := eq_true rfl
            rw [if_pos (Or.inr (Or.inl rfl))]
            simp (disch := first | decide | omega | (simp only [LN]; omega) | (simp only [LN]; done) | fail) only [SV, SW, f21, Nat.reduceAdd, Nat.reduceBEq, viewD, oneOr]
          · have e : (text = []) = False := eq_false g5
            have hpos : 0 < text.length := by cases text with | nil => exact absurd rfl g5 | cons a b => simp
            have c0 := h27 text 0 (by omega)
            have d0 := h31 text hl
            have t0 := h32 text 0 hpos hl
            have hb := nth_bAt (s := text) (i := 0) hpos
            rw [List.drop_zero] at c0 t0 hb
            rw [Int.natCast_zero] at c0 t0 hb
            by_cases g6 : cls text = 5
            · rw [g6] at c0
              cases g7 : dsh text with
              | true =>
                rw [if_pos (Or.inr (Or.inr ⟨g6, rfl⟩))]
                rw [g7] at d0
                clear g5 g6
                simp (disch := first | decide | omega | (simp only [LN]; omega) | (simp only [LN]; done) | fail) only [SV, SW, f21, Nat.reduceAdd, Nat.reduceBEq, e, viewD, c0, nc, d0, oneOr]
              | false =>
                rw [if_neg (by rintro (h | h | h); exact h rfl; exact g5 h; exact absurd h.2 (by simp))]
                rw [g7] at d0
                by_cases g8 : bAt text = 39
                · exfalso
                  cases text with
                  | nil => exact g5 rfl
                  | cons a r =>
                    have : a = 39 := g8
                    subst this
                    have : clB 39 = 5 := g6
                    exact absurd this (by decide)
                · have g8' := u8n 39 rfl g8
                  rw [if_neg (by rintro (h | h | h | h); omega; omega; omega; exact g8 h)]
                  have hns := tokS_ns text
                  have htb := fun e => tokS_bad (r := text) (e := e)
                  cases hz : tokS text with
                  | skip k => exact absurd hz (hns k)
                  | bad k =>
                    have hk := htb k hz
                    rw [hz, stV_bad] at t0
                    clear g5 g6 g8 hns htb
                    have : ¬ ((k : Int) = 0) := by omega
                    simp (disch := first | decide | omega | (simp only [LN]; omega) | (simp only [LN]; done) | fail) only [SV, SW, f21, Nat.reduceAdd, Nat.reduceBEq, e, viewD, c0, nc, d0, hb, t0, lose, oneOr]
                  | tok k tx m n =>
                    rw [hz, stV_tok] at t0
                    simp only [Nat.zero_add] at t0 ⊢
                    clear g5 g6 g8 hns htb
                    by_cases w1 : n = text.length
                    · subst w1
                      by_cases w2 : (k : Int) = kind
                      · subst w2
                        simp (disch := first | decide | omega | (simp only [LN]; omega) | (simp only [LN]; done) | fail) only [SV, SW, f21, Nat.reduceAdd, Nat.reduceBEq, e, viewD, c0, nc, d0, hb, t0, lose, oneOr]
                      · have w2' : (((k : Int)) == kind) = false := by simpa using w2
                        have w2'' : decide (((k : Int)) = kind) = false := by simpa using w2
                        rw [w2'']
                        clear w2
                        simp (disch := first | decide | omega | (simp only [LN]; omega) | (simp only [LN]; done) | fail) only [SV, SW, f21, Nat.reduceAdd, Nat.reduceBEq, e, viewD, c0, nc, d0, hb, t0, lose, w2', oneOr]
                    · have w1' : (((n : Int)) == (text.length : Int)) = false := by simp; omega
                      have w1'' : decide (n = text.length) = false := by simpa using w1
                      rw [w1'']
                      clear w1
                      simp (disch := first | decide | omega | (simp only [LN]; omega) | (simp only [LN]; done) | fail) only [SV, SW, f21, Nat.reduceAdd, Nat.reduceBEq, e, viewD, c0, nc, d0, hb, t0, lose, w1', oneOr]
            · have g6' : ¬ ((cls text : Int) = 5) := by omega
              rw [if_neg (by rintro (h | h | h); exact h rfl; exact g5 h; exact g6 h.1)]
              by_cases g7 : cls text = 3
              · rw [if_pos (Or.inl g7)]
                rw [g7] at c0
                clear g5 g6
                simp (disch := first | decide | omega | (simp only [LN]; omega) | (simp only [LN]; done) | fail) only [SV, SW, f21, Nat.reduceAdd, Nat.reduceBEq, e, viewD, c0, nc, hb, oneOr]
              · by_cases g8 : cls text = 0
                · rw [if_pos (Or.inr (Or.inl g8))]
                  rw [g8] at c0
                  clear g5 g6
                  simp (disch := first | decide | omega | (simp only [LN]; omega) | (simp only [LN]; done) | fail) only [SV, SW, f21, Nat.reduceAdd, Nat.reduceBEq, e, viewD, c0, nc, hb, oneOr]
                · by_cases g9 : cls text = 7
                  · rw [if_pos (Or.inr (Or.inr (Or.inl g9)))]
                    rw [g9] at c0
                    clear g5 g6
                    simp (disch := first | decide | omega | (simp only [LN]; omega) | (simp only [LN]; done) | fail) only [SV, SW, f21, Nat.reduceAdd, Nat.reduceBEq, e, viewD, c0, nc, hb, oneOr]
                  · have g7' : ¬ ((cls text : Int) = 3) := by omega
                    have g8' : ¬ ((cls text : Int) = 0) := by omega
                    have g9' : ¬ ((cls text : Int) = 7) := by omega
                    by_cases gA : bAt text = 39
                    · rw [if_pos (Or.inr (Or.inr (Or.inr gA)))]
                      have gA' := u8y 39 rfl gA
                      clear g5 g6 gA
                      simp (disch := first | decide | omega | (simp only [LN]; omega) | (simp only [LN]; done) | fail) only [SV, SW, f21, Nat.reduceAdd, Nat.reduceBEq, e, viewD, c0, hb, oneOr]
                    · have gA' := u8n 39 rfl gA
                      rw [if_neg (by rintro (h | h | h | h); exact g7 h; exact g8 h; exact g9 h; exact gA h)]
                      have hns := tokS_ns text
                      have htb := fun e => tokS_bad (r := text) (e := e)
                      cases hz : tokS text with
                      | skip k => exact absurd hz (hns k)
                      | bad k =>
                        have hk := htb k hz
                        rw [hz, stV_bad] at t0
                        clear g5 g6 g7 g8 g9 gA hns htb
                        have : ¬ ((k : Int) = 0) := by omega
                        simp (disch := first | decide | omega | (simp only [LN]; omega) | (simp only [LN]; done) | fail) only [SV, SW, f21, Nat.reduceAdd, Nat.reduceBEq, e, viewD, c0, d0, hb, t0, lose, oneOr]
                      | tok k tx m n =>
                        rw [hz, stV_tok] at t0
                        simp only [Nat.zero_add] at t0 ⊢
                        clear g5 g6 g7 g8 g9 gA hns htb
                        by_cases w1 : n = text.length
                        · subst w1
                          by_cases w2 : (k : Int) = kind
                          · subst w2
                            simp (disch := first | decide | omega | (simp only [LN]; omega) | (simp only [LN]; done) | fail) only [SV, SW, f21, Nat.reduceAdd, Nat.reduceBEq, e, viewD, c0, d0, hb, t0, nc, lose, oneOr]
                          · have w2' : (((k : Int)) == kind) = false := by simpa using w2
                            have w2'' : decide (((k : Int)) = kind) = false := by simpa using w2
                            rw [w2'']
                            clear w2
                            simp (disch := first | decide | omega | (simp only [LN]; omega) | (simp only [LN]; done) | fail) only [SV, SW, f21, Nat.reduceAdd, Nat.reduceBEq, e, viewD, c0, d0, hb, t0, nc, lose, w2', oneOr]
                        · have w1' : (((n : Int)) == (text.length : Int)) = false := by simp; omega
                          have w1'' : decide (n = text.length) = false := by simpa using w1
                          rw [w1'']
                          clear w1
                          simp (disch := first | decide | omega | (simp only [LN]; omega) | (simp only [LN]; done) | fail) only [SV, SW, f21, Nat.reduceAdd, Nat.reduceBEq, e, viewD, c0, d0, hb, t0, nc, lose, w1', oneOr]
        · rw [if_pos (Or.inl g4)]
          have e : (num != 0) = true := by simpa using g4
          clear g4
          simp (disch := first | decide | omega | (simp only [LN]; omega) | (simp only [LN]; done) | fail) only [SV, SW, f21, Nat.reduceAdd, Nat.reduceBEq, e, viewD, oneOr]
end Go.Vm
end

section
namespace Go.Vm
set_option maxRecDepth 20000
/- 'sloth/lex.Print' -/
def f11_L0 : C :=
 (.seq
  (.reg [⟨[], [(15, (.bin .lss (.sl 14) (.sl 13)))], [], none, [0, 12, 13, 14], 1, [], [], []⟩])
  (.seq
   (.cond (.sl 15)
    .skip
    (.seq
     (.tidy 0 [0])
     (.exit 0)))
   (.seq
    (.block 1
     (.seq
      (.reg [⟨[(5, .box (.agg (.cons (.int .i64 0) (.cons (.str []) (.cons (.int .i64 0) (.cons (.int .i64 0) .nil))))))], [], [], some (none, .store 4 (.sl 5) (.ld 4 true (.ia 4 (.sl 12) (.sl 14)))), [0, 5, 12, 13, 14], 4, [], [], []⟩])
      (.seq
       (.reg [⟨[], [(20, (.un .not (.call 19 (.cons (.ld 4 true (.sl 5)) .nil))))], [], none, [0, 12, 13, 14], 3, [], [], []⟩])
       (.cond (.sl 20)
        (.seq
         (.reg [⟨[], [(2, (.str [])), (3, (.int .i64 1))], [], none, [], 2, [], [], []⟩])
         (.seq
          (.tidy 0 [2, 3])
          .ret))
        .skip))))
    (.reg [⟨[], [(14, (.bin .add (.sl 14) (.int .i64 1)))], [], none, [0, 12, 13], 2, [], [], []⟩]))))
def f11_L1 : C :=
 (.seq
  (.reg [⟨[], [(25, (.bin .lss (.sl 24) (.sl 23)))], [], none, [6, 22, 23, 24], 1, [], [], []⟩])
  (.seq
   (.cond (.sl 25)
    .skip
    (.seq
     (.tidy 0 [6])
     (.exit 2)))
   (.seq
    (.block 3
     (.seq
      (.reg [⟨[(8, .box (.agg (.cons (.int .i64 0) (.cons (.str []) (.cons (.int .i64 0) (.cons (.int .i64 0) .nil))))))], [(7, (.sl 24))], [], some (none, .store 4 (.sl 8) (.ld 4 true (.ia 4 (.sl 22) (.sl 24)))), [6, 8, 22, 23, 24], 6, [], [], []⟩])
      (.seq
       (.seq
        (.reg [⟨[], [(30, (.bin .gtr (.sl 7) (.int .i64 0)))], [], none, [6, 8, 22, 23, 24], 2, [], [], []⟩])
        (.cond (.sl 30)
         (.reg [⟨[], [], [], some (some 31, .calle 20 (.cons (.sl 6) (.cons (.int .u8 32) .nil))), [6, 8, 22, 23, 24], 1, [], [], []⟩])
         .skip))
       (.seq
        (.reg [⟨[], [], [], some (some 32, .calle 21 (.cons (.sl 6) .nil)), [6, 8, 22, 23, 24], 1, [], [], []⟩, ⟨[], [(33, (.bin .leq (.sl 32) (.int .i64 65536)))], [], none, [6, 8, 22, 23, 24], 1, [], [], []⟩])
        (.cond (.sl 33)
         (.reg [⟨[], [], [], some (some 36, .calle 22 (.cons (.sl 6) (.cons (.call 23 (.cons (.ld 4 true (.sl 8)) .nil)) .nil))), [6, 22, 23, 24], 3, [], [], []⟩])
         .skip)))))
    (.reg [⟨[], [(24, (.bin .add (.sl 24) (.int .i64 1)))], [], none, [6, 22, 23], 2, [], [], []⟩]))))
def f11 : Fun := ⟨
 (.seq
  (.reg [⟨[], [], [(.int .i64 0), (.str [])], none, [0], 2, [], [], []⟩])
  (.seq
   (.seq
    (.reg [⟨[], [(11, (.bin .gtr (.len false (.sl 0)) (.int .i64 20000)))], [], none, [0], 3, [], [], []⟩])
    (.cond (.sl 11)
     (.seq
      (.reg [⟨[], [(2, (.str [])), (3, (.int .i64 2))], [], none, [], 2, [], [], []⟩])
      (.seq
       (.tidy 0 [2, 3])
       .ret))
     .skip))
   (.seq
    (.seq
     (.reg [⟨[], [(12, (.sl 0)), (13, (.len false (.sl 0))), (14, (.int .i64 0))], [], none, [0], 3, [], [], []⟩])
     (.block 0
      (.seq (.tidy 0 [0, 12, 13, 14]) (.loop (.seq (.tidy 0 [0, 12, 13, 14]) f11_L0)))))
    (.seq
     (.reg [⟨[(6, .bld 58 5)], [], [], none, [0, 6], 1, [], [], []⟩])
     (.seq
      (.seq
       (.reg [⟨[], [(22, (.sl 0)), (23, (.len false (.sl 0))), (24, (.int .i64 0))], [], none, [6], 3, [], [], []⟩])
       (.block 2
        (.seq (.tidy 0 [6, 22, 23, 24]) (.loop (.seq (.tidy 0 [6, 22, 23, 24]) f11_L1)))))
      (.seq
       (.seq
        (.reg [⟨[], [], [], some (some 38, .calle 21 (.cons (.sl 6) .nil)), [6], 1, [], [], []⟩, ⟨[], [(39, (.bin .gtr (.sl 38) (.int .i64 65536)))], [], none, [6], 1, [], [], []⟩])
        (.cond (.sl 39)
         (.seq
          (.reg [⟨[], [(2, (.str [])), (3, (.int .i64 4))], [], none, [], 2, [], [], []⟩])
          (.seq
           (.tidy 0 [2, 3])
           .ret))
         .skip))
       (.seq
        (.reg [⟨[], [], [], some (some 40, .calle 24 (.cons (.sl 6) .nil)), [], 1, [], [], []⟩, ⟨[], [(2, (.sl 40)), (3, (.int .i64 0))], [], none, [], 2, [], [], []⟩])
        (.seq
         (.tidy 0 [2, 3])
         .ret)))))))),
 [(.sl 2), (.sl 3)], false⟩
theorem f11_ok : funOk Go.Proofs.Tryz.prog 10 0 1 f11 = true := by kernel_rfl

instance : Inhabited Tok := ⟨⟨0, [], 0, 0⟩⟩
def prL : BS → Nat → List Tok → BS
  | b, _, [] => b
  | b, i, t :: l =>
    if (if 0 < i then b ++ [32] else b).length ≤ 65536 then prL ((if 0 < i then b ++ [32] else b) ++ writS t) (i + 1) l
    else prL (if 0 < i then b ++ [32] else b) (i + 1) l
def printS (l : List Tok) : BS × Int :=
  if 20000 < l.length then ([], 2)
  else if l.all escTokS then (if 65536 < (prL [] 0 l).length then ([], 4) else (prL [] 0 l, 0))
  else ([], 1)

theorem decDigits_le : ∀ (k u : Nat), u < 10 ^ (k + 1) → (Lib.decDigits u).length ≤ k + 1
  | 0, u, h => by rw [Lib.decDigits, dif_pos (by simpa using h)]; simp
  | k + 1, u, h => by
    rw [Lib.decDigits]
    by_cases g : u < 10
    · rw [dif_pos g]; simp
    · rw [dif_neg g]
      have := decDigits_le k (u / 10) (by rw [Nat.pow_succ] at h; omega)
      simp only [List.length_append, List.length_singleton]
      omega
theorem itoa_le (n : Int) (h : -9223372036854775808 ≤ n ∧ n ≤ 9223372036854775807) : (Lib.itoa n).length ≤ 21 := by
  unfold Lib.itoa
  split
  · have := decDigits_le 19 n.natAbs (by omega)
    simp only [List.length_cons]; omega
  · have := decDigits_le 19 n.toNat (by omega)
    omega
theorem escS_len (s : BS) (q : UInt8) : (escS s q).length ≤ 4 * s.length + 2 := by
  have := escL_len q s
  simp only [escS, List.length_cons, List.length_append, List.length_nil]
  omega
theorem writS_len {t : Tok} (h : TokI t) : (writS t).length ≤ 8000002 := by
  unfold writS
  have h1 := h.len
  split
  · have := itoa_le t.num h.num; omega
  · split
    · have := escS_len [UInt8.ofNat (t.num % 256).toNat] 39
      simp only [List.length_singleton] at this; omega
    · split
      · have := escS_len t.text 34; omega
      · omega

def TokL (l : List Tok) : Prop := l.length ≤ 4611686018427387903 ∧ ∀ t ∈ l, TokI t
theorem nthT {l : List Tok} {k : Nat} {t : Tok} {r : List Tok} (h : l.drop k = t :: r) : k < l.length ∧ nth l (k : Int) = t ∧ l.drop (k + 1) = r ∧ t ∈ l := by
  have hl : k < l.length := by
    apply Classical.byContradiction
    intro hc
    rw [List.drop_eq_nil_of_le (by omega)] at h
    cases h
  have h2 := List.drop_eq_getElem_cons hl
  rw [h] at h2
  injection h2 with h3 h4
  refine ⟨hl, ?_, h4.symm, ?_⟩
  · simp [nth, hl, h3]
  · rw [h3]; exact List.getElem_mem _

theorem pr_check (K : Cx) (h21 : K21 K) (l : List Tok) (hl : TokL l) : ∀ (r : List Tok) (k : Nat), l.drop k = r → k ≤ l.length →
    lp K 0 [0, 12, 13, 14] f11_L0 ⟨[(0, .d false (.sl 4 (l.map eTok))), (12, .d false (.sl 4 (l.map eTok))), (13, vI l.length), (14, vI k)], [], 0, []⟩ =
      some (if r.all escTokS then (.exit 0, ⟨[(0, .d false (.sl 4 (l.map eTok)))], [], 0, []⟩) else (.ret, ⟨[(2, vS []), (3, vI 1)], [], 0, []⟩)) := by
  have hlen := hl.1
  intro r
  induction r with
  | nil =>
    intro k hd hk
    have hx := congrArg List.length hd
    rw [List.length_drop, List.length_nil] at hx
    rw [List.all_nil, if_pos rfl, lp_un f11_L0.eq_1]
    simp (disch := first | decide | omega | (simp only [LN]; omega) | (simp only [LN]; done) | fail) only [SV, SW, Nat.reduceBEq]
  | cons t r ih =>
    intro k hd hk
    obtain ⟨n1, n2, n3, n4⟩ := nthT hd
    have h := h21 t (hl.2 t n4)
    have ih := ih (k + 1) n3 (by omega)
    rw [lp_un f11_L0.eq_1]
    unfold vT at h
    cases g : escTokS t with
    | true =>
      rw [g] at h
      rw [List.all_cons, g, Bool.true_and, ← ih]
      clear ih
      simp (disch := first | decide | omega | (simp only [LN]; omega) | (simp only [LN]; done) | fail) only [SV, SW, Nat.reduceBEq, Nat.reduceAdd, eTok, n2, lose, viewD, h, cast1]
    | false =>
      rw [g] at h
      rw [List.all_cons, g, Bool.false_and, if_neg (by simp)]
      clear ih
      simp (disch := first | decide | omega | (simp only [LN]; omega) | (simp only [LN]; done) | fail) only [SV, SW, Nat.reduceBEq, Nat.reduceAdd, eTok, n2, lose, viewD, h]

theorem pr_write (K : Cx) (h22 : E22 K) (h23 : E23 K) (h24 : E24 K) (h25 : K25 K) (l : List Tok) (hl : TokL l) (hll : l.length ≤ 20000) : ∀ (r : List Tok) (k : Nat) (b : BS), l.drop k = r → k ≤ l.length → b.length ≤ 8100000 + k →
    lp K 0 [6, 22, 23, 24] f11_L1 ⟨[(6, .ptr 0 0 0), (22, .d false (.sl 4 (l.map eTok))), (23, vI l.length), (24, vI k)], [(0, .map [(.nils 58, .bsl 1 0 b.length)]), (1, .map [(.emps 5, .d false .nilp), (.str b, .d false .nilp)])], 2, []⟩ =
      some (.exit 2, ⟨[(6, .ptr 0 0 0)], [(0, .map [(.nils 58, .bsl 1 0 (prL b k r).length)]), (1, .map [(.emps 5, .d false .nilp), (.str (prL b k r), .d false .nilp)])], 2, []⟩) := by
  have hlen := hl.1
  intro r
  induction r with
  | nil =>
    intro k b hd hk hb
    have hx := congrArg List.length hd
    rw [List.length_drop, List.length_nil] at hx
    simp only [prL]
    rw [lp_un f11_L1.eq_1]
    simp (disch := first | decide | omega | (simp only [LN]; omega) | (simp only [LN]; done) | fail) only [SV, SW, Nat.reduceBEq, reduceCtorEq, Nat.reduceAdd]
  | cons t r ih =>
    intro k b hd hk hb
    obtain ⟨n1, n2, n3, n4⟩ := nthT hd
    have h := h25 t (hl.2 t n4)
    have hw := writS_len (hl.2 t n4)
    rw [lp_un f11_L1.eq_1]
    unfold vT at h
    simp only [prL]
    generalize writS t = x at h hw ⊢
    have w1 := h22 b 32 (by omega)
    have e32 : ((32 : UInt8).toNat : Int) = 32 := rfl
    rw [e32] at w1
    simp only [bldB, bufB, List.length_append, List.length_cons, List.length_nil, Nat.zero_add, List.append_assoc, List.cons_append, List.nil_append, Nat.reduceAdd] at w1
    by_cases g1 : 0 < k
    · rw [if_pos g1]
      have w2 := h23 (b ++ [32])
      have w3 := h24 (b ++ [32]) x (by rw [List.length_append, List.length_singleton]; omega) (by omega)
      simp only [bldB, bufB, List.length_append, List.length_cons, List.length_nil, Nat.zero_add, List.append_assoc, List.cons_append, List.nil_append, Nat.reduceAdd] at w2 w3
      have g1' : (0 : Int) < k := by omega
      by_cases g2 : (b ++ [32]).length ≤ 65536
      · rw [if_pos g2]
        rw [List.length_append, List.length_singleton] at g2
        have ih := ih (k + 1) ((b ++ [32]) ++ x) n3 (by omega) (by simp only [List.length_append, List.length_singleton]; omega)
        rw [← ih]
        clear ih
        simp (disch := first | decide | omega | (simp only [LN]; omega) | (simp only [LN]; done) | fail) only [SV, SW, Nat.reduceBEq, Nat.reduceAdd, eTok, n2, lose, reduceCtorEq, w1, loseM, Nat.reduceSub, V.forget, V.drop1, V.ref0, Nat.reduceEqDiff, w2, viewD, h, w3, cast1, List.append_assoc]
      · rw [if_neg g2]
        rw [List.length_append, List.length_singleton] at g2
        have ih := ih (k + 1) (b ++ [32]) n3 (by omega) (by simp only [List.length_append, List.length_singleton]; omega)
        rw [← ih]
        clear ih
        simp (disch := first | decide | omega | (simp only [LN]; omega) | (simp only [LN]; done) | fail) only [SV, SW, Nat.reduceBEq, Nat.reduceAdd, eTok, n2, lose, reduceCtorEq, w1, loseM, Nat.reduceSub, V.forget, V.drop1, V.ref0, Nat.reduceEqDiff, w2, cast1]
    · rw [if_neg g1]
      have w2 := h23 b
      have w3 := h24 b x (by omega) (by omega)
      simp only [bldB, bufB, List.length_append] at w2 w3
      have g1' : ¬ (0 : Int) < k := by omega
      by_cases g2 : b.length ≤ 65536
      · rw [if_pos g2]
        have ih := ih (k + 1) (b ++ x) n3 (by omega) (by simp only [List.length_append]; omega)
        rw [← ih]
        clear ih
        simp (disch := first | decide | omega | (simp only [LN]; omega) | (simp only [LN]; done) | fail) only [SV, SW, Nat.reduceBEq, Nat.reduceAdd, eTok, n2, lose, reduceCtorEq, w2, loseM, Nat.reduceSub, viewD, h, w3, V.forget, V.drop1, V.ref0, cast1]
      · rw [if_neg g2]
        have ih := ih (k + 1) b n3 (by omega) (by omega)
        rw [← ih]
        clear ih
        simp (disch := first | decide | omega | (simp only [LN]; omega) | (simp only [LN]; done) | fail) only [SV, SW, Nat.reduceBEq, Nat.reduceAdd, eTok, n2, lose, reduceCtorEq, w2, loseM, Nat.reduceSub, cast1]

def printV (l : List Tok) : V := .tup [vS (printS l).1, vI (printS l).2]
theorem ev_Print (K : Cx) (h21 : K21 K) (h22 : E22 K) (h23 : E23 K) (h24 : E24 K) (h25 : K25 K) (h26 : E26 K) (l : List Tok) (hl : TokL l) :
    runFun K f11 [.d false (.sl 4 (l.map eTok))] [] = some (printV l, [], []) := by
  have hlen := hl.1
  unfold printV printS
  by_cases g1 : 20000 < l.length
  · rw [if_pos g1]
    simp (disch := first | decide | omega | (simp only [LN]; omega) | (simp only [LN]; done) | fail) only [SV, SW, f11, Nat.reduceBEq, oneOr]
  · rw [if_neg g1]
    have c := pr_check K h21 l hl l 0 rfl (by omega)
    rw [Int.natCast_zero] at c
    cases g2 : l.all escTokS with
    | false =>
      rw [g2, if_neg (by simp)] at c
      rw [if_neg (by simp)]
      simp (disch := first | decide | omega | (simp only [LN]; omega) | (simp only [LN]; done) | fail) only [SV, SW, f11, Nat.reduceBEq, c, oneOr]
    | true =>
      rw [g2, if_pos rfl] at c
      rw [if_pos rfl]
      have w := pr_write K h22 h23 h24 h25 l hl (by omega) l 0 [] rfl (by omega) (by simp)
      rw [Int.natCast_zero, List.length_nil] at w
      have hlb := h23 (prL [] 0 l)
      have hsb := h26 (prL [] 0 l)
      simp only [bldB, bufB] at hlb hsb
      have hb : ∀ (r : List Tok) (k : Nat) (b : BS), (∀ t ∈ r, TokI t) → b.length ≤ 8100000 + k → (prL b k r).length ≤ 8100000 + k + r.length := by
        intro r
        induction r with
        | nil => intro k b _ hb; simpa [prL] using hb
        | cons t r ih =>
          intro k b ht hb
          have hw := writS_len (ht t (by simp))
          have ht' := fun u hu => ht u (List.mem_cons_of_mem _ hu)
          have hbb : (if 0 < k then b ++ [32] else b).length ≤ b.length + 1 := by split <;> simp
          simp only [prL, List.length_cons]
          generalize (if 0 < k then b ++ [32] else b) = b1 at hbb ⊢
          by_cases h : b1.length ≤ 65536
          · rw [if_pos h]
            have := ih (k + 1) (b1 ++ writS t) ht' (by rw [List.length_append]; omega)
            omega
          · rw [if_neg h]
            have := ih (k + 1) b1 ht' (by omega)
            omega
      have hbb := hb l 0 [] hl.2 (by simp)
      generalize prL [] 0 l = b at w hlb hsb hbb ⊢
      clear hb
      by_cases g3 : 65536 < b.length
      · rw [if_pos g3]
        simp (disch := first | decide | omega | (simp only [LN]; omega) | (simp only [LN]; done) | fail) only [SV, SW, f11, Nat.reduceBEq, c, evMk_bld, Nat.reduceAdd, reduceCtorEq, w, hlb, loseM, Nat.reduceSub, lose, oneOr]
      · rw [if_neg g3]
        simp (disch := first | decide | omega | (simp only [LN]; omega) | (simp only [LN]; done) | fail) only [SV, SW, f11, Nat.reduceBEq, c, evMk_bld, Nat.reduceAdd, reduceCtorEq, w, hlb, loseM, Nat.reduceSub, lose, hsb, V.forget, V.drop1, V.ref0, oneOr]
end Go.Vm
end

section
namespace Go.Vm
set_option maxRecDepth 20000
/- 'sloth/slothlaw01.same' -/
def f12_L0 : C :=
 (.seq
  (.seq
   (.reg [⟨[], [(14, (.bin .lss (.sl 5) (.len false (.sl 0))))], [], none, [0, 1, 5], 4, [], [], []⟩])
   (.cond (.sl 14)
    .skip
    (.seq
     (.tidy 0 [])
     (.exit 0))))
  (.seq
   (.block 1
    (.seq
     (.reg [⟨[], [(25, (.eqs true true [0, 2, 0, 0] (.ld 4 true (.ia 4 (.sl 0) (.sl 5))) (.ld 4 true (.ia 4 (.sl 1) (.sl 5)))))], [], none, [0, 1, 5], 9, [[], [], [1, 0], [0, 1, 2], [], [], [5, 4], [4, 5, 6], [6, 5, 4, 7, 2, 1, 0, 3]], [], []⟩])
     (.cond (.sl 25)
      (.seq
       (.reg [⟨[], [(4, (.bool false))], [], none, [], 1, [], [], []⟩])
       (.seq
        (.tidy 0 [4])
        .ret))
      .skip)))
   (.reg [⟨[], [(5, (.bin .add (.sl 5) (.int .i64 1)))], [], none, [0, 1], 3, [], [], []⟩])))
def f12 : Fun := ⟨
 (.seq
  (.reg [⟨[], [], [(.bool false)], none, [0, 1], 1, [], [], []⟩])
  (.seq
   (.seq
    (.reg [⟨[], [(10, (.bin .neq (.len false (.sl 0)) (.len false (.sl 1))))], [], none, [0, 1], 5, [], [], []⟩])
    (.cond (.sl 10)
     (.seq
      (.reg [⟨[], [(4, (.bool false))], [], none, [], 1, [], [], []⟩])
      (.seq
       (.tidy 0 [4])
       .ret))
     .skip))
   (.seq
    (.seq
     (.reg [⟨[], [(5, (.int .i64 0))], [], none, [0, 1], 1, [], [], []⟩])
     (.block 0
      (.seq (.tidy 0 [0, 1, 5]) (.loop (.seq (.tidy 0 [0, 1, 5]) f12_L0)))))
    (.seq
     (.reg [⟨[], [(4, (.bool true))], [], none, [], 1, [], [], []⟩])
     (.seq
      (.tidy 0 [4])
      .ret))))),
 [(.sl 4)], false⟩
theorem f12_ok : funOk Go.Proofs.Tryz.prog 8 0 2 f12 = true := by kernel_rfl

abbrev slT (l : List Tok) : V := .d false (.sl 4 (l.map eTok))
def K12 (K : Cx) : Prop := ∀ a b : List Tok, a.length ≤ 4611686018427387903 → b.length ≤ 4611686018427387903 → K.call 8 [slT a, slT b] = some (.d false (.bool (decide (a = b))), [])
def likeT (t u : Tok) : Bool := t.kind == u.kind && decide (t.text = u.text) && t.num == u.num
def likeL : List Tok → List Tok → Bool
  | [], [] => true
  | t :: l, u :: m => likeT t u && likeL l m
  | _, _ => false
def outN : List Tok → V
  | [] => .fs true 4 []
  | l => .bsl 0 0 l.length
def newsN : List Tok → List Blk
  | [] => []
  | l => [.dat true 4 (l.map eTok)]
theorem outN_ne {l : List Tok} (h : l ≠ []) : outN l = .bsl 0 0 l.length ∧ newsN l = [.dat true 4 (l.map eTok)] := by
  cases l with
  | nil => exact absurd rfl h
  | cons a l => exact ⟨rfl, rfl⟩

theorem same_loop (K : Cx) (a b : List Tok) (ha : a.length ≤ 4611686018427387903) (hab : a.length = b.length) : ∀ (r q : List Tok) (k : Nat), a.drop k = r → b.drop k = q → k ≤ a.length →
    lp K 0 [0, 1, 5] f12_L0 ⟨[(0, slT a), (1, slT b), (5, vI k)], [], 0, []⟩ = some (if r = q then (.exit 0, ⟨[], [], 0, []⟩) else (.ret, ⟨[(4, .d false (.bool false))], [], 0, []⟩)) := by
  intro r
  induction r with
  | nil =>
    intro q k hd hq hk
    have hx := congrArg List.length hd
    have hy := congrArg List.length hq
    rw [List.length_drop, List.length_nil] at hx
    rw [List.length_drop] at hy
    have : q = [] := List.length_eq_zero_iff.1 (by omega)
    subst this
    rw [if_pos rfl, lp_un f12_L0.eq_1]
    simp (disch := first | decide | omega | (simp only [LN]; omega) | (simp only [LN]; done) | fail) only [SV, SW, Nat.reduceBEq]
  | cons t r ih =>
    intro q k hd hq hk
    obtain ⟨n1, n2, n3, n4⟩ := nthT hd
    match q, hq with
    | [], hq =>
      have hy := congrArg List.length hq
      rw [List.length_drop, List.length_nil] at hy
      omega
    | u :: q, hq =>
      obtain ⟨m1, m2, m3, m4⟩ := nthT hq
      have ih := ih q (k + 1) n3 m3 (by omega)
      obtain ⟨tk, tt, tn, ta⟩ := t
      obtain ⟨uk, ut, un, ua⟩ := u
      rw [lp_un f12_L0.eq_1]
      by_cases g : (⟨tk, tt, tn, ta⟩ : Tok) = ⟨uk, ut, un, ua⟩
      · obtain ⟨rfl, rfl, rfl, rfl⟩ : tk = uk ∧ tt = ut ∧ tn = un ∧ ta = ua := by simpa using g
        have e : ((⟨tk, tt, tn, ta⟩ : Tok) :: r = ⟨tk, tt, tn, ta⟩ :: q) = (r = q) := by simp
        simp only [e]
        rw [← ih]
        clear ih g e
        have z1 : (tt = tt) = True := eq_self tt
        simp (disch := first | decide | omega | (simp only [LN]; omega) | (simp only [LN]; done) | fail) only [SV, SW, Nat.reduceBEq, eTok, n2, Nat.reduceAdd, m2, evEqs, cellsEq, cellEq, cast1]
      · have e : ((⟨tk, tt, tn, ta⟩ : Tok) :: r = ⟨uk, ut, un, ua⟩ :: q) = False := by
          apply eq_false
          intro h
          injection h with h _
          exact g h
        simp only [e]
        clear ih e
        have key : ((tk == uk) && (decide (tt = ut) && ((tn == un) && (ta == ua)))) = false := by
          apply Bool.eq_false_iff.2
          intro h
          simp only [Bool.and_eq_true, beq_iff_eq, decide_eq_true_eq] at h
          exact g (by rw [h.1, h.2.1, h.2.2.1, h.2.2.2])
        clear g
        simp (disch := first | decide | omega | (simp only [LN]; omega) | (simp only [LN]; done) | fail) only [SV, SW, Nat.reduceBEq, eTok, n2, Nat.reduceAdd, m2, evEqs, cellsEq, cellEq, key]

theorem ev_same (K : Cx) (a b : List Tok) (ha : a.length ≤ 4611686018427387903) (hb : b.length ≤ 4611686018427387903) : runFun K f12 [slT a, slT b] [] = some (.d false (.bool (decide (a = b))), [], []) := by
  by_cases g : a.length = b.length
  · have h := same_loop K a b ha g a b 0 rfl rfl (by omega)
    rw [Int.natCast_zero] at h
    have g1 : ((a.length : Int) != (b.length : Int)) = false := by rw [g]; simp
    by_cases g2 : a = b
    · rw [if_pos g2] at h
      rw [decide_eq_true g2]
      clear g2
      simp (disch := first | decide | omega | (simp only [LN]; omega) | (simp only [LN]; done) | fail) only [SV, SW, f12, Nat.reduceAdd, Nat.reduceBEq, g1, h, oneOr]
    · rw [if_neg g2] at h
      rw [decide_eq_false g2]
      clear g2
      simp (disch := first | decide | omega | (simp only [LN]; omega) | (simp only [LN]; done) | fail) only [SV, SW, f12, Nat.reduceAdd, Nat.reduceBEq, g1, h, oneOr]
  · have e : decide (a = b) = false := decide_eq_false (fun h => g (by rw [h]))
    have g1 : ((a.length : Int) != (b.length : Int)) = true := by simp; omega
    rw [e]
    simp (disch := first | decide | omega | (simp only [LN]; omega) | (simp only [LN]; done) | fail) only [SV, SW, f12, Nat.reduceAdd, Nat.reduceBEq, g1, oneOr]

end Go.Vm
end

section
namespace Go.Vm
set_option maxRecDepth 20000
/- 'sloth/slothlaw01.awake' -/
def f9 : Fun := ⟨
 (.seq
  (.reg [⟨[], [], [(.bool false)], none, [], 1, [], [], []⟩])
  (.seq
   (.reg [⟨[], [(1, (.ext 0 (.call 6 (.cons (.str [102, 32, 120, 39, 32, 61, 32, 77, 46, 103, 40, 120, 39, 41]) .nil)))), (2, (.ext 1 (.call 6 (.cons (.str [102, 32, 120, 39, 32, 61, 32, 77, 46, 103, 40, 120, 39, 41]) .nil))))], [], none, [], 6, [], [], []⟩])
   (.seq
    (.reg [⟨[(18, .lits 4 (.cons (.set 3 1 (.int .i64 0) (.set 1 1 (.str [102]) (.set 0 1 (.int .i64 1) (.agg (.cons (.int .i64 0) (.cons (.str []) (.cons (.int .i64 0) (.cons (.int .i64 0) .nil)))))))) (.cons (.set 3 1 (.int .i64 2) (.set 1 1 (.str [120, 39]) (.set 0 1 (.int .i64 1) (.agg (.cons (.int .i64 0) (.cons (.str []) (.cons (.int .i64 0) (.cons (.int .i64 0) .nil)))))))) (.cons (.set 3 1 (.int .i64 5) (.set 1 1 (.str [61]) (.set 0 1 (.int .i64 11) (.agg (.cons (.int .i64 0) (.cons (.str []) (.cons (.int .i64 0) (.cons (.int .i64 0) .nil)))))))) (.cons (.set 3 1 (.int .i64 7) (.set 1 1 (.str [77, 46, 103]) (.set 0 1 (.int .i64 3) (.agg (.cons (.int .i64 0) (.cons (.str []) (.cons (.int .i64 0) (.cons (.int .i64 0) .nil)))))))) (.cons (.set 3 1 (.int .i64 10) (.set 1 1 (.str [40]) (.set 0 1 (.int .i64 9) (.agg (.cons (.int .i64 0) (.cons (.str []) (.cons (.int .i64 0) (.cons (.int .i64 0) .nil)))))))) (.cons (.set 3 1 (.int .i64 11) (.set 1 1 (.str [120, 39]) (.set 0 1 (.int .i64 1) (.agg (.cons (.int .i64 0) (.cons (.str []) (.cons (.int .i64 0) (.cons (.int .i64 0) .nil)))))))) (.cons (.set 3 1 (.int .i64 13) (.set 1 1 (.str [41]) (.set 0 1 (.int .i64 9) (.agg (.cons (.int .i64 0) (.cons (.str []) (.cons (.int .i64 0) (.cons (.int .i64 0) .nil)))))))) .nil))))))))], [(10, (.sl 1))], [], none, [2, 18], 9, [], [], []⟩, ⟨[], [(3, (.call 8 (.cons (.sl 10) (.cons (.sl 18) .nil))))], [], none, [2], 2, [], [], []⟩])
    (.seq
     (.reg [⟨[(24, .lits 4 (.cons (.set 2 1 (.int .i64 39) (.set 0 1 (.int .i64 7) (.agg (.cons (.int .i64 0) (.cons (.str []) (.cons (.int .i64 0) (.cons (.int .i64 0) .nil))))))) (.cons (.set 1 1 (.str [34, 39, 7]) (.set 0 1 (.int .i64 8) (.agg (.cons (.int .i64 0) (.cons (.str []) (.cons (.int .i64 0) (.cons (.int .i64 0) .nil))))))) (.cons (.set 1 1 (.str [45]) (.set 0 1 (.int .i64 5) (.agg (.cons (.int .i64 0) (.cons (.str []) (.cons (.int .i64 0) (.cons (.int .i64 0) .nil))))))) .nil))))], [], [], none, [2, 3, 24], 4, [], [], []⟩, ⟨[], [(4, (.ext 0 (.call 10 (.cons (.sl 24) .nil)))), (5, (.ext 1 (.call 10 (.cons (.sl 24) .nil))))], [], none, [2, 3], 6, [], [], []⟩])
     (.seq
      (.reg [⟨[], [(0, (.and (.and (.and (.sl 3) (.eqs false false [5] (.sl 2) .nilif)) (.bin .eql (.sl 4) (.str [39, 92, 39, 39, 32, 34, 92, 34, 39, 92, 48, 48, 55, 34, 32, 45]))) (.bin .eql (.sl 5) (.int .i64 0))))], [], none, [], 14, [], [], []⟩])
      (.seq
       (.tidy 0 [0])
       .ret)))))),
 [(.sl 0)], false⟩
theorem f9_ok : funOk Go.Proofs.Tryz.prog 4 0 0 f9 = true := by kernel_rfl

def errD (e i : Int) : V := .tup [.d true (.sl 4 []), .d false (.iface 45 [.ptr [.int .i64 e, .int .i64 0, .int .i64 i, .str []]])]
def lexV (s : BS) : V :=
  if 65536 < s.length then errD 2 (-1)
  else match lexS s 0 0 with
    | .bad e i => errD e i
    | .ok l => .tup [.d true (.sl 4 (l.map eTok)), .d false .nilif]
def K13 (K : Cx) : Prop := ∀ s : BS, s.length ≤ 2000000 → K.call 6 [vS s] = some (lexV s, [])
def K11 (K : Cx) : Prop := ∀ l : List Tok, TokL l → K.call 10 [slT l] = some (printV l, [])
def awT : BS := [102, 32, 120, 39, 32, 61, 32, 77, 46, 103, 40, 120, 39, 41]
def awL : List Tok := [⟨1, [102], 0, 0⟩, ⟨1, [120, 39], 0, 2⟩, ⟨11, [61], 0, 5⟩, ⟨3, [77, 46, 103], 0, 7⟩, ⟨9, [40], 0, 10⟩, ⟨1, [120, 39], 0, 11⟩, ⟨9, [41], 0, 13⟩]
def awP : List Tok := [⟨7, [], 39, 0⟩, ⟨8, [34, 39, 7], 0, 0⟩, ⟨5, [45], 0, 0⟩]
theorem aw_lex : lexS awT 0 0 = .ok awL := by decide +kernel
theorem aw_print : printS awP = ([39, 92, 39, 39, 32, 34, 92, 34, 39, 92, 48, 48, 55, 34, 32, 45], 0) := by decide +kernel

theorem lexV_ok {s : BS} (h : s.length ≤ 65536) {l : List Tok} (hl : lexS s 0 0 = .ok l) : lexV s = .tup [.d true (.sl 4 (l.map eTok)), .d false .nilif] := by
  unfold lexV
  rw [if_neg (by omega), hl]
theorem ev_awake (K : Cx) (h13 : K13 K) (h12 : K12 K) (h11 : K11 K) : runFun K f9 [] [] = some (.d false (.bool true), [], []) := by
  have h1 := h13 awT (by decide)
  rw [lexV_ok (by decide) aw_lex] at h1
  have h2 := h12 awL awL (by decide) (by decide)
  have h3 := h11 awP ⟨by decide, fun t ht => by
    simp only [awP, List.mem_cons, List.not_mem_nil, or_false] at ht
    rcases ht with rfl | rfl | rfl <;> exact ⟨by decide, by decide⟩⟩
  unfold printV at h3
  rw [aw_print] at h3
  simp only [slT, awT, awL, awP, List.map_cons, List.map_nil, eTok, decide_true] at h1 h2 h3
  simp (disch := first | decide | omega | (simp only [LN]; omega) | (simp only [LN]; done) | fail) only [SV, SW, f9, viewD, h1, Nat.reduceAdd, Nat.reduceBEq, h2, h3, evEqs, cellsEq, cellEq, V.isNilI, oneOr]
end Go.Vm
end

section
namespace Go.Vm
set_option maxRecDepth 20000

end Go.Vm
end

section
namespace Go.Vm
set_option maxRecDepth 20000
/- 'sloth/slothref01.small' -/
def f74 : Fun := ⟨
 (.seq
  (.reg [⟨[], [], [(.bool false)], none, [0], 1, [], [], []⟩])
  (.seq
   (.reg [⟨[], [(2, (.and (.bin .geq (.sl 0) (.int .u8 97)) (.bin .leq (.sl 0) (.int .u8 122))))], [], none, [], 7, [], [], []⟩])
   (.seq
    (.tidy 0 [2])
    .ret))),
 [(.sl 2)], false⟩
theorem f74_ok : funOk Go.Proofs.Tryz.prog 25 0 1 f74 = true := by kernel_rfl

/- 'sloth/slothref01.capital' -/
def f75 : Fun := ⟨
 (.seq
  (.reg [⟨[], [], [(.bool false)], none, [0], 1, [], [], []⟩])
  (.seq
   (.reg [⟨[], [(2, (.and (.bin .geq (.sl 0) (.int .u8 65)) (.bin .leq (.sl 0) (.int .u8 90))))], [], none, [], 7, [], [], []⟩])
   (.seq
    (.tidy 0 [2])
    .ret))),
 [(.sl 2)], false⟩
theorem f75_ok : funOk Go.Proofs.Tryz.prog 26 0 1 f75 = true := by kernel_rfl

/- 'sloth/slothref01.digit' -/
def f95 : Fun := ⟨
 (.seq
  (.reg [⟨[], [], [(.bool false)], none, [0], 1, [], [], []⟩])
  (.seq
   (.reg [⟨[], [(2, (.and (.bin .geq (.sl 0) (.int .u8 48)) (.bin .leq (.sl 0) (.int .u8 57))))], [], none, [], 7, [], [], []⟩])
   (.seq
    (.tidy 0 [2])
    .ret))),
 [(.sl 2)], false⟩
theorem f95_ok : funOk Go.Proofs.Tryz.prog 27 0 1 f95 = true := by kernel_rfl

/- 'sloth/slothref01.operator' -/
def f77 : Fun := ⟨
 (.seq
  (.reg [⟨[], [], [(.bool false)], none, [0], 1, [], [], []⟩])
  (.seq
   (.reg [⟨[], [(2, (.call 51 (.cons (.sl 0) (.cons (.str [33, 35, 36, 37, 38, 42, 43, 46, 47, 60, 61, 62, 63, 64, 94, 124, 126, 58, 45]) .nil))))], [], none, [], 3, [], [], []⟩])
   (.seq
    (.tidy 0 [2])
    .ret))),
 [(.sl 2)], false⟩
theorem f77_ok : funOk Go.Proofs.Tryz.prog 28 0 1 f77 = true := by kernel_rfl

/- 'sloth/slothref01.among' -/
def f79_L0 : C :=
 (.seq
  (.seq
   (.reg [⟨[], [(9, (.bin .lss (.sl 5) (.len true (.sl 1))))], [], none, [0, 1, 5], 4, [], [], []⟩])
   (.cond (.sl 9)
    .skip
    (.seq
     (.tidy 0 [])
     (.exit 0))))
  (.seq
   (.block 1
    (.seq
     (.reg [⟨[], [(16, (.bin .eql (.ix (.sl 1) (.sl 5)) (.sl 0)))], [], none, [0, 1, 5], 5, [], [], []⟩])
     (.cond (.sl 16)
      (.seq
       (.reg [⟨[], [(4, (.bool true))], [], none, [], 1, [], [], []⟩])
       (.seq
        (.tidy 0 [4])
        .ret))
      .skip)))
   (.reg [⟨[], [(5, (.bin .add (.sl 5) (.int .i64 1)))], [], none, [0, 1], 3, [], [], []⟩])))
def f79 : Fun := ⟨
 (.seq
  (.reg [⟨[], [], [(.bool false)], none, [0, 1], 1, [], [], []⟩])
  (.seq
   (.seq
    (.reg [⟨[], [(5, (.int .i64 0))], [], none, [0, 1], 1, [], [], []⟩])
    (.block 0
     (.seq (.tidy 0 [0, 1, 5]) (.loop (.seq (.tidy 0 [0, 1, 5]) f79_L0)))))
   (.seq
    (.reg [⟨[], [(4, (.bool false))], [], none, [], 1, [], [], []⟩])
    (.seq
     (.tidy 0 [4])
     .ret)))),
 [(.sl 4)], false⟩
theorem f79_ok : funOk Go.Proofs.Tryz.prog 51 0 2 f79 = true := by kernel_rfl

/- 'sloth/slothref01.signs' -/
def f76_L0 : C :=
 (.seq
  (.seq
   (.reg [⟨[], [(9, (.bin .lss (.sl 1) (.len true (.sl 0))))], [], none, [0, 1], 4, [], [], []⟩])
   (.cond (.sl 9)
    .skip
    (.seq
     (.tidy 0 [1])
     (.exit 0))))
  (.block 1
   (.seq
    (.reg [⟨[], [(5, (.call 57 (.cons (.ix (.sl 0) (.sl 1)) .nil)))], [], none, [0, 1], 5, [], [], []⟩])
    (.seq
     (.seq
      (.reg [⟨[], [(15, (.un .not (.sl 5)))], [], none, [0, 1], 2, [], [], []⟩])
      (.cond (.sl 15)
       (.seq
        (.reg [⟨[], [(4, (.sl 1))], [], none, [], 2, [], [], []⟩])
        (.seq
         (.tidy 0 [4])
         .ret))
       .skip))
     (.reg [⟨[], [(1, (.bin .add (.sl 1) (.int .i64 1)))], [], none, [0], 3, [], [], []⟩])))))
def f76 : Fun := ⟨
 (.seq
  (.reg [⟨[], [], [(.int .i64 0)], none, [0, 1], 1, [], [], []⟩])
  (.seq
   (.block 0
    (.seq (.tidy 0 [0, 1]) (.loop (.seq (.tidy 0 [0, 1]) f76_L0))))
   (.seq
    (.reg [⟨[], [(4, (.sl 1))], [], none, [], 2, [], [], []⟩])
    (.seq
     (.tidy 0 [4])
     .ret)))),
 [(.sl 4)], false⟩
theorem f76_ok : funOk Go.Proofs.Tryz.prog 53 0 2 f76 = true := by kernel_rfl

/- 'sloth/slothref01.reserved' -/
def f58_L0 : C :=
 (.seq
  (.seq
   (.reg [⟨[], [(9, (.bin .lss (.sl 4) (.len false (.sl 3))))], [], none, [0, 3, 4], 4, [], [], []⟩])
   (.cond (.sl 9)
    .skip
    (.seq
     (.tidy 0 [])
     (.exit 0))))
  (.seq
   (.block 1
    (.seq
     (.reg [⟨[], [(17, (.bin .eql (.ld 1 false (.ia 1 (.sl 3) (.sl 4))) (.sl 0)))], [], none, [0, 3, 4], 6, [], [], []⟩])
     (.cond (.sl 17)
      (.seq
       (.reg [⟨[], [(2, (.bool true))], [], none, [], 1, [], [], []⟩])
       (.seq
        (.tidy 0 [2])
        .ret))
      .skip)))
   (.reg [⟨[], [(4, (.bin .add (.sl 4) (.int .i64 1)))], [], none, [0, 3], 3, [], [], []⟩])))
def f58 : Fun := ⟨
 (.seq
  (.reg [⟨[], [], [(.bool false)], none, [0], 1, [], [], []⟩])
  (.seq
   (.reg [⟨[(5, .lits 1 (.cons (.str [109, 111, 100, 117, 108, 101]) (.cons (.str [105, 109, 112, 111, 114, 116]) (.cons (.str [100, 97, 116, 97]) (.cons (.str [105, 110, 102, 105, 120, 108]) (.cons (.str [105, 110, 102, 105, 120, 114]) (.cons (.str [105, 110, 102, 105, 120]) (.cons (.str [108, 101, 116]) (.cons (.str [105, 110]) (.cons (.str [99, 97, 115, 101]) (.cons (.str [111, 102]) (.cons (.str [105, 102]) (.cons (.str [116, 104, 101, 110]) (.cons (.str [101, 108, 115, 101]) .nil))))))))))))))], [(3, (.sl 5))], [], none, [0], 2, [], [], []⟩])
   (.seq
    (.seq
     (.reg [⟨[], [(4, (.int .i64 0))], [], none, [0, 3], 1, [], [], []⟩])
     (.block 0
      (.seq (.tidy 0 [0, 3, 4]) (.loop (.seq (.tidy 0 [0, 3, 4]) f58_L0)))))
    (.seq
     (.reg [⟨[], [(2, (.bool false))], [], none, [], 1, [], [], []⟩])
     (.seq
      (.tidy 0 [2])
      .ret))))),
 [(.sl 2)], false⟩
theorem f58_ok : funOk Go.Proofs.Tryz.prog 54 0 1 f58 = true := by kernel_rfl

/- 'sloth/slothref01.sign' -/
def f86 : Fun := ⟨
 (.seq
  (.reg [⟨[], [], [(.bool false)], none, [0], 1, [], [], []⟩])
  (.seq
   (.reg [⟨[], [(3, (.call 25 (.cons (.sl 0) .nil)))], [], none, [0], 3, [], [], []⟩])
   (.seq
    (.reg [⟨[], [(4, (.call 26 (.cons (.sl 0) .nil)))], [], none, [0, 3], 3, [], [], []⟩])
    (.seq
     (.reg [⟨[], [(5, (.call 27 (.cons (.sl 0) .nil)))], [], none, [0, 3, 4], 3, [], [], []⟩])
     (.seq
      (.reg [⟨[], [(2, (.or (.or (.or (.or (.sl 3) (.sl 4)) (.sl 5)) (.bin .eql (.sl 0) (.int .u8 95))) (.bin .eql (.sl 0) (.int .u8 39))))], [], none, [], 16, [], [], []⟩])
      (.seq
       (.tidy 0 [2])
       .ret)))))),
 [(.sl 2)], false⟩
theorem f86_ok : funOk Go.Proofs.Tryz.prog 57 0 1 f86 = true := by kernel_rfl

/- 'sloth/slothref01.run' -/
def f55_L0 : C :=
 (.seq
  (.seq
   (.reg [⟨[], [(9, (.bin .lss (.sl 1) (.len true (.sl 0))))], [], none, [0, 1], 4, [], [], []⟩])
   (.cond (.sl 9)
    .skip
    (.seq
     (.tidy 0 [1])
     (.exit 0))))
  (.block 1
   (.seq
    (.reg [⟨[], [(5, (.call 28 (.cons (.ix (.sl 0) (.sl 1)) .nil)))], [], none, [0, 1], 5, [], [], []⟩])
    (.seq
     (.seq
      (.reg [⟨[], [(15, (.un .not (.sl 5)))], [], none, [0, 1], 2, [], [], []⟩])
      (.cond (.sl 15)
       (.seq
        (.reg [⟨[], [(4, (.sl 1))], [], none, [], 2, [], [], []⟩])
        (.seq
         (.tidy 0 [4])
         .ret))
       .skip))
     (.reg [⟨[], [(1, (.bin .add (.sl 1) (.int .i64 1)))], [], none, [0], 3, [], [], []⟩])))))
def f55 : Fun := ⟨
 (.seq
  (.reg [⟨[], [], [(.int .i64 0)], none, [0, 1], 1, [], [], []⟩])
  (.seq
   (.block 0
    (.seq (.tidy 0 [0, 1]) (.loop (.seq (.tidy 0 [0, 1]) f55_L0))))
   (.seq
    (.reg [⟨[], [(4, (.sl 1))], [], none, [], 2, [], [], []⟩])
    (.seq
     (.tidy 0 [4])
     .ret)))),
 [(.sl 4)], false⟩
theorem f55_ok : funOk Go.Proofs.Tryz.prog 59 0 2 f55 = true := by kernel_rfl

/- 'sloth/slothref01.kindOf' -/
def f56 : Fun := ⟨
 (.seq
  (.reg [⟨[], [], [(.int .i64 0)], none, [0], 1, [], [], []⟩])
  (.seq
   (.reg [⟨[], [(3, (.call 79 (.cons (.sl 0) .nil)))], [], none, [0], 3, [], [], []⟩])
   (.seq
    (.block 0
     (.seq
      (.reg [⟨[], [(6, (.sl 3))], [], none, [0], 2, [], [], []⟩])
      (.cond (.sl 6)
       (.seq
        (.reg [⟨[], [(2, (.int .i64 0))], [], none, [], 1, [], [], []⟩])
        (.seq
         (.tidy 0 [2])
         .ret))
       (.seq
        (.reg [⟨[], [(8, (.or (.or (.or (.bin .eql (.sl 0) (.str [61])) (.bin .eql (.sl 0) (.str [124]))) (.bin .eql (.sl 0) (.str [45, 62]))) (.bin .eql (.sl 0) (.str [58, 58]))))], [], none, [0], 15, [], [], []⟩])
        (.cond (.sl 8)
         (.seq
          (.reg [⟨[], [(2, (.int .i64 11))], [], none, [], 1, [], [], []⟩])
          (.seq
           (.tidy 0 [2])
           .ret))
         (.seq
          (.reg [⟨[], [(23, (.and (.bin .eql (.ix (.sl 0) (.int .i64 0)) (.int .u8 58)) (.bin .gtr (.len true (.sl 0)) (.int .i64 1))))], [], none, [], 9, [], [], []⟩])
          (.cond (.sl 23)
           (.seq
            (.reg [⟨[], [(2, (.int .i64 (-1)))], [], none, [], 1, [], [], []⟩])
            (.seq
             (.tidy 0 [2])
             .ret))
           .skip)))))))
    (.seq
     (.reg [⟨[], [(2, (.int .i64 5))], [], none, [], 1, [], [], []⟩])
     (.seq
      (.tidy 0 [2])
      .ret))))),
 [(.sl 2)], false⟩
theorem f56_ok : funOk Go.Proofs.Tryz.prog 60 0 1 f56 = true := by kernel_rfl

/- 'sloth/slothref01.special' -/
def f57 : Fun := ⟨
 (.seq
  (.reg [⟨[], [], [(.bool false)], none, [0], 1, [], [], []⟩])
  (.seq
   (.reg [⟨[], [(2, (.call 51 (.cons (.sl 0) (.cons (.str [40, 41, 91, 93, 123, 125, 44, 59, 96, 92]) .nil))))], [], none, [], 3, [], [], []⟩])
   (.seq
    (.tidy 0 [2])
    .ret))),
 [(.sl 2)], false⟩
theorem f57_ok : funOk Go.Proofs.Tryz.prog 61 0 1 f57 = true := by kernel_rfl

/- 'sloth/slothref01.dashes' -/
def f78_L0 : C :=
 (.seq
  (.seq
   (.reg [⟨[], [(7, (.bin .lss (.sl 3) (.len true (.sl 0))))], [], none, [0, 3], 4, [], [], []⟩])
   (.cond (.sl 7)
    .skip
    (.seq
     (.tidy 0 [0])
     (.exit 0))))
  (.seq
   (.block 1
    (.seq
     (.reg [⟨[], [(13, (.bin .neq (.ix (.sl 0) (.sl 3)) (.int .u8 45)))], [], none, [0, 3], 4, [], [], []⟩])
     (.cond (.sl 13)
      (.seq
       (.reg [⟨[], [(2, (.bool false))], [], none, [], 1, [], [], []⟩])
       (.seq
        (.tidy 0 [2])
        .ret))
      .skip)))
   (.reg [⟨[], [(3, (.bin .add (.sl 3) (.int .i64 1)))], [], none, [0], 3, [], [], []⟩])))
def f78 : Fun := ⟨
 (.seq
  (.reg [⟨[], [], [(.bool false)], none, [0], 1, [], [], []⟩])
  (.seq
   (.seq
    (.reg [⟨[], [(3, (.int .i64 0))], [], none, [0], 1, [], [], []⟩])
    (.block 0
     (.seq (.tidy 0 [0, 3]) (.loop (.seq (.tidy 0 [0, 3]) f78_L0)))))
   (.seq
    (.reg [⟨[], [(2, (.bin .gtr (.len true (.sl 0)) (.int .i64 1)))], [], none, [], 4, [], [], []⟩])
    (.seq
     (.tidy 0 [2])
     .ret)))),
 [(.sl 2)], false⟩
theorem f78_ok : funOk Go.Proofs.Tryz.prog 79 0 1 f78 = true := by kernel_rfl

abbrev vB (c : UInt8) : V := .d false (.int .u8 c.toNat)
abbrev vT1 (b : Bool) : V := .d false (.bool b)
def K74 (K : Cx) : Prop := ∀ c : UInt8, K.call 25 [vB c] = some (vT1 (decide (clB c = 1)), [])
def K75 (K : Cx) : Prop := ∀ c : UInt8, K.call 26 [vB c] = some (vT1 (decide (clB c = 2)), [])
def K95 (K : Cx) : Prop := ∀ c : UInt8, K.call 27 [vB c] = some (vT1 (decide (clB c = 3)), [])
def K86 (K : Cx) : Prop := ∀ c : UInt8, K.call 57 [vB c] = some (vT1 (decide (1 ≤ clB c) && decide (clB c ≤ 4)), [])
def K79 (K : Cx) : Prop := ∀ (c : UInt8) (s : BS), s.length ≤ 1000 → K.call 51 [vB c, vS s] = some (vT1 (decide (c ∈ s)), [])
def K77 (K : Cx) : Prop := ∀ c : UInt8, K.call 28 [vB c] = some (vT1 (decide (clB c = 5)), [])
def spcB (c : UInt8) : Bool := decide (clB c = 6)
def K57 (K : Cx) : Prop := ∀ c : UInt8, K.call 61 [vB c] = some (vT1 (spcB c), [])
def K76 (K : Cx) : Prop := ∀ (s : BS) (i : Nat), i ≤ s.length → s.length ≤ 4611686018427387903 → K.call 53 [vS s, vI i] = some (vI ((i + nameL (s.drop i) : Nat)), [])
def K55 (K : Cx) : Prop := ∀ (s : BS) (i : Nat), i ≤ s.length → s.length ≤ 4611686018427387903 → K.call 59 [vS s, vI i] = some (vI ((i + runL 5 (s.drop i) : Nat)), [])
def K78 (K : Cx) : Prop := ∀ s : BS, s.length ≤ 4611686018427387903 → K.call 79 [vS s] = some (vT1 (dsh s), [])
def K58 (K : Cx) : Prop := ∀ s : BS, K.call 54 [vS s] = some (vT1 (resv s), [])

theorem sm_cl : ∀ c : UInt8, (decide (97 ≤ (c.toNat : Int)) && decide ((c.toNat : Int) ≤ 122)) = decide (clB c = 1) := u8all (by decide +kernel)
theorem cp_cl : ∀ c : UInt8, (decide (65 ≤ (c.toNat : Int)) && decide ((c.toNat : Int) ≤ 90)) = decide (clB c = 2) := u8all (by decide +kernel)
theorem dg_cl : ∀ c : UInt8, (decide (48 ≤ (c.toNat : Int)) && decide ((c.toNat : Int) ≤ 57)) = decide (clB c = 3) := u8all (by decide +kernel)
theorem sg_cl : ∀ c : UInt8, (decide (clB c = 1) || decide (clB c = 2) || decide (clB c = 3) || decide ((c.toNat : Int) = 95) || decide ((c.toNat : Int) = 39)) = (decide (1 ≤ clB c) && decide (clB c ≤ 4)) := u8all (by decide +kernel)
theorem op_cl : ∀ c : UInt8, decide (c ∈ [33, 35, 36, 37, 38, 42, 43, 46, 47, 60, 61, 62, 63, 64, 94, 124, 126, 58, 45]) = decide (clB c = 5) := u8all (by decide +kernel)
theorem sp_cl : ∀ c : UInt8, decide (c ∈ [40, 41, 91, 93, 123, 125, 44, 59, 96, 92]) = decide (clB c = 6) := u8all (by decide +kernel)

theorem ev_small (K : Cx) (c : UInt8) : runFun K f74 [vB c] [] = some (vT1 (decide (clB c = 1)), [], []) := by
  rw [← sm_cl]
  by_cases g : (97 : Int) ≤ c.toNat
  · by_cases g2 : (c.toNat : Int) ≤ 122
    · simp (disch := first | decide | omega | (simp only [LN]; omega) | (simp only [LN]; done) | fail) only [SV, SW, f74, g, g2, oneOr]
    · simp (disch := first | decide | omega | (simp only [LN]; omega) | (simp only [LN]; done) | fail) only [SV, SW, f74, g, g2, oneOr]
  · simp (disch := first | decide | omega | (simp only [LN]; omega) | (simp only [LN]; done) | fail) only [SV, SW, f74, g, oneOr]
theorem ev_capital (K : Cx) (c : UInt8) : runFun K f75 [vB c] [] = some (vT1 (decide (clB c = 2)), [], []) := by
  rw [← cp_cl]
  by_cases g : (65 : Int) ≤ c.toNat
  · by_cases g2 : (c.toNat : Int) ≤ 90
    · simp (disch := first | decide | omega | (simp only [LN]; omega) | (simp only [LN]; done) | fail) only [SV, SW, f75, g, g2, oneOr]
    · simp (disch := first | decide | omega | (simp only [LN]; omega) | (simp only [LN]; done) | fail) only [SV, SW, f75, g, g2, oneOr]
  · simp (disch := first | decide | omega | (simp only [LN]; omega) | (simp only [LN]; done) | fail) only [SV, SW, f75, g, oneOr]
theorem ev_digit (K : Cx) (c : UInt8) : runFun K f95 [vB c] [] = some (vT1 (decide (clB c = 3)), [], []) := by
  rw [← dg_cl]
  by_cases g : (48 : Int) ≤ c.toNat
  · by_cases g2 : (c.toNat : Int) ≤ 57
    · simp (disch := first | decide | omega | (simp only [LN]; omega) | (simp only [LN]; done) | fail) only [SV, SW, f95, g, g2, oneOr]
    · simp (disch := first | decide | omega | (simp only [LN]; omega) | (simp only [LN]; done) | fail) only [SV, SW, f95, g, g2, oneOr]
  · simp (disch := first | decide | omega | (simp only [LN]; omega) | (simp only [LN]; done) | fail) only [SV, SW, f95, g, oneOr]
theorem ev_sign (K : Cx) (h74 : K74 K) (h75 : K75 K) (h95 : K95 K) (c : UInt8) : runFun K f86 [vB c] [] = some (vT1 (decide (1 ≤ clB c) && decide (clB c ≤ 4)), [], []) := by
  have a := h74 c
  have b := h75 c
  have d := h95 c
  rw [← sg_cl]
  by_cases g1 : clB c = 1
  · simp (disch := first | decide | omega | (simp only [LN]; omega) | (simp only [LN]; done) | fail) only [SV, SW, f86, viewD, a, g1, Nat.reduceBEq, b, Nat.reduceEqDiff, d, oneOr]
  · by_cases g2 : clB c = 2
    · simp (disch := first | decide | omega | (simp only [LN]; omega) | (simp only [LN]; done) | fail) only [SV, SW, f86, viewD, a, g2, Nat.reduceEqDiff, Nat.reduceBEq, b, d, oneOr]
    · by_cases g3 : clB c = 3
      · simp (disch := first | decide | omega | (simp only [LN]; omega) | (simp only [LN]; done) | fail) only [SV, SW, f86, viewD, a, g3, Nat.reduceEqDiff, Nat.reduceBEq, b, d, oneOr]
      · by_cases g4 : (c.toNat : Int) = 95
        · have b4 : ((c.toNat : Int) == 95) = true := by simpa using g4
          rw [decide_eq_true g4]
          clear g4
          simp (disch := first | decide | omega | (simp only [LN]; omega) | (simp only [LN]; done) | fail) only [SV, SW, f86, viewD, a, g1, Nat.reduceBEq, b, g2, d, g3, b4, oneOr]
        · have b4 : ((c.toNat : Int) == 95) = false := by simpa using g4
          rw [decide_eq_false g4]
          clear g4
          by_cases g5 : (c.toNat : Int) = 39
          · have b5 : ((c.toNat : Int) == 39) = true := by simpa using g5
            rw [decide_eq_true g5]
            clear g5
            simp (disch := first | decide | omega | (simp only [LN]; omega) | (simp only [LN]; done) | fail) only [SV, SW, f86, viewD, a, g1, Nat.reduceBEq, b, g2, d, g3, b4, b5, oneOr]
          · have b5 : ((c.toNat : Int) == 39) = false := by simpa using g5
            rw [decide_eq_false g5]
            clear g5
            simp (disch := first | decide | omega | (simp only [LN]; omega) | (simp only [LN]; done) | fail) only [SV, SW, f86, viewD, a, g1, Nat.reduceBEq, b, g2, d, g3, b4, b5, oneOr]
theorem among_loop (K : Cx) (c : UInt8) (s : BS) (hs : s.length ≤ 1000) : ∀ (r : BS) (k : Nat), s.drop k = r → k ≤ s.length →
    lp K 0 [0, 1, 5] f79_L0 ⟨[(0, vB c), (1, vS s), (5, vI k)], [], 0, []⟩ = some (if c ∈ r then (.ret, ⟨[(4, vT1 true)], [], 0, []⟩) else (.exit 0, ⟨[], [], 0, []⟩)) := by
  intro r
  induction r with
  | nil =>
    intro k hd hk
    have hx := congrArg List.length hd
    rw [List.length_drop, List.length_nil] at hx
    rw [if_neg (by simp), lp_un f79_L0.eq_1]
    simp (disch := first | decide | omega | (simp only [LN]; omega) | (simp only [LN]; done) | fail) only [SV, SW, Nat.reduceBEq]
  | cons u r ih =>
    intro k hd hk
    have hx := congrArg List.length hd
    rw [List.length_drop, List.length_cons] at hx
    have hn := nth_bAt (s := s) (i := k) (by omega)
    have hn2 : nth s (k : Int) = u := by rw [hn, hd]; rfl
    have ih := ih (k + 1) (by rw [dd, hd]; rfl) (by omega)
    rw [lp_un f79_L0.eq_1]
    by_cases g : u = c
    · subst g
      rw [if_pos (by simp)]
      clear ih hn
      simp (disch := first | decide | omega | (simp only [LN]; omega) | (simp only [LN]; done) | fail) only [SV, SW, Nat.reduceBEq, hn2]
    · have e : (c ∈ u :: r) = (c ∈ r) := by
        apply propext
        simp [Ne.symm g]
      simp only [e]
      rw [← ih]
      have g1 : ((u.toNat : Int) == (c.toNat : Int)) = false := by
        rw [beq_eq_false_iff_ne, ne_eq, u8eq]; exact g
      clear ih hn g e
      simp (disch := first | decide | omega | (simp only [LN]; omega) | (simp only [LN]; done) | fail) only [SV, SW, Nat.reduceBEq, hn2, g1, cast1]
theorem ev_among (K : Cx) (c : UInt8) (s : BS) (hs : s.length ≤ 1000) : runFun K f79 [vB c, vS s] [] = some (vT1 (decide (c ∈ s)), [], []) := by
  have h := among_loop K c s hs s 0 rfl (by omega)
  rw [Int.natCast_zero] at h
  by_cases g : c ∈ s
  · rw [if_pos g] at h
    simp (disch := first | decide | omega | (simp only [LN]; omega) | (simp only [LN]; done) | fail) only [SV, SW, f79, Nat.reduceAdd, Nat.reduceBEq, h, oneOr, g]
  · rw [if_neg g] at h
    simp (disch := first | decide | omega | (simp only [LN]; omega) | (simp only [LN]; done) | fail) only [SV, SW, f79, Nat.reduceAdd, Nat.reduceBEq, h, oneOr, g]
theorem ev_operator (K : Cx) (h79 : K79 K) (c : UInt8) : runFun K f77 [vB c] [] = some (vT1 (decide (clB c = 5)), [], []) := by
  have h := h79 c [33, 35, 36, 37, 38, 42, 43, 46, 47, 60, 61, 62, 63, 64, 94, 124, 126, 58, 45] (by decide)
  rw [op_cl] at h
  simp (disch := first | decide | omega | (simp only [LN]; omega) | (simp only [LN]; done) | fail) only [SV, SW, f77, viewD, h, oneOr]
theorem ev_special (K : Cx) (h79 : K79 K) (c : UInt8) : runFun K f57 [vB c] [] = some (vT1 (spcB c), [], []) := by
  have h := h79 c [40, 41, 91, 93, 123, 125, 44, 59, 96, 92] (by decide)
  rw [sp_cl] at h
  unfold spcB
  simp (disch := first | decide | omega | (simp only [LN]; omega) | (simp only [LN]; done) | fail) only [SV, SW, f57, viewD, h, oneOr]
def endR (n : Nat) (s r : BS) (k : Nat) : Ex × S := if n = r.length then (.exit 0, ⟨[(1, vI s.length)], [], 0, []⟩) else (.ret, ⟨[(4, vI ((k + n : Nat)))], [], 0, []⟩)
theorem endR_nil (s : BS) (k : Nat) : endR 0 s [] k = (.exit 0, ⟨[(1, vI s.length)], [], 0, []⟩) := rfl
theorem endR_cons (n : Nat) (s r : BS) (u : UInt8) (k : Nat) : endR (n + 1) s (u :: r) k = endR n s r (k + 1) := by
  unfold endR
  rw [List.length_cons, show k + (n + 1) = k + 1 + n from by omega]
  by_cases g : n = r.length
  · rw [if_pos g, if_pos (by omega)]
  · rw [if_neg g, if_neg (by omega)]
theorem endR_no (s r : BS) (u : UInt8) (k : Nat) : endR 0 s (u :: r) k = (.ret, ⟨[(4, vI k)], [], 0, []⟩) := by
  unfold endR
  rw [List.length_cons, if_neg (by omega)]; rfl
theorem signs_loop (K : Cx) (h86 : K86 K) (s : BS) (hs : s.length ≤ 4611686018427387903) : ∀ (r : BS) (k : Nat), s.drop k = r → k ≤ s.length →
    lp K 0 [0, 1] f76_L0 ⟨[(0, vS s), (1, vI k)], [], 0, []⟩ = some (endR (nameL r) s r k) := by
  intro r
  induction r with
  | nil =>
    intro k hd hk
    have hx := congrArg List.length hd
    rw [List.length_drop, List.length_nil] at hx
    have e : k = s.length := by omega
    subst e
    rw [show nameL [] = 0 from rfl, endR_nil, lp_un f76_L0.eq_1]
    simp (disch := first | decide | omega | (simp only [LN]; omega) | (simp only [LN]; done) | fail) only [SV, SW, Nat.reduceBEq]
  | cons u r ih =>
    intro k hd hk
    have hx := congrArg List.length hd
    rw [List.length_drop, List.length_cons] at hx
    have hn := nth_bAt (s := s) (i := k) (by omega)
    have hn2 : nth s (k : Int) = u := by rw [hn, hd]; rfl
    have ih := ih (k + 1) (by rw [dd, hd]; rfl) (by omega)
    have h := h86 u
    rw [lp_un f76_L0.eq_1]
    have e1 : inNm (u :: r) = (decide (1 ≤ clB u) && decide (clB u ≤ 4)) := rfl
    rw [← e1] at h
    clear e1 hn hd
    by_cases g : inNm (u :: r) = true
    · have e2 : nameL (u :: r) = nameL r + 1 := by simp only [nameL]; rw [if_pos g]
      rw [e2, endR_cons, ← ih]
      rw [g] at h
      clear ih e2 g
      simp (disch := first | decide | omega | (simp only [LN]; omega) | (simp only [LN]; done) | fail) only [SV, SW, Nat.reduceBEq, hn2, viewD, h, cast1]
    · have e2 : nameL (u :: r) = 0 := by simp only [nameL]; rw [if_neg g]
      rw [e2, endR_no]
      rw [Bool.not_eq_true] at g
      rw [g] at h
      clear ih e2 g
      simp (disch := first | decide | omega | (simp only [LN]; omega) | (simp only [LN]; done) | fail) only [SV, SW, Nat.reduceBEq, hn2, viewD, h]
theorem ev_signs (K : Cx) (h86 : K86 K) (s : BS) (i : Nat) (hi : i ≤ s.length) (hs : s.length ≤ 4611686018427387903) : runFun K f76 [vS s, vI i] [] = some (vI ((i + nameL (s.drop i) : Nat)), [], []) := by
  have h := signs_loop K h86 s hs (s.drop i) i rfl hi
  unfold endR at h
  by_cases g : nameL (s.drop i) = (s.drop i).length
  · rw [if_pos g] at h
    rw [List.length_drop] at g
    have e : i + nameL (s.drop i) = s.length := by omega
    rw [e]
    clear g e
    simp (disch := first | decide | omega | (simp only [LN]; omega) | (simp only [LN]; done) | fail) only [SV, SW, f76, Nat.reduceAdd, Nat.reduceBEq, h, oneOr]
  · rw [if_neg g] at h
    clear g
    simp (disch := first | decide | omega | (simp only [LN]; omega) | (simp only [LN]; done) | fail) only [SV, SW, f76, Nat.reduceAdd, Nat.reduceBEq, h, oneOr]
theorem run5_loop (K : Cx) (h77 : K77 K) (s : BS) (hs : s.length ≤ 4611686018427387903) : ∀ (r : BS) (k : Nat), s.drop k = r → k ≤ s.length →
    lp K 0 [0, 1] f55_L0 ⟨[(0, vS s), (1, vI k)], [], 0, []⟩ = some (endR (runL 5 r) s r k) := by
  intro r
  induction r with
  | nil =>
    intro k hd hk
    have hx := congrArg List.length hd
    rw [List.length_drop, List.length_nil] at hx
    have e : k = s.length := by omega
    subst e
    rw [show runL 5 [] = 0 from rfl, endR_nil, lp_un f55_L0.eq_1]
    simp (disch := first | decide | omega | (simp only [LN]; omega) | (simp only [LN]; done) | fail) only [SV, SW, Nat.reduceBEq]
  | cons u r ih =>
    intro k hd hk
    have hx := congrArg List.length hd
    rw [List.length_drop, List.length_cons] at hx
    have hn := nth_bAt (s := s) (i := k) (by omega)
    have hn2 : nth s (k : Int) = u := by rw [hn, hd]; rfl
    have ih := ih (k + 1) (by rw [dd, hd]; rfl) (by omega)
    have h := h77 u
    rw [lp_un f55_L0.eq_1]
    clear hn hd
    by_cases g : clB u = 5
    · have e2 : runL 5 (u :: r) = runL 5 r + 1 := by simp only [runL]; rw [if_pos g]
      rw [e2, endR_cons, ← ih]
      rw [decide_eq_true g] at h
      clear ih e2 g
      simp (disch := first | decide | omega | (simp only [LN]; omega) | (simp only [LN]; done) | fail) only [SV, SW, Nat.reduceBEq, hn2, viewD, h, cast1]
    · have e2 : runL 5 (u :: r) = 0 := by simp only [runL]; rw [if_neg g]
      rw [e2, endR_no]
      rw [decide_eq_false g] at h
      clear ih e2 g
      simp (disch := first | decide | omega | (simp only [LN]; omega) | (simp only [LN]; done) | fail) only [SV, SW, Nat.reduceBEq, hn2, viewD, h]
theorem ev_run5 (K : Cx) (h77 : K77 K) (s : BS) (i : Nat) (hi : i ≤ s.length) (hs : s.length ≤ 4611686018427387903) : runFun K f55 [vS s, vI i] [] = some (vI ((i + runL 5 (s.drop i) : Nat)), [], []) := by
  have h := run5_loop K h77 s hs (s.drop i) i rfl hi
  unfold endR at h
  by_cases g : runL 5 (s.drop i) = (s.drop i).length
  · rw [if_pos g] at h
    rw [List.length_drop] at g
    have e : i + runL 5 (s.drop i) = s.length := by omega
    rw [e]
    clear g e
    simp (disch := first | decide | omega | (simp only [LN]; omega) | (simp only [LN]; done) | fail) only [SV, SW, f55, Nat.reduceAdd, Nat.reduceBEq, h, oneOr]
  · rw [if_neg g] at h
    clear g
    simp (disch := first | decide | omega | (simp only [LN]; omega) | (simp only [LN]; done) | fail) only [SV, SW, f55, Nat.reduceAdd, Nat.reduceBEq, h, oneOr]
end Go.Vm
end

section
namespace Go.Vm
set_option maxRecDepth 20000

def kindS (s : BS) : Int := if dsh s then 0 else if isSg s then 11 else if bAt s = 58 ∧ 1 < s.length then -1 else 5
def K56 (K : Cx) : Prop := ∀ s : BS, s ≠ [] → s.length ≤ 4611686018427387903 → K.call 60 [vS s] = some (vI (kindS s), [])
theorem dash_loop (K : Cx) (s : BS) (hs : s.length ≤ 4611686018427387903) : ∀ (r : BS) (k : Nat), s.drop k = r → k ≤ s.length →
    lp K 0 [0, 3] f78_L0 ⟨[(0, vS s), (3, vI k)], [], 0, []⟩ = some (if r.all (· == 45) = true then (.exit 0, ⟨[(0, vS s)], [], 0, []⟩) else (.ret, ⟨[(2, vT1 false)], [], 0, []⟩)) := by
  intro r
  induction r with
  | nil =>
    intro k hd hk
    have hx := congrArg List.length hd
    rw [List.length_drop, List.length_nil] at hx
    rw [List.all_nil, if_pos rfl, lp_un f78_L0.eq_1]
    simp (disch := first | decide | omega | (simp only [LN]; omega) | (simp only [LN]; done) | fail) only [SV, SW, Nat.reduceBEq]
  | cons u r ih =>
    intro k hd hk
    have hx := congrArg List.length hd
    rw [List.length_drop, List.length_cons] at hx
    have hn := nth_bAt (s := s) (i := k) (by omega)
    have hn2 : nth s (k : Int) = u := by rw [hn, hd]; rfl
    have ih := ih (k + 1) (by rw [dd, hd]; rfl) (by omega)
    rw [lp_un f78_L0.eq_1, List.all_cons]
    clear hn hd
    by_cases g : u = 45
    · have g1 : ((u.toNat : Int) != 45) = false := by subst g; rfl
      have g2 : (u == 45) = true := by simpa using g
      rw [g2, Bool.true_and, ← ih]
      clear ih g g2
      simp (disch := first | decide | omega | (simp only [LN]; omega) | (simp only [LN]; done) | fail) only [SV, SW, Nat.reduceBEq, hn2, g1, cast1]
    · have g1 : ((u.toNat : Int) != 45) = true := by
        rw [bne_iff_ne]
        exact u8n 45 rfl g
      have g2 : (u == 45) = false := by simpa using g
      rw [g2, Bool.false_and, if_neg (by simp)]
      clear ih g g2
      simp (disch := first | decide | omega | (simp only [LN]; omega) | (simp only [LN]; done) | fail) only [SV, SW, Nat.reduceBEq, hn2, g1]
theorem ev_dashesR (K : Cx) (s : BS) (hs : s.length ≤ 4611686018427387903) : runFun K f78 [vS s] [] = some (vT1 (dsh s), [], []) := by
  have h := dash_loop K s hs s 0 rfl (by omega)
  rw [Int.natCast_zero] at h
  unfold dsh
  cases g : s.all (· == 45) with
  | true =>
    rw [g, if_pos rfl] at h
    clear g
    by_cases g2 : 2 ≤ s.length
    · have e : decide ((1 : Int) < (s.length : Int)) = true := decide_eq_true (by omega)
      rw [decide_eq_true g2]
      simp (disch := first | decide | omega | (simp only [LN]; omega) | (simp only [LN]; done) | fail) only [SV, SW, f78, Nat.reduceBEq, h, oneOr]
    · have e : decide ((1 : Int) < (s.length : Int)) = false := decide_eq_false (by omega)
      rw [decide_eq_false g2]
      simp (disch := first | decide | omega | (simp only [LN]; omega) | (simp only [LN]; done) | fail) only [SV, SW, f78, Nat.reduceBEq, h, oneOr]
  | false =>
    rw [g, if_neg (by simp)] at h
    clear g
    rw [Bool.and_false]
    simp (disch := first | decide | omega | (simp only [LN]; omega) | (simp only [LN]; done) | fail) only [SV, SW, f78, Nat.reduceBEq, h, oneOr]
def eW (w : BS) : List D := [.str w]
instance : Inhabited BS := ⟨[]⟩
theorem nthW {l : List BS} {k : Nat} {t : BS} {r : List BS} (h : l.drop k = t :: r) : k < l.length ∧ nth l (k : Int) = t ∧ l.drop (k + 1) = r := by
  have hl : k < l.length := by
    apply Classical.byContradiction
    intro hc
    rw [List.drop_eq_nil_of_le (by omega)] at h
    cases h
  have h2 := List.drop_eq_getElem_cons hl
  rw [h] at h2
  injection h2 with h3 h4
  exact ⟨hl, by simp [nth, hl, h3], h4.symm⟩
theorem res_loop (K : Cx) (s : BS) (l : List BS) (hl : l.length ≤ 1000) : ∀ (r : List BS) (k : Nat), l.drop k = r → k ≤ l.length →
    lp K 0 [0, 3, 4] f58_L0 ⟨[(0, vS s), (3, .bsl 0 0 l.length), (4, vI k)], [(0, .dat true 1 (l.map eW))], 1, []⟩ = some (if s ∈ r then (.ret, ⟨[(2, vT1 true)], [], 0, []⟩) else (.exit 0, ⟨[], [], 0, []⟩)) := by
  intro r
  induction r with
  | nil =>
    intro k hd hk
    have hx := congrArg List.length hd
    rw [List.length_drop, List.length_nil] at hx
    rw [if_neg (by simp), lp_un f58_L0.eq_1]
    simp (disch := first | decide | omega | (simp only [LN]; omega) | (simp only [LN]; done) | fail) only [SV, SW, Nat.reduceBEq]
  | cons u r ih =>
    intro k hd hk
    obtain ⟨n1, n2, n3⟩ := nthW hd
    have ih := ih (k + 1) n3 (by omega)
    rw [lp_un f58_L0.eq_1]
    clear hd n3
    by_cases g : u = s
    · subst g
      rw [if_pos (by simp)]
      clear ih
      simp (disch := first | decide | omega | (simp only [LN]; omega) | (simp only [LN]; done) | fail) only [SV, SW, Nat.reduceBEq, eW, n2]
    · have e : (s ∈ u :: r) = (s ∈ r) := by
        apply propext
        simp [Ne.symm g]
      simp only [e]
      rw [← ih]
      clear ih e
      have g1 : decide (u = s) = false := decide_eq_false g
      clear g
      simp (disch := first | decide | omega | (simp only [LN]; omega) | (simp only [LN]; done) | fail) only [SV, SW, Nat.reduceBEq, eW, n2, g1, cast1]
theorem ev_reservedR (K : Cx) (s : BS) : runFun K f58 [vS s] [] = some (vT1 (resv s), [], []) := by
  have h := res_loop K s words (by decide) words 0 rfl (by decide)
  rw [Int.natCast_zero] at h
  unfold resv
  by_cases g : s ∈ words
  · rw [if_pos g] at h
    rw [decide_eq_true g]
    clear g
    simp only [words, List.map_cons, List.map_nil, eW, List.length_cons, List.length_nil] at h
    simp (disch := first | decide | omega | (simp only [LN]; omega) | (simp only [LN]; done) | fail) only [SV, SW, f58, Nat.reduceAdd, Nat.reduceBEq, h, oneOr]
  · rw [if_neg g] at h
    rw [decide_eq_false g]
    clear g
    simp only [words, List.map_cons, List.map_nil, eW, List.length_cons, List.length_nil] at h
    simp (disch := first | decide | omega | (simp only [LN]; omega) | (simp only [LN]; done) | fail) only [SV, SW, f58, Nat.reduceAdd, Nat.reduceBEq, h, oneOr]
theorem ev_kindOf (K : Cx) (h78 : K78 K) (s : BS) (h0 : s ≠ []) (hs : s.length ≤ 4611686018427387903) : runFun K f56 [vS s] [] = some (vI (kindS s), [], []) := by
  have h := h78 s hs
  unfold kindS
  cases hd : dsh s with
  | true =>
    rw [hd] at h
    rw [if_pos rfl]
    clear hd
    simp (disch := first | decide | omega | (simp only [LN]; omega) | (simp only [LN]; done) | fail) only [SV, SW, f56, Int.reduceNeg, viewD, h, Nat.reduceBEq, oneOr]
  | false =>
    rw [hd] at h
    rw [if_neg (by simp)]
    clear hd
    unfold isSg signs
    by_cases g1 : s = [61]
    · subst g1; simp (disch := first | decide | omega | (simp only [LN]; omega) | (simp only [LN]; done) | fail) only [SV, SW, f56, Int.reduceNeg, viewD, h, Nat.reduceBEq, oneOr, Nat.lt_irrefl, and_false]
    by_cases g2 : s = [124]
    · subst g2; simp (disch := first | decide | omega | (simp only [LN]; omega) | (simp only [LN]; done) | fail) only [SV, SW, f56, Int.reduceNeg, viewD, h, Nat.reduceBEq, oneOr, Nat.lt_irrefl, and_false]
    by_cases g3 : s = [45, 62]
    · subst g3; simp (disch := first | decide | omega | (simp only [LN]; omega) | (simp only [LN]; done) | fail) only [SV, SW, f56, Int.reduceNeg, viewD, h, Nat.reduceBEq, oneOr, Nat.reduceAdd]
    by_cases g4 : s = [58, 58]
    · subst g4; simp (disch := first | decide | omega | (simp only [LN]; omega) | (simp only [LN]; done) | fail) only [SV, SW, f56, Int.reduceNeg, viewD, h, Nat.reduceBEq, oneOr, Nat.reduceAdd]
    have e : decide (s ∈ ([[61], [124], [45, 62], [58, 58]] : List BS)) = false := by simp [g1, g2, g3, g4]
    rw [e, if_neg (by simp)]
    obtain ⟨c, r, rfl⟩ := List.exists_cons_of_ne_nil h0
    have hn : nth (c :: r) 0 = c := rfl
    have hb : bAt (c :: r) = c := rfl
    rw [hb]
    have hl0 : (0 : Int) < ((c :: r : BS).length : Int) := by rw [List.length_cons]; omega
    have z1 : decide ((c :: r : BS) = [61]) = false := decide_eq_false g1
    have z2 : decide ((c :: r : BS) = [124]) = false := decide_eq_false g2
    have z3 : decide ((c :: r : BS) = [45, 62]) = false := decide_eq_false g3
    have z4 : decide ((c :: r : BS) = [58, 58]) = false := decide_eq_false g4
    clear g1 g2 g3 g4 e hb h0
    generalize hcr : (c :: r : BS) = w at *
    clear hcr
    by_cases g : c = 58
    · have g1 := u8y 58 rfl g
      by_cases g2 : 1 < w.length
      · have e2 : decide ((1 : Int) < (w.length : Int)) = true := decide_eq_true (by omega)
        rw [if_pos ⟨g, g2⟩]
        clear g g2
        simp (disch := first | decide | omega | (simp only [LN]; omega) | (simp only [LN]; done) | fail) only [SV, SW, f56, Int.reduceNeg, viewD, h, Nat.reduceBEq, z1, z2, z3, z4, hn, g1, e2, oneOr]
      · have e2 : decide ((1 : Int) < (w.length : Int)) = false := decide_eq_false (by omega)
        rw [if_neg (fun hc => g2 hc.2)]
        clear g g2
        simp (disch := first | decide | omega | (simp only [LN]; omega) | (simp only [LN]; done) | fail) only [SV, SW, f56, Int.reduceNeg, viewD, h, Nat.reduceBEq, z1, z2, z3, z4, hn, g1, e2, oneOr]
    · have g1 := u8n 58 rfl g
      rw [if_neg (fun hc => g hc.1)]
      clear g
      simp (disch := first | decide | omega | (simp only [LN]; omega) | (simp only [LN]; done) | fail) only [SV, SW, f56, Int.reduceNeg, viewD, h, Nat.reduceBEq, z1, z2, z3, z4, hn, oneOr]
end Go.Vm
end

section
namespace Go.Vm

def numR (b : Int) : BS → Bool → Int → Bool × Int × Nat
  | [], g, n => (g, n, 0)
  | c :: r, g, n =>
    if 0 ≤ hexB c ∧ hexB c < b then
      (fun x : Bool × Int × Nat => (x.1, x.2.1, x.2.2 + 1)) (numR b r (g || decide ((4611686018427387903 - hexB c) / b < n)) (if (g || decide ((4611686018427387903 - hexB c) / b < n)) = true then n else n * b + hexB c))
    else (g, n, 0)
def nmbR (r : BS) : St :=
  let o : Nat := if hexP r then 2 else 0
  let x := numR (if hexP r then 16 else 10) (r.drop o) false 0
  if x.1 = true ∨ inNm (r.drop (o + x.2.2)) = true ∨ (hexP r = false ∧ bAt (r.drop o) = 48 ∧ 1 < x.2.2) then .bad 11
  else .tok 6 [] x.2.1 (o + x.2.2)

theorem num_cnt (b : Int) : ∀ (r : BS) (g h : Bool) (n m : Int), (numL b r g n).2.2 = (numR b r h m).2.2
  | [], g, h, n, m => rfl
  | c :: r, g, h, n, m => by
    unfold numL numR
    split
    · split
      · simp only [num_cnt b r true (h || decide ((4611686018427387903 - hexB c) / b < m)) (hexB c) (if (h || decide ((4611686018427387903 - hexB c) / b < m)) = true then m else m * b + hexB c)]
      · simp only [num_cnt b r g (h || decide ((4611686018427387903 - hexB c) / b < m)) (n * b + hexB c) (if (h || decide ((4611686018427387903 - hexB c) / b < m)) = true then m else m * b + hexB c)]
    · rfl
theorem numL_great (b : Int) : ∀ (r : BS) (n : Int), (numL b r true n).1 = true
  | [], n => rfl
  | c :: r, n => by
    unfold numL
    split
    · split
      · exact numL_great b r _
      · exact numL_great b r _
    · rfl
theorem numR_great (b : Int) : ∀ (r : BS) (n : Int), (numR b r true n).1 = true
  | [], n => rfl
  | c :: r, n => by
    unfold numR
    split
    · rw [Bool.true_or]
      exact numR_great b r _
    · rfl
theorem num_fit (b : Int) : ∀ (r : BS) (n : Int), (numL b r false n).1 = (numR b r false n).1 ∧ ((numR b r false n).1 = false → (numL b r false n).2.1 = (numR b r false n).2.1)
  | [], n => ⟨rfl, fun _ => rfl⟩
  | c :: r, n => by
    unfold numL numR
    split
    · by_cases h : (4611686018427387903 - hexB c) / b < n
      · rw [if_pos h, decide_eq_true h, Bool.false_or]
        simp only [if_true]
        refine ⟨by rw [numL_great, numR_great], ?_⟩
        intro hc
        rw [numR_great] at hc
        cases hc
      · rw [if_neg h, decide_eq_false h, Bool.false_or]
        simp only [Bool.false_eq_true, if_false]
        exact num_fit b r _
    · exact ⟨rfl, fun _ => rfl⟩
theorem nmb_same (r : BS) : nmbR r = numS r := by
  unfold nmbR numS
  generalize (if hexP r = true then 2 else 0) = o
  generalize (if hexP r = true then (16 : Int) else 10) = b
  simp only
  obtain ⟨h1, h2⟩ := num_fit b (r.drop o) 0
  have h3 := num_cnt b (r.drop o) false false 0 0
  rw [h1, h3]
  by_cases hg : (numR b (r.drop o) false 0).1 = true
  · rw [if_pos (Or.inl hg), if_pos (Or.inl hg)]
  · rw [h2 (by simpa using hg)]
    by_cases hc : inNm (r.drop (o + (numR b (r.drop o) false 0).2.2)) = true ∨ (hexP r = false ∧ bAt (r.drop o) = 48 ∧ 1 < (numR b (r.drop o) false 0).2.2)
    · rw [if_pos (Or.inr hc), if_pos (Or.inr hc.symm)]
    · rw [if_neg (fun h => h.elim hg hc), if_neg (fun h => h.elim hg (fun h' => hc h'.symm))]

def charR (r : BS) : St :=
  match soundS (r.drop 1) 39 with
  | none => .bad 12
  | some (x, k) => if bAt (r.drop (1 + k)) = 39 then .tok 7 [] x.toNat (1 + k + 1) else .bad 12
def textR (r : BS) : St :=
  match quotL 34 (r.drop 1) with
  | none => .bad 12
  | some (bs, k) => .tok 8 bs 0 (1 + k + 1)
theorem quotL_nil {q : UInt8} {r : BS} {k : Nat} (h : quotL q r = some ([], k)) : bAt r = q ∧ k = 0 ∧ r ≠ [] := by
  match r with
  | [] => rw [quotL] at h; cases h
  | c :: r' =>
    rw [quotL] at h
    split at h
    · rename_i hc
      injection h with h
      injection h with h1 h2
      exact ⟨hc, h2.symm, by simp⟩
    · split at h
      · cases h
      · rw [Option.map_eq_some_iff] at h
        obtain ⟨z, _, hz⟩ := h
        injection hz with h1 h2
        cases h1
theorem quotL_hit {q : UInt8} {r : BS} (h0 : q ≠ 0) (h : bAt r = q) : quotL q r = some ([], 0) := by
  match r with
  | [] => exact absurd h.symm h0
  | c :: r' =>
    rw [quotL, if_pos (show c = q from h)]
theorem soundS_quote {r : BS} {q : UInt8} (hq : q ≠ 92) (h : bAt r = q) : soundS r q = none := by
  unfold soundS
  rw [if_pos (by rw [h]; exact hq), if_pos (Or.inr (Or.inr h))]
theorem char_same {r : BS} (hr : bAt r = 39) : charR r = quotS r := by
  unfold charR quotS
  rw [hr]
  generalize hy : r.drop 1 = y
  have hdd : ∀ k, r.drop (1 + k) = y.drop k := fun k => by rw [← hy, List.drop_drop]
  match y with
  | [] =>
    rw [quotL]
    have : soundS ([] : BS) 39 = none := by decide
    rw [this]
  | c :: y' =>
    rw [quotL]
    by_cases hc : c = 39
    · rw [if_pos hc, soundS_quote (by decide) (show bAt (c :: y') = 39 from hc)]
      simp
    · rw [if_neg hc]
      cases hs : soundS (c :: y') 39 with
      | none => simp
      | some z =>
        obtain ⟨x, k⟩ := z
        have hk := soundS_len hs
        simp only at hk
        simp only [hdd]
        rw [drop_pred (c := c) hk.1]
        by_cases h39 : bAt ((c :: y').drop k) = 39
        · rw [if_pos h39, quotL_hit (by decide) h39]
          simp only [Option.map_some, List.length_cons, List.length_nil]
          rw [if_neg (by decide), if_pos trivial]
          simp only [bAt]
          congr 1
          omega
        · rw [if_neg h39]
          cases hq : quotL 39 ((c :: y').drop k) with
          | none => simp
          | some w =>
            obtain ⟨bs, m⟩ := w
            simp only [Option.map_some, List.length_cons]
            rw [if_neg (by decide), if_neg]
            intro hl
            have hbs : bs = [] := List.length_eq_zero_iff.1 (by omega)
            subst hbs
            exact h39 (quotL_nil hq).1
theorem text_same {r : BS} (hr : bAt r = 34) : textR r = quotS r := by
  unfold textR quotS
  rw [hr]
  cases quotL 34 (r.drop 1) with
  | none => rfl
  | some z =>
    simp only [if_true]
    congr 1
    omega

def signR (r : BS) : St :=
  if kindS (r.take (runL 5 r)) < 0 then .bad 14
  else if kindS (r.take (runL 5 r)) = 0 then .skip (runL 5 r + nlL (r.drop (runL 5 r)))
  else .tok (kindS (r.take (runL 5 r))).toNat (r.take (runL 5 r)) 0 (runL 5 r)
def oneR (r : BS) : St :=
  if (if bAt r = 95 then !inNm (r.drop 1) else spcB (bAt r)) = true then .tok 9 (r.take 1) 0 1 else .bad 10
def stepR (r : BS) : St :=
  if cls r = 7 then .skip 1
  else if pre [123, 45] r then (match comL 0 r with | none => .bad 13 | some k => .skip k)
  else if cls r = 1 then .tok (if resv (r.take (nameL r)) then 10 else 1) (r.take (nameL r)) 0 (nameL r)
  else if cls r = 2 then .tok (upS r).1 (r.take (upS r).2) 0 (upS r).2
  else if cls r = 3 then nmbR r
  else if bAt r = 39 then charR r
  else if bAt r = 34 then textR r
  else if cls r = 5 then signR r
  else oneR r

theorem nlL_run : ∀ r : BS, runL 5 r + nlL (r.drop (runL 5 r)) = nlL r
  | [] => rfl
  | c :: r => by
    by_cases h : clB c = 5
    · have e : runL 5 (c :: r) = runL 5 r + 1 := by simp only [runL]; rw [if_pos h]
      have hc : c ≠ 10 := by rintro rfl; exact absurd h (by decide)
      rw [e, List.drop_succ_cons]
      simp only [nlL]
      rw [if_neg hc, ← nlL_run r]
      omega
    · have e : runL 5 (c :: r) = 0 := by simp only [runL]; rw [if_neg h]
      rw [e, List.drop_zero, Nat.zero_add]
theorem cl4 : ∀ c : UInt8, clB c = 4 → c = 95 ∨ c = 39 := u8all (by decide +kernel)
theorem run_no {c : UInt8} {r : BS} (h : clB c ≠ 5) : runL 5 (c :: r) = 0 := by simp only [runL]; rw [if_neg h]
theorem sign_same {r : BS} (h : dsh (r.take (runL 5 r)) = false) : signR r = opS r := by
  unfold signR opS kindS
  rw [h]
  generalize r.take (runL 5 r) = x
  simp only [Bool.false_eq_true, if_false]
  by_cases h1 : isSg x = true
  · rw [if_pos h1, if_pos h1, if_neg (by decide), if_neg (by decide)]
    rfl
  · rw [if_neg h1, if_neg h1]
    by_cases h2 : bAt x = 58
    · match x, h2 with
      | [], h2 => exact absurd h2 (by decide)
      | [a], h2 =>
        have h2 : a = 58 := h2
        subst h2
        simp
      | a :: b :: y, h2 =>
        have h2 : a = 58 := h2
        subst h2
        simp [bAt]
    · have n1 : ¬ (bAt x = 58 ∧ 1 < x.length) := fun hc => h2 hc.1
      have n2 : ¬ (bAt x = 58 ∧ x ≠ [58]) := fun hc => h2 hc.1
      simp only [if_neg n1, if_neg n2]
      rw [if_neg (by decide), if_neg (by decide)]
      rfl
theorem sign_dash {r : BS} (h : dsh (r.take (runL 5 r)) = true) : signR r = .skip (nlL r) := by
  unfold signR kindS
  rw [h]
  simp only [if_true]
  rw [if_neg (by decide), nlL_run]
theorem step_same {r : BS} (h0 : r ≠ []) : stepR r = stepS r := by
  obtain ⟨c, t, rfl⟩ := List.exists_cons_of_ne_nil h0
  have hcl : cls (c :: t) = clB c := rfl
  have hb : bAt (c :: t) = c := rfl
  unfold stepR stepS
  by_cases h7 : cls (c :: t) = 7
  · rw [if_pos h7, if_pos h7]
  rw [if_neg h7, if_neg h7]
  by_cases hp : pre [123, 45] (c :: t) = true
  · rw [if_pos hp, if_pos hp]
    cases comL 0 (c :: t) <;> rfl
  rw [if_neg hp, if_neg hp]
  by_cases h5 : clB c = 5
  · have hn : clB 39 ≠ 5 ∧ clB 34 ≠ 5 := by decide
    have hc1 : c ≠ 39 := by rintro rfl; exact hn.1 h5
    have hc2 : c ≠ 34 := by rintro rfl; exact hn.2 h5
    rw [hcl, hb, h5, if_neg (by decide), if_neg (by decide), if_neg (by decide), if_neg hc1, if_neg hc2, if_pos rfl]
    by_cases hd : dsh ((c :: t).take (runL 5 (c :: t))) = true
    · rw [if_pos hd, sign_dash hd]
    · rw [if_neg hd, sign_same (by simpa using hd)]
      unfold tokS
      rw [hcl, h5, if_neg (by decide), if_neg (by decide), if_neg (by decide), if_pos rfl]
  · have hd : dsh ((c :: t).take (runL 5 (c :: t))) = false := by rw [run_no h5]; rfl
    rw [if_neg (show ¬ (dsh ((c :: t).take (runL 5 (c :: t))) = true) by rw [hd]; simp)]
    unfold tokS
    rw [hcl, hb]
    by_cases h1 : clB c = 1
    · rw [if_pos h1, if_pos h1]
    rw [if_neg h1, if_neg h1]
    by_cases h2 : clB c = 2
    · rw [if_pos h2, if_pos h2]
    rw [if_neg h2, if_neg h2]
    by_cases h3 : clB c = 3
    · rw [if_pos h3, if_pos h3, nmb_same]
    rw [if_neg h3, if_neg h3, if_neg h5]
    by_cases e39 : c = 39
    · rw [if_pos e39, char_same (r := c :: t) e39]
      have h4 : clB c = 4 := by subst e39; decide
      rw [if_neg (by rw [h4]; decide), if_neg (by rw [h4]; decide), if_pos h4, if_pos e39]
    rw [if_neg e39]
    by_cases e34 : c = 34
    · rw [if_pos e34, text_same (r := c :: t) e34]
      have h4 : clB c = 0 := by subst e34; decide
      rw [if_neg (by rw [h4]; decide), if_neg (by rw [h4]; decide), if_neg (by rw [h4]; decide), if_pos e34]
    rw [if_neg e34, if_neg h5]
    unfold oneR
    rw [hb]
    by_cases h6 : clB c = 6
    · have hc : c ≠ 95 := by rintro rfl; exact absurd h6 (by decide)
      have hs : spcB c = true := by unfold spcB; exact decide_eq_true h6
      rw [if_neg hc, if_pos hs, if_pos h6]
    rw [if_neg h6]
    have hs : spcB c = false := by unfold spcB; exact decide_eq_false h6
    by_cases h4 : clB c = 4
    · have hc : c = 95 := (cl4 c h4).resolve_right e39
      rw [if_pos h4, if_pos hc, if_neg e39]
      cases inNm ((c :: t).drop 1) <;> rfl
    · have hc : c ≠ 95 := by rintro rfl; exact h4 (by decide)
      rw [if_neg h4, if_neg hc, hs, if_neg (by decide), if_neg e34]
end Go.Vm
end

section
namespace Go.Vm
set_option maxRecDepth 20000
/- 'sloth/slothref01.nothing' -/
def f529 : Fun := ⟨
 (.seq
  (.reg [⟨[(2, .box (.agg (.cons (.int .i64 0) (.cons (.str []) (.cons (.int .i64 0) (.cons (.int .i64 0) (.cons (.int .i64 0) (.cons (.int .i64 0) .nil))))))))], [], [], none, [0, 2], 1, [], [], []⟩])
  (.seq
   (.reg [⟨[], [], [], some (none, .store 6 (.sl 2) (.set 4 1 (.sl 0) (.agg (.cons (.int .i64 0) (.cons (.str []) (.cons (.int .i64 0) (.cons (.int .i64 0) (.cons (.int .i64 0) (.cons (.int .i64 0) .nil))))))))), [2], 3, [], [], []⟩])
   (.seq
    (.tidy 0 [2])
    .ret))),
 [(.ld 6 true (.sl 2))], false⟩
theorem f529_ok : funOk Go.Proofs.Tryz.prog 29 0 1 f529 = true := by kernel_rfl

/- 'sloth/slothref01.comment' -/
def f530_L0 : C :=
 (.seq
  (.seq
   (.reg [⟨[], [(10, (.bin .lss (.bin .add (.sl 1) (.int .i64 1)) (.len true (.sl 0))))], [], none, [0, 1, 4, 5], 5, [], [], []⟩])
   (.cond (.sl 10)
    .skip
    (.seq
     (.tidy 0 [4])
     (.exit 0))))
  (.block 1
   (.block 2
    (.seq
     (.reg [⟨[], [(13, (.and (.bin .eql (.ix (.sl 0) (.sl 1)) (.int .u8 123)) (.bin .eql (.ix (.sl 0) (.bin .add (.sl 1) (.int .i64 1))) (.int .u8 45))))], [], none, [0, 1, 4, 5], 12, [], [], []⟩])
     (.cond (.sl 13)
      (.seq
       (.reg [⟨[], [(5, (.bin .add (.sl 5) (.int .i64 1)))], [], none, [0, 1, 4], 3, [], [], []⟩])
       (.reg [⟨[], [(1, (.bin .add (.sl 1) (.int .i64 2)))], [], none, [0, 4, 5], 3, [], [], []⟩]))
      (.seq
       (.reg [⟨[], [(29, (.and (.bin .eql (.ix (.sl 0) (.sl 1)) (.int .u8 45)) (.bin .eql (.ix (.sl 0) (.bin .add (.sl 1) (.int .i64 1))) (.int .u8 125))))], [], none, [0, 1, 4, 5], 12, [], [], []⟩])
       (.cond (.sl 29)
        (.seq
         (.reg [⟨[], [(5, (.bin .sub (.sl 5) (.int .i64 1)))], [], none, [0, 1, 4], 3, [], [], []⟩])
         (.seq
          (.reg [⟨[], [(1, (.bin .add (.sl 1) (.int .i64 2)))], [], none, [0, 4, 5], 3, [], [], []⟩])
          (.seq
           (.reg [⟨[], [(46, (.bin .eql (.sl 5) (.int .i64 0)))], [], none, [0, 1, 4, 5], 2, [], [], []⟩])
           (.cond (.sl 46)
            (.seq
             (.reg [⟨[], [], [], some (none, .store 6 (.sl 4) (.call 29 (.cons (.sl 1) .nil))), [4], 3, [], [], []⟩])
             (.seq
              (.tidy 0 [4])
              .ret))
            .skip))))
        (.reg [⟨[], [(1, (.bin .add (.sl 1) (.int .i64 1)))], [], none, [0, 4, 5], 3, [], [], []⟩]))))))))
def f530 : Fun := ⟨
 (.seq
  (.reg [⟨[(4, .box (.agg (.cons (.int .i64 0) (.cons (.str []) (.cons (.int .i64 0) (.cons (.int .i64 0) (.cons (.int .i64 0) (.cons (.int .i64 0) .nil))))))))], [], [], none, [0, 1, 4], 1, [], [], []⟩])
  (.seq
   (.reg [⟨[], [(5, (.int .i64 0))], [], none, [0, 1, 4], 1, [], [], []⟩])
   (.seq
    (.block 0
     (.seq (.tidy 0 [0, 1, 4, 5]) (.loop (.seq (.tidy 0 [0, 1, 4, 5]) f530_L0))))
    (.seq
     (.reg [⟨[], [], [], some (none, .store 6 (.sl 4) (.call 52 (.cons (.int .i64 13) .nil))), [4], 2, [], [], []⟩])
     (.seq
      (.tidy 0 [4])
      .ret))))),
 [(.ld 6 true (.sl 4))], false⟩
theorem f530_ok : funOk Go.Proofs.Tryz.prog 30 0 2 f530 = true := by kernel_rfl

/- 'sloth/slothref01.lower' -/
def f531 : Fun := ⟨
 (.seq
  (.reg [⟨[(4, .box (.agg (.cons (.int .i64 0) (.cons (.str []) (.cons (.int .i64 0) (.cons (.int .i64 0) (.cons (.int .i64 0) (.cons (.int .i64 0) .nil))))))))], [], [], none, [0, 1, 4], 1, [], [], []⟩])
  (.seq
   (.reg [⟨[], [(5, (.call 53 (.cons (.sl 0) (.cons (.sl 1) .nil))))], [], none, [0, 1, 4], 4, [], [], []⟩])
   (.seq
    (.reg [⟨[], [(6, (.int .i64 1))], [], none, [0, 1, 4, 5], 1, [], [], []⟩])
    (.seq
     (.reg [⟨[], [(7, (.call 54 (.cons (.cut true true true false 0 (.sl 0) (.sl 1) (.sl 5) .nil) .nil)))], [], none, [0, 1, 4, 5, 6], 6, [], [], []⟩])
     (.seq
      (.seq
       (.reg [⟨[], [(16, (.sl 7))], [], none, [0, 1, 4, 5, 6], 1, [], [], []⟩])
       (.cond (.sl 16)
        (.reg [⟨[], [(6, (.int .i64 10))], [], none, [0, 1, 4, 5], 1, [], [], []⟩])
        .skip))
      (.seq
       (.reg [⟨[], [], [], some (none, .store 6 (.sl 4) (.set 4 1 (.sl 5) (.set 0 4 (.set 3 1 (.sl 1) (.set 1 1 (.cut true true true false 0 (.sl 0) (.sl 1) (.sl 5) .nil) (.set 0 1 (.sl 6) (.agg (.cons (.int .i64 0) (.cons (.str []) (.cons (.int .i64 0) (.cons (.int .i64 0) .nil)))))))) (.agg (.cons (.int .i64 0) (.cons (.str []) (.cons (.int .i64 0) (.cons (.int .i64 0) (.cons (.int .i64 0) (.cons (.int .i64 0) .nil)))))))))), [4], 10, [], [], []⟩])
       (.seq
        (.tidy 0 [4])
        .ret))))))),
 [(.ld 6 true (.sl 4))], false⟩
theorem f531_ok : funOk Go.Proofs.Tryz.prog 31 0 2 f531 = true := by kernel_rfl

/- 'sloth/slothref01.upper' -/
def f532 : Fun := ⟨
 (.seq
  (.reg [⟨[(4, .box (.agg (.cons (.int .i64 0) (.cons (.str []) (.cons (.int .i64 0) (.cons (.int .i64 0) (.cons (.int .i64 0) (.cons (.int .i64 0) .nil))))))))], [], [], none, [0, 1, 4], 1, [], [], []⟩])
  (.seq
   (.reg [⟨[], [(5, (.call 53 (.cons (.sl 0) (.cons (.sl 1) .nil))))], [], none, [0, 1, 4], 4, [], [], []⟩])
   (.seq
    (.reg [⟨[], [(6, (.int .i64 2))], [], none, [0, 1, 4, 5], 1, [], [], []⟩])
    (.seq
     (.seq
      (.reg [⟨[], [(24, (.and (.bin .lss (.bin .add (.sl 5) (.int .i64 1)) (.len true (.sl 0))) (.bin .eql (.ix (.sl 0) (.sl 5)) (.int .u8 46))))], [], none, [0, 1, 4, 5, 6], 11, [], [], []⟩])
      (.cond (.sl 24)
       (.seq
        (.reg [⟨[], [(7, (.call 53 (.cons (.sl 0) (.cons (.bin .add (.sl 5) (.int .i64 1)) .nil))))], [], none, [0, 1, 4, 5, 6], 5, [], [], []⟩])
        (.seq
         (.reg [⟨[], [(8, (.call 26 (.cons (.ix (.sl 0) (.bin .add (.sl 5) (.int .i64 1))) .nil)))], [], none, [0, 1, 4, 5, 6, 7], 6, [], [], []⟩])
         (.seq
          (.reg [⟨[], [(9, (.call 25 (.cons (.ix (.sl 0) (.bin .add (.sl 5) (.int .i64 1))) .nil)))], [], none, [0, 1, 4, 5, 6, 7, 8], 6, [], [], []⟩])
          (.seq
           (.reg [⟨[], [(10, (.call 54 (.cons (.cut true true true false 0 (.sl 0) (.bin .add (.sl 5) (.int .i64 1)) (.sl 7) .nil) .nil)))], [], none, [0, 1, 4, 5, 6, 7, 8, 9], 7, [], [], []⟩])
           (.block 0
            (.seq
             (.reg [⟨[], [(45, (.sl 8))], [], none, [0, 1, 4, 5, 6, 7, 9, 10], 2, [], [], []⟩])
             (.cond (.sl 45)
              (.seq
               (.reg [⟨[], [(6, (.int .i64 4))], [], none, [0, 1, 4, 7], 1, [], [], []⟩])
               (.reg [⟨[], [(5, (.sl 7))], [], none, [0, 1, 4, 6], 2, [], [], []⟩]))
              (.seq
               (.reg [⟨[], [(48, (.and (.sl 9) (.un .not (.sl 10))))], [], none, [0, 1, 4, 5, 6, 7], 6, [], [], []⟩])
               (.cond (.sl 48)
                (.seq
                 (.reg [⟨[], [(6, (.int .i64 3))], [], none, [0, 1, 4, 7], 1, [], [], []⟩])
                 (.reg [⟨[], [(5, (.sl 7))], [], none, [0, 1, 4, 6], 2, [], [], []⟩]))
                .skip)))))))))
       .skip))
     (.seq
      (.reg [⟨[], [], [], some (none, .store 6 (.sl 4) (.set 4 1 (.sl 5) (.set 0 4 (.set 3 1 (.sl 1) (.set 1 1 (.cut true true true false 0 (.sl 0) (.sl 1) (.sl 5) .nil) (.set 0 1 (.sl 6) (.agg (.cons (.int .i64 0) (.cons (.str []) (.cons (.int .i64 0) (.cons (.int .i64 0) .nil)))))))) (.agg (.cons (.int .i64 0) (.cons (.str []) (.cons (.int .i64 0) (.cons (.int .i64 0) (.cons (.int .i64 0) (.cons (.int .i64 0) .nil)))))))))), [4], 10, [], [], []⟩])
      (.seq
       (.tidy 0 [4])
       .ret)))))),
 [(.ld 6 true (.sl 4))], false⟩
theorem f532_ok : funOk Go.Proofs.Tryz.prog 32 0 2 f532 = true := by kernel_rfl

/- 'sloth/slothref01.fault' -/
def f552 : Fun := ⟨
 (.seq
  (.reg [⟨[(2, .box (.agg (.cons (.int .i64 0) (.cons (.str []) (.cons (.int .i64 0) (.cons (.int .i64 0) (.cons (.int .i64 0) (.cons (.int .i64 0) .nil))))))))], [], [], none, [0, 2], 1, [], [], []⟩])
  (.seq
   (.reg [⟨[], [], [], some (none, .store 6 (.sl 2) (.set 5 1 (.sl 0) (.agg (.cons (.int .i64 0) (.cons (.str []) (.cons (.int .i64 0) (.cons (.int .i64 0) (.cons (.int .i64 0) (.cons (.int .i64 0) .nil))))))))), [2], 3, [], [], []⟩])
   (.seq
    (.tidy 0 [2])
    .ret))),
 [(.ld 6 true (.sl 2))], false⟩
theorem f552_ok : funOk Go.Proofs.Tryz.prog 52 0 1 f552 = true := by kernel_rfl

/- 'sloth/slothref01.hex' -/
def f555 : Fun := ⟨
 (.seq
  (.reg [⟨[], [], [(.bool false)], none, [0], 1, [], [], []⟩])
  (.seq
   (.reg [⟨[], [(2, (.or (.and (.bin .geq (.sl 0) (.int .u8 48)) (.bin .leq (.sl 0) (.int .u8 57))) (.and (.bin .geq (.sl 0) (.int .u8 97)) (.bin .leq (.sl 0) (.int .u8 102)))))], [], none, [], 15, [], [], []⟩])
   (.seq
    (.tidy 0 [2])
    .ret))),
 [(.sl 2)], false⟩
theorem f555_ok : funOk Go.Proofs.Tryz.prog 55 0 1 f555 = true := by kernel_rfl

/- 'sloth/slothref01.worth' -/
def f556 : Fun := ⟨
 (.seq
  (.reg [⟨[], [], [(.int .i64 0)], none, [0], 1, [], [], []⟩])
  (.seq
   (.seq
    (.reg [⟨[], [(4, (.bin .geq (.sl 0) (.int .u8 97)))], [], none, [0], 2, [], [], []⟩])
    (.cond (.sl 4)
     (.seq
      (.reg [⟨[], [(2, (.bin .add (.conv .i64 (.bin .sub (.sl 0) (.int .u8 97))) (.int .i64 10)))], [], none, [], 5, [], [], []⟩])
      (.seq
       (.tidy 0 [2])
       .ret))
     .skip))
   (.seq
    (.reg [⟨[], [(2, (.conv .i64 (.bin .sub (.sl 0) (.int .u8 48))))], [], none, [], 4, [], [], []⟩])
    (.seq
     (.tidy 0 [2])
     .ret)))),
 [(.sl 2)], false⟩
theorem f556_ok : funOk Go.Proofs.Tryz.prog 56 0 1 f556 = true := by kernel_rfl

def stR (i : Nat) : St → V
  | .bad e => .agg [vI 0, vS [], vI 0, vI 0, vI 0, vI e]
  | .skip k => .agg [vI 0, vS [], vI 0, vI 0, vI ((i + k : Nat)), vI 0]
  | .tok k t m n => .agg [vI k, vS t, vI m, vI i, vI ((i + n : Nat)), vI 0]
theorem stR_bad (i e : Nat) : stR i (.bad e) = .agg [vI 0, vS [], vI 0, vI 0, vI 0, vI e] := rfl
theorem stR_skip (i k : Nat) : stR i (.skip k) = .agg [vI 0, vS [], vI 0, vI 0, vI ((i + k : Nat)), vI 0] := rfl
theorem stR_tok (i k t m n) : stR i (.tok k t m n) = .agg [vI k, vS t, vI m, vI i, vI ((i + n : Nat)), vI 0] := rfl
def K552 (K : Cx) : Prop := ∀ e : Int, K.call 52 [vI e] = some (.agg [vI 0, vS [], vI 0, vI 0, vI 0, vI e], [])
def K529 (K : Cx) : Prop := ∀ n : Int, K.call 29 [vI n] = some (.agg [vI 0, vS [], vI 0, vI 0, vI n, vI 0], [])
def K555 (K : Cx) : Prop := ∀ c : UInt8, K.call 55 [vB c] = some (vT1 (decide (0 ≤ hexB c)), [])
def K556 (K : Cx) : Prop := ∀ c : UInt8, 0 ≤ hexB c → K.call 56 [vB c] = some (vI (hexB c), [])
def comR (r : BS) : St := match comL 0 r with | none => .bad 13 | some k => .skip k
def K530 (K : Cx) : Prop := ∀ (s : BS) (i : Nat), i ≤ s.length → s.length ≤ 2000000 → K.call 30 [vS s, vI i] = some (stR i (comR (s.drop i)), [])
def lowR (r : BS) : St := .tok (if resv (r.take (nameL r)) then 10 else 1) (r.take (nameL r)) 0 (nameL r)
def K531 (K : Cx) : Prop := ∀ (s : BS) (i : Nat), i < s.length → s.length ≤ 2000000 → K.call 31 [vS s, vI i] = some (stR i (lowR (s.drop i)), [])
def uppR (r : BS) : St := .tok (upS r).1 (r.take (upS r).2) 0 (upS r).2
def K532 (K : Cx) : Prop := ∀ (s : BS) (i : Nat), i < s.length → s.length ≤ 2000000 → K.call 32 [vS s, vI i] = some (stR i (uppR (s.drop i)), [])

theorem ev_fault (K : Cx) (e : Int) : runFun K f552 [vI e] [] = some (.agg [vI 0, vS [], vI 0, vI 0, vI 0, vI e], [], []) := by
  simp (disch := first | decide | omega | (simp only [LN]; omega) | (simp only [LN]; done) | fail) only [SV, SW, f552, Nat.reduceAdd, Nat.reduceBEq, lose, oneOr]
theorem ev_nothing (K : Cx) (e : Int) : runFun K f529 [vI e] [] = some (.agg [vI 0, vS [], vI 0, vI 0, vI e, vI 0], [], []) := by
  simp (disch := first | decide | omega | (simp only [LN]; omega) | (simp only [LN]; done) | fail) only [SV, SW, f529, Nat.reduceAdd, Nat.reduceBEq, lose, oneOr]
theorem hex_cl : ∀ c : UInt8, (decide (48 ≤ (c.toNat : Int)) && decide ((c.toNat : Int) ≤ 57) || decide (97 ≤ (c.toNat : Int)) && decide ((c.toNat : Int) ≤ 102)) = decide (0 ≤ hexB c) := u8all (by decide +kernel)
theorem ev_hexR (K : Cx) (c : UInt8) : runFun K f555 [vB c] [] = some (vT1 (decide (0 ≤ hexB c)), [], []) := by
  rw [← hex_cl]
  show runFun K f555 [.d false (.int .u8 (c.toNat : Int))] [] = _
  generalize (c.toNat : Int) = n
  by_cases a : 48 ≤ n <;> by_cases b : n ≤ 57 <;> by_cases d : 97 ≤ n <;> by_cases e : n ≤ 102 <;> simp (disch := first | decide | omega | (simp only [LN]; omega) | (simp only [LN]; done) | fail) only [SV, SW, f555, a, b, d, e, oneOr]
theorem worth_cl : ∀ c : UInt8, 0 ≤ hexB c → (97 ≤ (c.toNat : Int) ∧ (c.toNat : Int) < 256 ∧ hexB c = (c.toNat : Int) - 97 + 10) ∨ (¬ 97 ≤ (c.toNat : Int) ∧ 48 ≤ (c.toNat : Int) ∧ hexB c = (c.toNat : Int) - 48) := u8all (by decide +kernel)
theorem wrap8' {x : Int} (h0 : 0 ≤ x) (h : x < 256) : IntKind.u8.wrap x = x := by
  simp only [IntKind.wrap, IntKind.bits, IntKind.signed, Bool.false_and, Bool.false_eq_true, if_false]
  omega
theorem ev_worth (K : Cx) (c : UInt8) (h : 0 ≤ hexB c) : runFun K f556 [vB c] [] = some (vI (hexB c), [], []) := by
  rcases worth_cl c h with ⟨h1, h2, h3⟩ | ⟨h1, h2, h3⟩
  · rw [h3]
    show runFun K f556 [.d false (.int .u8 (c.toNat : Int))] [] = _
    generalize (c.toNat : Int) = n at h1 h2 ⊢
    have e := wrap8' (x := n - 97) (by omega) (by omega)
    clear h h3
    simp (disch := first | decide | omega | (simp only [LN]; omega) | (simp only [LN]; done) | fail) only [SV, SW, f556, Nat.reduceBEq, e, evConv, oneOr]
  · rw [h3]
    have h4 : (c.toNat : Int) < 97 := by omega
    show runFun K f556 [.d false (.int .u8 (c.toNat : Int))] [] = _
    generalize (c.toNat : Int) = n at h1 h2 h4 ⊢
    have e := wrap8' (x := n - 48) (by omega) (by omega)
    clear h h3
    simp (disch := first | decide | omega | (simp only [LN]; omega) | (simp only [LN]; done) | fail) only [SV, SW, f556, Nat.reduceBEq, e, evConv, oneOr]

def comOutR (i : Nat) : Option Nat → Ex × S
  | none => (.exit 0, ⟨[(4, .ptr 0 0 0)], [(0, .mix 6 [[vI 0, vS [], vI 0, vI 0, vI 0, vI 0]])], 1, []⟩)
  | some n => (.ret, ⟨[(4, .ptr 0 0 0)], [(0, .mix 6 [[vI 0, vS [], vI 0, vI 0, vI ((i + n : Nat)), vI 0]])], 1, []⟩)
theorem comOutR_map (i k : Nat) (o : Option Nat) : comOutR i (o.map (· + k)) = comOutR (i + k) o := by
  cases o with
  | none => rfl
  | some n => simp only [comOutR, Option.map_some]; rw [show i + (n + k) = i + k + n from by omega]
theorem comR_loop (K : Cx) (h29 : K529 K) (s : BS) (hs : s.length ≤ 2000000) : ∀ (k i : Nat) (d : Int), i + k = s.length → -2000000 ≤ d + (k : Int) ∧ d ≤ i ∧ -i ≤ d →
    lp K 0 [0, 1, 4, 5] f530_L0 ⟨[(0, vS s), (1, vI i), (4, .ptr 0 0 0), (5, vI d)], [(0, .mix 6 [[vI 0, vS [], vI 0, vI 0, vI 0, vI 0]])], 1, []⟩ = some (comOutR i (comL d (s.drop i))) := by
  intro k
  induction k using Nat.strongRecOn with
  | ind k ih =>
    intro i d hi hd
    match k, hi, hd, ih with
    | 0, hi, hd, ih =>
      have e : s.drop i = [] := by rw [List.drop_eq_nil_iff]; omega
      rw [e]
      simp only [comL, comOutR]
      rw [lp_un f530_L0.eq_1]
      simp (disch := first | decide | omega | (simp only [LN]; omega) | (simp only [LN]; done) | fail) only [SV, SW, Nat.reduceBEq]
    | 1, hi, hd, ih =>
      have hlt : i < s.length := by omega
      have e : s.drop i = [s[i]] := by rw [List.drop_eq_getElem_cons hlt, List.drop_eq_nil_iff.2 (by omega)]
      rw [e]
      simp only [comL, comOutR]
      rw [lp_un f530_L0.eq_1]
      simp (disch := first | decide | omega | (simp only [LN]; omega) | (simp only [LN]; done) | fail) only [SV, SW, Nat.reduceBEq]
    | k + 2, hi, hd, ih =>
      have hlt : i < s.length := by omega
      have hlt2 : i + 1 < s.length := by omega
      have e : s.drop i = s[i] :: s[i + 1] :: s.drop (i + 2) := by rw [List.drop_eq_getElem_cons hlt, List.drop_eq_getElem_cons hlt2]
      have e1 : s.drop (i + 1) = s[i + 1] :: s.drop (i + 2) := List.drop_eq_getElem_cons hlt2
      have hn := nth_bAt hlt
      have hn2 := nth_bAt hlt2
      rw [e] at hn
      rw [e1] at hn2
      simp only [bAt] at hn hn2
      have ih1 := ih (k + 1) (by omega) (i + 1) d (by omega) (by omega)
      have ih2 := ih k (by omega) (i + 2) (d + 1) (by omega) (by omega)
      have ih3 := ih k (by omega) (i + 2) (d - 1) (by omega) (by omega)
      rw [e1] at ih1
      have h29 := h29 ((i + 2 : Nat))
      rw [e]
      clear e e1 ih
      generalize s[i] = x at hn ih1 ⊢
      generalize s[i + 1] = y at hn2 ih1 ⊢
      simp only [comL]
      rw [lp_un f530_L0.eq_1]
      by_cases g : x = 123 ∧ y = 45
      · rw [if_pos g, comOutR_map]
        obtain ⟨g1, g2⟩ := g
        have q1 := u8y 123 rfl g1
        have q2 := u8y 45 rfl g2
        clear g1 g2
        simp (disch := first | decide | omega | (simp only [LN]; omega) | (simp only [LN]; done) | fail) only [SV, SW, Nat.reduceBEq, cast1, hn, q1, hn2, q2, cast2]
        exact ih2
      · rw [if_neg g]
        have e1 : (((x.toNat : Int) == 123) && ((y.toNat : Int) == 45)) = false := by
          by_cases a : x = 123
          · have := u8n 45 rfl (fun b => g ⟨a, b⟩)
            rw [beq_false_of_ne this, Bool.and_false]
          · rw [beq_false_of_ne (u8n 123 rfl a), Bool.false_and]
        by_cases g2 : x = 45 ∧ y = 125
        · rw [if_pos g2]
          obtain ⟨g2, g3⟩ := g2
          have q1 := u8y 45 rfl g2
          have q2 := u8y 125 rfl g3
          clear g g2 g3 e1
          by_cases g3 : d - 1 = 0
          · rw [if_pos g3]
            clear ih1 ih2 ih3
            simp only [comOutR]
            simp (disch := first | decide | omega | (simp only [LN]; omega) | (simp only [LN]; done) | fail) only [SV, SW, Nat.reduceBEq, cast1, hn, q1, hn2, q2, g3, cast2, viewD, h29, Nat.reduceAdd, lose]
          · rw [if_neg g3, comOutR_map]
            clear ih1 ih2
            simp (disch := first | decide | omega | (simp only [LN]; omega) | (simp only [LN]; done) | fail) only [SV, SW, Nat.reduceBEq, cast1, hn, q1, hn2, q2, cast2]
            exact ih3
        · rw [if_neg g2, comOutR_map]
          have e2 : (((x.toNat : Int) == 45) && ((y.toNat : Int) == 125)) = false := by
            by_cases a : x = 45
            · have := u8n 125 rfl (fun b => g2 ⟨a, b⟩)
              rw [beq_false_of_ne this, Bool.and_false]
            · rw [beq_false_of_ne (u8n 45 rfl a), Bool.false_and]
          clear g g2 ih2 ih3
          simp (disch := first | decide | omega | (simp only [LN]; omega) | (simp only [LN]; done) | fail) only [SV, SW, Nat.reduceBEq, cast1, hn, hn2, e1, e2]
          exact ih1
theorem ev_commentR (K : Cx) (h52 : K552 K) (h29 : K529 K) (s : BS) (i : Nat) (hi : i ≤ s.length) (hs : s.length ≤ 2000000) : runFun K f530 [vS s, vI i] [] = some (stR i (comR (s.drop i)), [], []) := by
  have h := comR_loop K h29 s hs (s.length - i) i 0 (by omega) (by omega)
  have h52 := h52 13
  unfold comR
  cases g : comL 0 (s.drop i) with
  | none =>
    rw [g] at h
    simp only [comOutR] at h
    simp only [stR_bad]
    clear g
    simp (disch := first | decide | omega | (simp only [LN]; omega) | (simp only [LN]; done) | fail) only [SV, SW, f530, Nat.reduceAdd, Nat.reduceBEq, h, viewD, h52, lose, oneOr, nc]
  | some n =>
    rw [g] at h
    simp only [comOutR] at h
    simp only [stR_skip]
    clear g h52
    simp (disch := first | decide | omega | (simp only [LN]; omega) | (simp only [LN]; done) | fail) only [SV, SW, f530, Nat.reduceAdd, Nat.reduceBEq, h, oneOr]

theorem ev_lower (K : Cx) (h76 : K76 K) (h58 : K58 K) (s : BS) (i : Nat) (hi : i < s.length) (hs : s.length ≤ 2000000) : runFun K f531 [vS s, vI i] [] = some (stR i (lowR (s.drop i)), [], []) := by
  have h := h76 s i (by omega) (by omega)
  have hle := nameL_le (s.drop i)
  rw [List.length_drop] at hle
  have hc := fun H => cut_slh H s i (i + nameL (s.drop i)) (by omega) (by omega)
  rw [show i + nameL (s.drop i) - i = nameL (s.drop i) from by omega] at hc
  have hr := h58 ((s.drop i).take (nameL (s.drop i)))
  unfold lowR
  cases g : resv ((s.drop i).take (nameL (s.drop i))) with
  | true =>
    rw [g] at hr
    simp only [stR_tok, if_true]
    clear g
    simp (disch := first | decide | omega | (simp only [LN]; omega) | (simp only [LN]; done) | fail) only [SV, SW, f531, Nat.reduceAdd, Nat.reduceBEq, viewD, h, hc, hr, lose, oneOr, nc]
  | false =>
    rw [g] at hr
    simp only [stR_tok, Bool.false_eq_true, if_false]
    clear g
    simp (disch := first | decide | omega | (simp only [LN]; omega) | (simp only [LN]; done) | fail) only [SV, SW, f531, Nat.reduceAdd, Nat.reduceBEq, viewD, h, hc, hr, lose, oneOr, nc]

theorem upS_cases (r : BS) : (¬ (nameL r + 1 < r.length ∧ bAt (r.drop (nameL r)) = 46) ∧ upS r = (2, nameL r)) ∨
    (nameL r + 1 < r.length ∧ bAt (r.drop (nameL r)) = 46 ∧ upS r = if cls (r.drop (nameL r + 1)) = 2 then (4, nameL r + 1 + nameL (r.drop (nameL r + 1))) else if cls (r.drop (nameL r + 1)) = 1 ∧ resv ((r.drop (nameL r + 1)).take (nameL (r.drop (nameL r + 1)))) = false then (3, nameL r + 1 + nameL (r.drop (nameL r + 1))) else (2, nameL r)) := by
  unfold upS
  by_cases h : r.length ≤ nameL r + 1 ∨ bAt (r.drop (nameL r)) ≠ 46
  · left
    refine ⟨fun hc => ?_, by simp only [if_pos h]⟩
    rcases h with h | h
    · omega
    · exact h hc.2
  · right
    have h1 : nameL r + 1 < r.length := by
      apply Classical.byContradiction
      intro hc; exact h (.inl (by omega))
    have h2 : bAt (r.drop (nameL r)) = 46 := by
      apply Classical.byContradiction
      intro hc; exact h (.inr hc)
    refine ⟨h1, h2, ?_⟩
    simp only [if_neg h]
    generalize r.drop (nameL r + 1) = q
    by_cases a : cls q = 1
    · rw [if_pos a, if_neg (show ¬ cls q = 2 by omega)]
      cases b : resv (q.take (nameL q))
      · rw [if_neg (by simp), if_pos ⟨a, rfl⟩]
      · rw [if_pos rfl, if_neg (by simp)]
    · rw [if_neg a]
      by_cases b : cls q = 2
      · rw [if_pos b, if_pos b]
      · rw [if_neg b, if_neg b, if_neg (fun hc => a hc.1)]
theorem clsC {r : BS} {c : UInt8} (h : bAt r = c) (h0 : r ≠ []) (k : Nat) : decide (clB c = k) = decide (cls r = k) := by
  cases r with
  | nil => exact absurd rfl h0
  | cons a r => simp only [bAt] at h; subst h; rfl
theorem ev_upper2 (K : Cx) (h76 : K76 K) (h58 : K58 K) (h74 : K74 K) (h75 : K75 K) (s : BS) (i : Nat) (hi : i < s.length) (hs : s.length ≤ 2000000) : runFun K f532 [vS s, vI i] [] = some (stR i (uppR (s.drop i)), [], []) := by
  have h := h76 s i (by omega) (by omega)
  have hle := nameL_le (s.drop i)
  rw [List.length_drop] at hle
  have hc := fun H => cut_slh H s i (i + nameL (s.drop i)) (by omega) (by omega)
  rw [show i + nameL (s.drop i) - i = nameL (s.drop i) from by omega] at hc
  have hlen : (s.drop i).length = s.length - i := List.length_drop ..
  unfold uppR
  rw [stR_tok]
  rcases upS_cases (s.drop i) with ⟨g1, g2⟩ | ⟨g1, g2, g3⟩
  · rw [g2]
    simp only
    by_cases g3 : nameL (s.drop i) + 1 < (s.drop i).length
    · have hb : ¬ bAt ((s.drop i).drop (nameL (s.drop i))) = 46 := fun hc => g1 ⟨g3, hc⟩
      have hn := nth_bAt (s := s) (i := i + nameL (s.drop i)) (by omega)
      rw [dd] at hn
      have hb := u8n 46 rfl hb
      have hlt : i + nameL (s.drop i) + 1 < s.length := by omega
      clear g1 g2 g3
      generalize nameL (s.drop i) = n at *
      generalize bAt ((s.drop i).drop n) = c at *
      simp (disch := first | decide | omega | (simp only [LN]; omega) | (simp only [LN]; done) | fail) only [SV, SW, f532, Nat.reduceAdd, Nat.reduceBEq, viewD, h, cast1, hn, hc, lose, oneOr, nc]
    · have hlt : ¬ i + nameL (s.drop i) + 1 < s.length := by omega
      clear g1 g2 g3
      generalize nameL (s.drop i) = n at *
      simp (disch := first | decide | omega | (simp only [LN]; omega) | (simp only [LN]; done) | fail) only [SV, SW, f532, Nat.reduceAdd, Nat.reduceBEq, viewD, h, cast1, hc, lose, oneOr, nc]
  · have hn := nth_bAt (s := s) (i := i + nameL (s.drop i)) (by omega)
    rw [dd, g2] at hn
    have hn2 := nth_bAt (s := s) (i := i + nameL (s.drop i) + 1) (by omega)
    have h2 := h76 s (i + nameL (s.drop i) + 1) (by omega) (by omega)
    have hd : s.drop (i + nameL (s.drop i) + 1) = (s.drop i).drop (nameL (s.drop i) + 1) := by rw [List.drop_drop, Nat.add_assoc]
    rw [hd] at hn2 h2
    have hle2 := nameL_le ((s.drop i).drop (nameL (s.drop i) + 1))
    rw [List.length_drop, List.length_drop] at hle2
    have hc2 := fun H => cut_slh H s (i + nameL (s.drop i) + 1) (i + nameL (s.drop i) + 1 + nameL ((s.drop i).drop (nameL (s.drop i) + 1))) (by omega) (by omega)
    have hc3 := fun H => cut_slh H s i (i + (nameL (s.drop i) + 1 + nameL ((s.drop i).drop (nameL (s.drop i) + 1)))) (by omega) (by omega)
    rw [hd, Nat.add_sub_cancel_left] at hc2
    rw [Nat.add_sub_cancel_left] at hc3
    have hne : (s.drop i).drop (nameL (s.drop i) + 1) ≠ [] := by
      intro hc
      have := congrArg List.length hc
      rw [List.length_drop, List.length_nil] at this
      omega
    have t1 := h74 (bAt ((s.drop i).drop (nameL (s.drop i) + 1)))
    have t2 := h75 (bAt ((s.drop i).drop (nameL (s.drop i) + 1)))
    rw [clsC rfl hne] at t1 t2
    have t3 := h58 (((s.drop i).drop (nameL (s.drop i) + 1)).take (nameL ((s.drop i).drop (nameL (s.drop i) + 1))))
    have q : (((46 : UInt8).toNat : Nat) : Int) = 46 := rfl
    rw [g3]
    have hlt : i + nameL (s.drop i) + 1 < s.length := by omega
    clear hd hne g1 g2 g3 hlen
    generalize (s.drop i).drop (nameL (s.drop i) + 1) = r2 at *
    generalize nameL (s.drop i) = n at *
    generalize bAt r2 = c at *
    by_cases a : cls r2 = 2
    · rw [if_pos a]
      simp only
      have a1 : decide (cls r2 = 1) = false := decide_eq_false (by omega)
      rw [a1] at t1
      rw [decide_eq_true a] at t2
      rw [show i + (n + 1 + nameL r2) = i + n + 1 + nameL r2 from by omega] at hc3 ⊢
      cases b : resv (r2.take (nameL r2)) <;> rw [b] at t3 <;> clear a a1 b <;> simp (disch := first | decide | omega | (simp only [LN]; omega) | (simp only [LN]; done) | fail) only [SV, SW, f532, Nat.reduceAdd, Nat.reduceBEq, viewD, h, cast1, hn, q, h2, hn2, t2, t1, hc2, t3, hc3, lose, oneOr, nc]
    · rw [if_neg a]
      rw [decide_eq_false a] at t2
      by_cases b : cls r2 = 1
      · rw [decide_eq_true b] at t1
        cases d : resv (r2.take (nameL r2)) with
        | true =>
          rw [d] at t3
          rw [if_neg (by simp)]
          simp only
          clear a b d
          simp (disch := first | decide | omega | (simp only [LN]; omega) | (simp only [LN]; done) | fail) only [SV, SW, f532, Nat.reduceAdd, Nat.reduceBEq, viewD, h, cast1, hn, q, h2, hn2, t2, t1, hc2, t3, hc, lose, oneOr, nc]
        | false =>
          rw [d] at t3
          rw [if_pos ⟨b, rfl⟩]
          simp only
          rw [show i + (n + 1 + nameL r2) = i + n + 1 + nameL r2 from by omega] at hc3 ⊢
          clear a b d
          simp (disch := first | decide | omega | (simp only [LN]; omega) | (simp only [LN]; done) | fail) only [SV, SW, f532, Nat.reduceAdd, Nat.reduceBEq, viewD, h, cast1, hn, q, h2, hn2, t2, t1, hc2, t3, hc3, lose, oneOr, nc]
      · rw [decide_eq_false b] at t1
        rw [if_neg (fun hc => b hc.1)]
        simp only
        cases d : resv (r2.take (nameL r2)) <;> rw [d] at t3 <;> clear a b d <;> simp (disch := first | decide | omega | (simp only [LN]; omega) | (simp only [LN]; done) | fail) only [SV, SW, f532, Nat.reduceAdd, Nat.reduceBEq, viewD, h, cast1, hn, q, h2, hn2, t2, t1, hc2, t3, hc, lose, oneOr, nc]
end Go.Vm
end

section
namespace Go.Vm
set_option maxRecDepth 20000
/- 'sloth/slothref01.number' -/
def f533_L0 : C :=
 (.seq
  (.seq
   (.reg [⟨[], [(46, (.bin .lss (.sl 8) (.len true (.sl 0))))], [], none, [0, 1, 4, 5, 6, 8, 9, 10], 4, [], [], []⟩])
   (.cond (.sl 46)
    .skip
    (.seq
     (.tidy 0 [0, 1, 4, 5, 6, 8, 9, 10])
     (.exit 0))))
  (.block 1
   (.seq
    (.reg [⟨[], [(11, (.call 27 (.cons (.ix (.sl 0) (.sl 8)) .nil)))], [], none, [0, 1, 4, 5, 6, 8, 9, 10], 5, [], [], []⟩])
    (.seq
     (.reg [⟨[], [(12, (.call 55 (.cons (.ix (.sl 0) (.sl 8)) .nil)))], [], none, [0, 1, 4, 5, 6, 8, 9, 10, 11], 5, [], [], []⟩])
     (.seq
      (.seq
       (.reg [⟨[], [(64, (.and (.un .not (.sl 11)) (.un .not (.and (.bin .eql (.sl 6) (.int .i64 16)) (.sl 12)))))], [], none, [0, 1, 4, 5, 6, 8, 9, 10], 10, [], [], []⟩])
       (.cond (.sl 64)
        (.seq
         (.tidy 0 [0, 1, 4, 5, 6, 8, 9, 10])
         (.exit 0))
        .skip))
      (.seq
       (.reg [⟨[], [(13, (.call 56 (.cons (.ix (.sl 0) (.sl 8)) .nil)))], [], none, [0, 1, 4, 5, 6, 8, 9, 10], 5, [], [], []⟩])
       (.seq
        (.seq
         (.reg [⟨[], [(74, (.bin .gtr (.sl 9) (.bin .quo (.bin .sub (.int .i64 4611686018427387903) (.sl 13)) (.sl 6))))], [], none, [0, 1, 4, 5, 6, 8, 9, 10, 13], 6, [], [], []⟩])
         (.cond (.sl 74)
          (.reg [⟨[], [(10, (.bool true))], [], none, [0, 1, 4, 5, 6, 8, 9, 13], 1, [], [], []⟩])
          .skip))
        (.seq
         (.seq
          (.reg [⟨[], [(76, (.un .not (.sl 10)))], [], none, [0, 1, 4, 5, 6, 8, 9, 10, 13], 2, [], [], []⟩])
          (.cond (.sl 76)
           (.reg [⟨[], [(9, (.bin .add (.bin .mul (.sl 9) (.sl 6)) (.sl 13)))], [], none, [0, 1, 4, 5, 6, 8, 10], 6, [], [], []⟩])
           .skip))
         (.reg [⟨[], [(8, (.bin .add (.sl 8) (.int .i64 1)))], [], none, [0, 1, 4, 5, 6, 9, 10], 3, [], [], []⟩])))))))))
def f533 : Fun := ⟨
 (.seq
  (.reg [⟨[(4, .box (.agg (.cons (.int .i64 0) (.cons (.str []) (.cons (.int .i64 0) (.cons (.int .i64 0) (.cons (.int .i64 0) (.cons (.int .i64 0) .nil))))))))], [], [], none, [0, 1, 4], 1, [], [], []⟩])
  (.seq
   (.reg [⟨[], [(5, (.sl 1))], [], none, [0, 1, 4], 2, [], [], []⟩])
   (.seq
    (.reg [⟨[], [(6, (.int .i64 10))], [], none, [0, 1, 4, 5], 1, [], [], []⟩])
    (.seq
     (.seq
      (.reg [⟨[], [(33, (.and (.and (.bin .lss (.bin .add (.sl 1) (.int .i64 2)) (.len true (.sl 0))) (.bin .eql (.ix (.sl 0) (.sl 1)) (.int .u8 48))) (.bin .eql (.ix (.sl 0) (.bin .add (.sl 1) (.int .i64 1))) (.int .u8 120))))], [], none, [0, 1, 4, 5, 6], 18, [], [], []⟩])
      (.cond (.sl 33)
       (.seq
        (.reg [⟨[], [(7, (.call 55 (.cons (.ix (.sl 0) (.bin .add (.sl 1) (.int .i64 2))) .nil)))], [], none, [0, 1, 4, 5, 6], 6, [], [], []⟩])
        (.seq
         (.reg [⟨[], [(39, (.sl 7))], [], none, [0, 1, 4, 5, 6], 1, [], [], []⟩])
         (.cond (.sl 39)
          (.seq
           (.reg [⟨[], [(6, (.int .i64 16))], [], none, [0, 1, 4], 1, [], [], []⟩])
           (.reg [⟨[], [(5, (.bin .add (.sl 1) (.int .i64 2)))], [], none, [0, 1, 4, 6], 3, [], [], []⟩]))
          .skip)))
       .skip))
     (.seq
      (.reg [⟨[], [(8, (.sl 5))], [], none, [0, 1, 4, 5, 6], 2, [], [], []⟩])
      (.seq
       (.reg [⟨[], [(9, (.int .i64 0))], [], none, [0, 1, 4, 5, 6, 8], 1, [], [], []⟩])
       (.seq
        (.reg [⟨[], [(10, (.bool false))], [], none, [0, 1, 4, 5, 6, 8, 9], 1, [], [], []⟩])
        (.seq
         (.block 0
          (.seq (.tidy 0 [0, 1, 4, 5, 6, 8, 9, 10]) (.loop (.seq (.tidy 0 [0, 1, 4, 5, 6, 8, 9, 10]) f533_L0))))
         (.seq
          (.reg [⟨[], [(14, (.bool false))], [], none, [0, 1, 4, 5, 6, 8, 9, 10], 1, [], [], []⟩])
          (.seq
           (.seq
            (.reg [⟨[], [(87, (.bin .lss (.sl 8) (.len true (.sl 0))))], [], none, [0, 1, 4, 5, 6, 8, 9, 10, 14], 4, [], [], []⟩])
            (.cond (.sl 87)
             (.reg [⟨[], [(14, (.call 57 (.cons (.ix (.sl 0) (.sl 8)) .nil)))], [], none, [0, 1, 4, 5, 6, 8, 9, 10], 5, [], [], []⟩])
             .skip))
           (.seq
            (.seq
             (.reg [⟨[], [(111, (.or (.or (.sl 10) (.sl 14)) (.and (.and (.bin .eql (.sl 6) (.int .i64 10)) (.bin .eql (.ix (.sl 0) (.sl 5)) (.int .u8 48))) (.bin .gtr (.sl 8) (.bin .add (.sl 5) (.int .i64 1))))))], [], none, [1, 4, 8, 9], 20, [], [], []⟩])
             (.cond (.sl 111)
              (.seq
               (.reg [⟨[], [], [], some (none, .store 6 (.sl 4) (.call 52 (.cons (.int .i64 11) .nil))), [4], 2, [], [], []⟩])
               (.seq
                (.tidy 0 [4])
                .ret))
              .skip))
            (.seq
             (.reg [⟨[], [], [], some (none, .store 6 (.sl 4) (.set 4 1 (.sl 8) (.set 0 4 (.set 3 1 (.sl 1) (.set 2 1 (.sl 9) (.set 0 1 (.int .i64 6) (.agg (.cons (.int .i64 0) (.cons (.str []) (.cons (.int .i64 0) (.cons (.int .i64 0) .nil)))))))) (.agg (.cons (.int .i64 0) (.cons (.str []) (.cons (.int .i64 0) (.cons (.int .i64 0) (.cons (.int .i64 0) (.cons (.int .i64 0) .nil)))))))))), [4], 6, [], [], []⟩])
             (.seq
              (.tidy 0 [4])
              .ret))))))))))))),
 [(.ld 6 true (.sl 4))], false⟩
theorem f533_ok : funOk Go.Proofs.Tryz.prog 33 0 2 f533 = true := by kernel_rfl

def K533 (K : Cx) : Prop := ∀ (s : BS) (i : Nat), i < s.length → s.length ≤ 2000000 → cls (s.drop i) = 3 → K.call 33 [vS s, vI i] = some (stR i (nmbR (s.drop i)), [])
theorem dg_hex : ∀ c : UInt8, decide (clB c = 3) = decide (0 ≤ hexB c ∧ hexB c < 10) := u8all (by decide +kernel)
theorem numR_le (b : Int) : ∀ (r : BS) (g : Bool) (n : Int), (numR b r g n).2.2 ≤ r.length
  | [], g, n => Nat.le_refl _
  | c :: r, g, n => by
    unfold numR
    split
    · have := numR_le b r (g || decide ((4611686018427387903 - hexB c) / b < n)) (if (g || decide ((4611686018427387903 - hexB c) / b < n)) = true then n else n * b + hexB c)
      simp only [List.length_cons]
      omega
    · exact Nat.zero_le _
theorem numR_loop (K : Cx) (h27 : K95 K) (h55 : K555 K) (h56 : K556 K) (s : BS) (hs : s.length ≤ 2000000) (i f b : Int) (hb : b = 10 ∨ b = 16) : ∀ (r : BS) (e : Nat) (g : Bool) (n : Int), s.drop e = r → e ≤ s.length → 0 ≤ n → n ≤ 4611686018427387903 →
    lp K 0 [0, 1, 4, 5, 6, 8, 9, 10] f533_L0 ⟨[(0, vS s), (1, vI i), (4, .ptr 0 0 0), (5, vI f), (6, vI b), (8, vI e), (9, vI n), (10, .d false (.bool g))], [(0, .mix 6 [[vI 0, vS [], vI 0, vI 0, vI 0, vI 0]])], 1, []⟩ =
    some (.exit 0, ⟨[(0, vS s), (1, vI i), (4, .ptr 0 0 0), (5, vI f), (6, vI b), (8, vI ((e + (numR b r g n).2.2 : Nat))), (9, vI (numR b r g n).2.1), (10, .d false (.bool (numR b r g n).1))], [(0, .mix 6 [[vI 0, vS [], vI 0, vI 0, vI 0, vI 0]])], 1, []⟩) := by
  intro r
  induction r with
  | nil =>
    intro e g n hr he h0 h1
    have hx := congrArg List.length hr
    rw [List.length_drop, List.length_nil] at hx
    simp only [numR, Nat.add_zero]
    rw [lp_un f533_L0.eq_1]
    simp (disch := first | decide | omega | (simp only [LN]; omega) | (simp only [LN]; done) | fail) only [SV, SW, Nat.reduceBEq]
  | cons c r ih =>
    intro e g n hr he h0 h1
    have hlt : e < s.length := by
      apply Classical.byContradiction
      intro h
      rw [List.drop_eq_nil_of_le (by omega)] at hr
      cases hr
    have hn := nth_bAt hlt
    rw [hr] at hn
    simp only [bAt] at hn
    have hr2 : s.drop (e + 1) = r := by rw [dd, hr]; rfl
    have a1 := h27 c
    have a2 := h55 c
    have a3 := h56 c
    have hd16 := hexB_lt c
    rw [dg_hex] at a1
    simp only [numR]
    generalize hexB c = d at a1 a2 a3 hd16 ⊢
    have hb0 : (b = 0) = False := eq_false (by omega)
    rw [lp_un f533_L0.eq_1]
    by_cases g1 : 0 ≤ d ∧ d < b
    · rw [if_pos g1]
      obtain ⟨d0, d1⟩ := g1
      have a3 := a3 d0
      rw [decide_eq_true d0] at a2
      have hq : (4611686018427387903 - d).tdiv b = (4611686018427387903 - d) / b := Int.tdiv_eq_ediv_of_nonneg (by omega)
      have key : ¬ (4611686018427387903 - d) / b < n → n * b ≤ 4611686018427387903 - d := by
        intro h
        exact (Int.le_ediv_iff_mul_le (by omega)).1 (by omega)
      have hnb : 0 ≤ n * b := Int.mul_nonneg h0 (by omega)
      have hq0 : 0 ≤ (4611686018427387903 - d) / b := Int.ediv_nonneg (by omega) (by omega)
      have hq1 : (4611686018427387903 - d) / b ≤ 4611686018427387903 := by
        have := Int.ediv_le_self (a := 4611686018427387903 - d) b (by omega)
        omega
      generalize (4611686018427387903 - d) / b = q at hq hq0 hq1 key ⊢
      have cast : ∀ k : Nat, ((e + (k + 1) : Nat)) = e + 1 + k := fun k => by omega
      have dg : decide (0 ≤ d ∧ d < 10) = true ∨ b = 16 := by
        rcases hb with hb | hb
        · exact .inl (decide_eq_true ⟨d0, by omega⟩)
        · exact .inr hb
      by_cases g2 : q < n
      · have ih := ih (e + 1) true n hr2 (by omega) h0 h1
        rw [decide_eq_true g2, Bool.or_true, if_pos rfl, cast]
        generalize decide (0 ≤ d ∧ d < 10) = dt at a1 dg
        clear key hb
        generalize hz : n * b = z at hnb
        rcases dg with rfl | rfl
        · simp (disch := first | decide | omega | (simp only [LN]; omega) | (simp only [LN]; done) | fail) only [SV, SW, Nat.reduceBEq, hn, viewD, a1, a2, a3, hb0, hq, cast1]
          exact ih
        · cases dt <;> simp (disch := first | decide | omega | (simp only [LN]; omega) | (simp only [LN]; done) | fail) only [SV, SW, Nat.reduceBEq, hn, viewD, a1, a2, a3, hb0, hq, cast1] <;> exact ih
      · rw [decide_eq_false g2, Bool.or_false]
        cases g with
        | true =>
          have ih := ih (e + 1) true n hr2 (by omega) h0 h1
          rw [if_pos rfl, cast]
          generalize decide (0 ≤ d ∧ d < 10) = dt at a1 dg
          clear key hb
          generalize hz : n * b = z at hnb
          rcases dg with rfl | rfl
          · simp (disch := first | decide | omega | (simp only [LN]; omega) | (simp only [LN]; done) | fail) only [SV, SW, Nat.reduceBEq, hn, viewD, a1, a2, a3, hb0, hq, cast1]
            exact ih
          · cases dt <;> simp (disch := first | decide | omega | (simp only [LN]; omega) | (simp only [LN]; done) | fail) only [SV, SW, Nat.reduceBEq, hn, viewD, a1, a2, a3, hb0, hq, cast1] <;> exact ih
        | false =>
          have hk := key g2
          have ih := ih (e + 1) false (n * b + d) hr2 (by omega) (by omega) (by omega)
          rw [if_neg (by simp), cast]
          generalize decide (0 ≤ d ∧ d < 10) = dt at a1 dg
          clear key hb
          rcases dg with rfl | rfl
          · generalize hz : n * b = z at hnb hk ih ⊢
            simp (disch := first | decide | omega | (simp only [LN]; omega) | (simp only [LN]; done) | fail) only [SV, SW, Nat.reduceBEq, hn, viewD, a1, a2, a3, hb0, hq, hz, cast1]
            exact ih
          · generalize hz : n * 16 = z at hnb hk ih ⊢
            cases dt <;> simp (disch := first | decide | omega | (simp only [LN]; omega) | (simp only [LN]; done) | fail) only [SV, SW, Nat.reduceBEq, hn, viewD, a1, a2, a3, hb0, hq, hz, cast1] <;> exact ih
    · rw [if_neg g1]
      simp only [Nat.add_zero]
      have e1 : decide (0 ≤ d ∧ d < 10) = false := decide_eq_false (fun h => g1 ⟨h.1, by omega⟩)
      rw [e1] at a1
      by_cases g2 : 0 ≤ d
      · have hb' : b = 10 := by
          rcases hb with h | h
          · exact h
          · exact absurd ⟨g2, by omega⟩ g1
        subst hb'
        rw [decide_eq_true g2] at a2
        clear g1 hb a3 g2 e1
        simp (disch := first | decide | omega | (simp only [LN]; omega) | (simp only [LN]; done) | fail) only [SV, SW, Nat.reduceBEq, hn, viewD, a1, a2, reduceCtorEq]
      · rw [decide_eq_false g2] at a2
        clear g1 a3 g2 e1
        have hb1 : (b == 16) = true ∨ (b == 16) = false := by cases (b == 16) <;> simp
        clear hb
        rcases hb1 with hb1 | hb1 <;> simp (disch := first | decide | omega | (simp only [LN]; omega) | (simp only [LN]; done) | fail) only [SV, SW, Nat.reduceBEq, hn, viewD, a1, a2, hb1, reduceCtorEq]
theorem inNm_at {q : BS} (h : q ≠ []) : inNm q = (decide (1 ≤ clB (bAt q)) && decide (clB (bAt q) ≤ 4)) := by
  cases q with
  | nil => exact absurd rfl h
  | cons c q => rfl
theorem drop_ne {s : BS} {i : Nat} (h : i < s.length) : s.drop i ≠ [] := by
  intro hc
  have := congrArg List.length hc
  rw [List.length_drop, List.length_nil] at this
  omega

theorem num_end (K : Cx) (h57 : K86 K) (s : BS) (i o k : Nat) (hs : i + (o + k) ≤ s.length) :
    (i + (o + k) < s.length ∧ K.call 57 [.d false (.int .u8 (nth s ((i + (o + k) : Nat) : Int)).toNat)] = some (vT1 (inNm ((s.drop i).drop (o + k))), [])) ∨ (¬ i + (o + k) < s.length ∧ inNm ((s.drop i).drop (o + k)) = false) := by
  by_cases h : i + (o + k) < s.length
  · left
    have hn := nth_bAt h
    have h1 := h57 (bAt (s.drop (i + (o + k))))
    rw [← inNm_at (drop_ne h), ← hn] at h1
    rw [dd] at h1
    exact ⟨h, h1⟩
  · right
    have e : (s.drop i).drop (o + k) = [] := by rw [List.drop_drop, List.drop_eq_nil_iff]; omega
    rw [e]
    exact ⟨h, rfl⟩
set_option maxHeartbeats 4000000 in
theorem ev_numberR (K : Cx) (h27 : K95 K) (h55 : K555 K) (h56 : K556 K) (h57 : K86 K) (h52 : K552 K) (s : BS) (i : Nat) (hi : i < s.length) (hs : s.length ≤ 2000000) (hcl : cls (s.drop i) = 3) :
    runFun K f533 [vS s, vI i] [] = some (stR i (nmbR (s.drop i)), [], []) := by
  have hlen : (s.drop i).length = s.length - i := List.length_drop ..
  have hn := nth_bAt hi
  have L16 := numR_loop K h27 h55 h56 s hs i ((i + 2 : Nat) : Int) 16 (Or.inr rfl) ((s.drop i).drop 2) (i + 2) false 0 (by rw [dd])
  have L10 := numR_loop K h27 h55 h56 s hs i i 10 (Or.inl rfl) (s.drop i) i false 0 rfl (by omega) (by omega) (by omega)
  have h52 := h52 11
  have hend := num_end K h57 s i
  have hn1 : i + 1 < s.length → nth s ((i + 1 : Nat) : Int) = bAt ((s.drop i).drop 1) := fun h => by rw [nth_bAt h, dd]
  have hn2 : i + 2 < s.length → nth s ((i + 2 : Nat) : Int) = bAt ((s.drop i).drop 2) := fun h => by rw [nth_bAt h, dd]
  have hx := h55 (bAt ((s.drop i).drop 2))
  have hr3 : 3 ≤ (s.drop i).length ∨ hexP (s.drop i) = false := by
    by_cases h : 3 ≤ (s.drop i).length
    · exact .inl h
    · right
      apply Classical.byContradiction
      intro hc
      exact h (hexP_len (by simpa using hc))
  unfold nmbR
  simp only
  generalize s.drop i = r at *
  by_cases hp : hexP r = true
  · simp only [hp, if_true]
    have hl3 := hexP_len hp
    unfold hexP at hp
    simp only [Bool.and_eq_true, decide_eq_true_eq] at hp
    obtain ⟨⟨p1, p2⟩, p3⟩ := hp
    have q1 := u8y 48 rfl p1
    have q2 := u8y 120 rfl p2
    have L16 := L16 (by omega) (by omega) (by omega)
    have hle := numR_le 16 (r.drop 2) false 0
    rw [List.length_drop] at hle
    have n1 := hn1 (by omega)
    have n2 := hn2 (by omega)
    have hx' : K.call 55 [.d false (.int .u8 (nth s ((i + 2 : Nat) : Int)).toNat)] = some (vT1 true, []) := by
      rw [n2, hx, decide_eq_true (show 0 ≤ hexB (bAt (r.drop 2)) from p3)]
    have l2 : i + 2 < s.length := by omega
    generalize numR 16 (r.drop 2) false 0 = x at L16 hle ⊢
    obtain ⟨g, n, k⟩ := x
    simp only at L16 hle ⊢
    have hend := hend 2 k (by omega)
    rw [show i + (2 + k) = i + 2 + k from by omega] at hend
    clear L10 hn1 hn2 hx p1 p2 p3 hr3 hcl n2
    cases g with
    | true =>
      rw [if_pos (Or.inl rfl), stR_bad]
      rcases hend with ⟨c1, c2⟩ | ⟨c1, c2⟩
      · generalize inNm (r.drop (2 + k)) = nm at c2
        cases nm <;> simp (disch := first | decide | omega | (simp only [LN]; omega) | (simp only [LN]; done) | fail) only [SV, SW, f533, Nat.reduceAdd, Nat.reduceBEq, cast2, hn, q1, cast1, n1, q2, viewD, hx', L16, c2, h52, lose, oneOr, nc]
      · clear c2
        simp (disch := first | decide | omega | (simp only [LN]; omega) | (simp only [LN]; done) | fail) only [SV, SW, f533, Nat.reduceAdd, Nat.reduceBEq, cast2, hn, q1, cast1, n1, q2, viewD, hx', L16, h52, lose, oneOr, nc]
    | false =>
      cases g2 : inNm (r.drop (2 + k)) with
      | true =>
        rw [if_pos (Or.inr (Or.inl rfl)), stR_bad]
        rw [g2] at hend
        obtain ⟨c1, c2⟩ := hend.resolve_right (by simp)
        clear hend g2
        simp (disch := first | decide | omega | (simp only [LN]; omega) | (simp only [LN]; done) | fail) only [SV, SW, f533, Nat.reduceAdd, Nat.reduceBEq, cast2, hn, q1, cast1, n1, q2, viewD, hx', L16, c2, h52, lose, oneOr, nc]
      | false =>
        rw [if_neg (by rintro (h | h | h) <;> simp at h), stR_tok]
        rw [g2] at hend
        rw [show i + (2 + k) = i + 2 + k from by omega]
        clear g2
        rcases hend with ⟨c1, c2⟩ | ⟨c1, c2⟩
        · simp (disch := first | decide | omega | (simp only [LN]; omega) | (simp only [LN]; done) | fail) only [SV, SW, f533, Nat.reduceAdd, Nat.reduceBEq, cast2, hn, q1, cast1, n1, q2, viewD, hx', L16, c2, lose, oneOr, nc]
        · clear c2
          simp (disch := first | decide | omega | (simp only [LN]; omega) | (simp only [LN]; done) | fail) only [SV, SW, f533, Nat.reduceAdd, Nat.reduceBEq, cast2, hn, q1, cast1, n1, q2, viewD, hx', L16, lose, oneOr, nc]
  · have hpf : hexP r = false := by simpa using hp
    simp only [hpf, Bool.false_eq_true, if_false, List.drop_zero, Nat.zero_add]
    have hle := numR_le 10 r false 0
    generalize numR 10 r false 0 = x at L10 hle ⊢
    obtain ⟨g, n, k⟩ := x
    simp only at L10 hle ⊢
    have hend := hend 0 k (by omega)
    rw [Nat.zero_add] at hend
    -- the look at 0x
    have look : (¬ i + 2 < s.length) ∨ (i + 2 < s.length ∧ (((bAt r).toNat : Int) == 48 && ((nth s ((i + 1 : Nat) : Int)).toNat : Int) == 120) = false) ∨
        (i + 2 < s.length ∧ ((bAt r).toNat : Int) = 48 ∧ ((nth s ((i + 1 : Nat) : Int)).toNat : Int) = 120 ∧ K.call 55 [.d false (.int .u8 (nth s ((i + 2 : Nat) : Int)).toNat)] = some (vT1 false, [])) := by
      by_cases l2 : i + 2 < s.length
      · right
        have n1 := hn1 (by omega)
        have n2 := hn2 l2
        unfold hexP at hpf
        rw [n1, n2]
        by_cases a : bAt r = 48
        · by_cases b : bAt (r.drop 1) = 120
          · right
            refine ⟨l2, u8y 48 rfl a, u8y 120 rfl b, ?_⟩
            rw [hx]
            rw [decide_eq_true a, decide_eq_true b, Bool.true_and, Bool.true_and] at hpf
            rw [show decide (0 ≤ hexB (bAt (r.drop 2))) = false from hpf]
          · left
            refine ⟨l2, ?_⟩
            rw [beq_false_of_ne (u8n 120 rfl b), Bool.and_false]
        · left
          refine ⟨l2, ?_⟩
          rw [beq_false_of_ne (u8n 48 rfl a), Bool.false_and]
      · exact .inl l2
    have bb : (i + k > i + 1) = (1 < k) := by rw [eq_iff_iff]; omega
    clear L16 hn1 hn2 hx hp hpf hr3 hcl
    simp only [true_and]
    generalize hb0 : bAt r = c0 at *
    clear hb0
    generalize inNm (r.drop k) = nm at hend ⊢
    have a48 : ((c0.toNat : Int) = 48) = (c0 = 48) := u8k 48 rfl
    cases g with
    | true =>
      rw [if_pos (Or.inl rfl), stR_bad]
      clear a48
      rcases look with l2 | ⟨l2, q⟩ | ⟨l2, q1, q2, q3⟩
      · rcases hend with ⟨c1, c2⟩ | ⟨c1, c2⟩
        · simp (disch := first | decide | omega | (simp only [LN]; omega) | (simp only [LN]; done) | fail) only [SV, SW, f533, Nat.reduceAdd, Nat.reduceBEq, cast2, hn, cast1, L10, viewD, c2, h52, lose, oneOr, nc]
        · clear c2
          simp (disch := first | decide | omega | (simp only [LN]; omega) | (simp only [LN]; done) | fail) only [SV, SW, f533, Nat.reduceAdd, Nat.reduceBEq, cast2, hn, cast1, L10, viewD, h52, lose, oneOr, nc]
      · rcases hend with ⟨c1, c2⟩ | ⟨c1, c2⟩
        · simp (disch := first | decide | omega | (simp only [LN]; omega) | (simp only [LN]; done) | fail) only [SV, SW, f533, Nat.reduceAdd, Nat.reduceBEq, cast2, hn, cast1, q, L10, viewD, c2, h52, lose, oneOr, nc]
        · clear c2
          simp (disch := first | decide | omega | (simp only [LN]; omega) | (simp only [LN]; done) | fail) only [SV, SW, f533, Nat.reduceAdd, Nat.reduceBEq, cast2, hn, cast1, q, L10, viewD, h52, lose, oneOr, nc]
      · rcases hend with ⟨c1, c2⟩ | ⟨c1, c2⟩
        · simp (disch := first | decide | omega | (simp only [LN]; omega) | (simp only [LN]; done) | fail) only [SV, SW, f533, Nat.reduceAdd, Nat.reduceBEq, cast2, hn, q1, cast1, q2, viewD, q3, L10, c2, h52, lose, oneOr, nc]
        · clear c2
          simp (disch := first | decide | omega | (simp only [LN]; omega) | (simp only [LN]; done) | fail) only [SV, SW, f533, Nat.reduceAdd, Nat.reduceBEq, cast2, hn, q1, cast1, q2, viewD, q3, L10, h52, lose, oneOr, nc]
    | false =>
    cases nm with
    | true =>
      rw [if_pos (Or.inr (Or.inl rfl)), stR_bad]
      obtain ⟨c1, c2⟩ := hend.resolve_right (by simp)
      clear a48 hend
      rcases look with l2 | ⟨l2, q⟩ | ⟨l2, q1, q2, q3⟩
      · simp (disch := first | decide | omega | (simp only [LN]; omega) | (simp only [LN]; done) | fail) only [SV, SW, f533, Nat.reduceAdd, Nat.reduceBEq, cast2, hn, cast1, L10, viewD, c2, h52, lose, oneOr, nc]
      · simp (disch := first | decide | omega | (simp only [LN]; omega) | (simp only [LN]; done) | fail) only [SV, SW, f533, Nat.reduceAdd, Nat.reduceBEq, cast2, hn, cast1, q, L10, viewD, c2, h52, lose, oneOr, nc]
      · simp (disch := first | decide | omega | (simp only [LN]; omega) | (simp only [LN]; done) | fail) only [SV, SW, f533, Nat.reduceAdd, Nat.reduceBEq, cast2, hn, q1, cast1, q2, viewD, q3, L10, c2, h52, lose, oneOr, nc]
    | false =>
    have hend : (i + k < s.length ∧ K.call 57 [.d false (.int .u8 (nth s ((i + k : Nat) : Int)).toNat)] = some (vT1 false, [])) ∨ ¬ i + k < s.length := hend.imp id And.left
    by_cases z : c0 = 48
    · have z' : (c0.toNat : Int) = 48 := by rw [a48]; exact z
      clear a48
      by_cases w : 1 < k
      · rw [if_pos (Or.inr (Or.inr ⟨z, w⟩)), stR_bad]
        clear z
        rcases look with l2 | ⟨l2, q⟩ | ⟨l2, q1, q2, q3⟩
        · rcases hend with ⟨c1, c2⟩ | c1
          · omega
          · simp (disch := first | decide | omega | (simp only [LN]; omega) | (simp only [LN]; done) | fail) only [SV, SW, f533, Nat.reduceAdd, Nat.reduceBEq, cast2, hn, z', cast1, L10, viewD, h52, lose, oneOr, nc]
        · rw [z', show ((48 : Int) == 48) = true from rfl, Bool.true_and] at q
          rcases hend with ⟨c1, c2⟩ | c1
          · simp (disch := first | decide | omega | (simp only [LN]; omega) | (simp only [LN]; done) | fail) only [SV, SW, f533, Nat.reduceAdd, Nat.reduceBEq, cast2, hn, z', cast1, q, L10, viewD, c2, h52, lose, oneOr, nc]
          · simp (disch := first | decide | omega | (simp only [LN]; omega) | (simp only [LN]; done) | fail) only [SV, SW, f533, Nat.reduceAdd, Nat.reduceBEq, cast2, hn, z', cast1, q, L10, viewD, h52, lose, oneOr, nc]
        · rcases hend with ⟨c1, c2⟩ | c1
          · simp (disch := first | decide | omega | (simp only [LN]; omega) | (simp only [LN]; done) | fail) only [SV, SW, f533, Nat.reduceAdd, Nat.reduceBEq, cast2, hn, q1, cast1, q2, viewD, q3, L10, c2, h52, lose, oneOr, nc]
          · simp (disch := first | decide | omega | (simp only [LN]; omega) | (simp only [LN]; done) | fail) only [SV, SW, f533, Nat.reduceAdd, Nat.reduceBEq, cast2, hn, q1, cast1, q2, viewD, q3, L10, h52, lose, oneOr, nc]
      · rw [if_neg (fun hc => hc.elim (fun h => Bool.noConfusion h) (fun hc => hc.elim (fun h => Bool.noConfusion h) (fun hc => w hc.2))), stR_tok]
        clear z h52
        rcases look with l2 | ⟨l2, q⟩ | ⟨l2, q1, q2, q3⟩
        · rcases hend with ⟨c1, c2⟩ | c1
          · simp (disch := first | decide | omega | (simp only [LN]; omega) | (simp only [LN]; done) | fail) only [SV, SW, f533, Nat.reduceAdd, Nat.reduceBEq, cast2, hn, z', cast1, L10, viewD, c2, lose, oneOr, nc]
          · simp (disch := first | decide | omega | (simp only [LN]; omega) | (simp only [LN]; done) | fail) only [SV, SW, f533, Nat.reduceAdd, Nat.reduceBEq, cast2, hn, z', cast1, L10, lose, oneOr, nc]
        · rw [z', show ((48 : Int) == 48) = true from rfl, Bool.true_and] at q
          rcases hend with ⟨c1, c2⟩ | c1
          · simp (disch := first | decide | omega | (simp only [LN]; omega) | (simp only [LN]; done) | fail) only [SV, SW, f533, Nat.reduceAdd, Nat.reduceBEq, cast2, hn, z', cast1, q, L10, viewD, c2, lose, oneOr, nc]
          · omega
        · rcases hend with ⟨c1, c2⟩ | c1
          · simp (disch := first | decide | omega | (simp only [LN]; omega) | (simp only [LN]; done) | fail) only [SV, SW, f533, Nat.reduceAdd, Nat.reduceBEq, cast2, hn, q1, cast1, q2, viewD, q3, L10, c2, lose, oneOr, nc]
          · omega
    · have z' : ¬ (c0.toNat : Int) = 48 := by rw [a48]; exact z
      have z2 : ((c0.toNat : Int) == 48) = false := beq_false_of_ne z'
      rw [if_neg (fun hc => hc.elim (fun h => Bool.noConfusion h) (fun hc => hc.elim (fun h => Bool.noConfusion h) (fun hc => z hc.1))), stR_tok]
      clear a48 h52 z z'
      rcases look with l2 | ⟨l2, q⟩ | ⟨l2, q1, q2, q3⟩
      · rcases hend with ⟨c1, c2⟩ | c1
        · simp (disch := first | decide | omega | (simp only [LN]; omega) | (simp only [LN]; done) | fail) only [SV, SW, f533, Nat.reduceAdd, Nat.reduceBEq, cast2, hn, z2, cast1, L10, viewD, c2, lose, oneOr, nc]
        · simp (disch := first | decide | omega | (simp only [LN]; omega) | (simp only [LN]; done) | fail) only [SV, SW, f533, Nat.reduceAdd, Nat.reduceBEq, cast2, hn, z2, cast1, L10, lose, oneOr, nc]
      · rcases hend with ⟨c1, c2⟩ | c1
        · simp (disch := first | decide | omega | (simp only [LN]; omega) | (simp only [LN]; done) | fail) only [SV, SW, f533, Nat.reduceAdd, Nat.reduceBEq, cast2, hn, z2, cast1, L10, viewD, c2, lose, oneOr, nc]
        · simp (disch := first | decide | omega | (simp only [LN]; omega) | (simp only [LN]; done) | fail) only [SV, SW, f533, Nat.reduceAdd, Nat.reduceBEq, cast2, hn, z2, cast1, L10, lose, oneOr, nc]
      · rw [q1] at z2
        cases z2
end Go.Vm
end
