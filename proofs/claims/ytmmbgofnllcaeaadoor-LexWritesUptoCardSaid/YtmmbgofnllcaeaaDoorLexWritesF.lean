/-
  LexWrites comes to true, whatever the input (of bulk at most 1048576); the input reads as it did.
  Conditions: the listed package-level tables read as the program's text lays them (tied by the card).
-/
import Derived.Test.YtmmbgofnllcaeaaDoorLexSkipsE
import Derived.Lib.LaidTab
import Derived.Below
import Derived.Test.YtmmbgofnllcaeaaDoorRows
import Derived.ProofKit
import Derived.OpenShut
import Derived.Deep.DeepHandedRow
import Derived.Lib.LaidIn
import Derived.ChangeMaps5
import Derived.Test.YtmmbgofnllcaeaaDoorCards
import Derived.Test.YtmmbgofnllcaeaaDoorTie
set_option linter.unusedVariables false
set_option linter.unusedSimpArgs false

section
namespace Go.Vm
set_option maxRecDepth 20000
/- 'sloth/slothlaw01.LexSkips' -/
def f6_L0 : C :=
 (.seq
  (.seq
   (.reg [⟨[], [(75, (.bin .lss (.sl 16) (.sl 2)))], [], none, [0, 1, 2, 3, 10, 12, 14, 15, 16], 3, [], [], []⟩])
   (.cond (.sl 75)
    .skip
    (.seq
     (.tidy 0 [0, 1, 3, 10, 12, 14, 15])
     (.exit 0))))
  (.seq
   (.block 1
    (.reg [⟨[], [(14, (.bin .add (.bin .add (.str [123, 45]) (.sl 14)) (.str [45, 125])))], [], none, [0, 1, 2, 3, 10, 12, 15, 16], 4, [], [], []⟩]))
   (.reg [⟨[], [(16, (.bin .add (.sl 16) (.int .i64 1)))], [], none, [0, 1, 2, 3, 10, 12, 14, 15], 3, [], [], []⟩])))
def f6_L1 : C :=
 (.seq
  (.seq
   (.reg [⟨[], [(84, (.bin .lss (.sl 17) (.len true (.sl 1))))], [], none, [0, 1, 3, 10, 12, 14, 15, 17], 4, [], [], []⟩])
   (.cond (.sl 84)
    .skip
    (.seq
     (.tidy 0 [0, 3, 10, 12, 14, 15])
     (.exit 2))))
  (.seq
   (.block 3
    (.seq
     (.reg [⟨[], [(90, (.bin .neq (.ix (.sl 1) (.sl 17)) (.int .u8 10)))], [], none, [0, 1, 3, 10, 12, 14, 15, 17], 4, [], [], []⟩])
     (.cond (.sl 90)
      (.reg [⟨[], [(15, (.bin .add (.bin .add (.sl 15) (.str [32])) (.cut true true true false 0 (.sl 1) (.sl 17) (.bin .add (.sl 17) (.int .i64 1)) .nil)))], [], none, [0, 1, 3, 10, 12, 14, 17], 9, [], [], []⟩])
      .skip)))
   (.reg [⟨[], [(17, (.bin .add (.sl 17) (.int .i64 1)))], [], none, [0, 1, 3, 10, 12, 14, 15], 3, [], [], []⟩])))
def f6 : Fun := ⟨
 (.seq
  (.reg [⟨[], [], [(.bool false)], none, [0, 1, 2, 3], 1, [], [], []⟩])
  (.seq
   (.reg [⟨[], [(9, (.call 9 .nil))], [], none, [0, 1, 2, 3], 2, [], [], []⟩])
   (.seq
    (.reg [⟨[], [(1, (.call 15 (.cons (.sl 1) .nil)))], [], none, [0, 2, 3, 9], 3, [], [], []⟩])
    (.seq
     (.seq
      (.reg [⟨[], [(30, (.bin .lss (.sl 2) (.int .i64 0)))], [], none, [0, 1, 2, 3, 9], 2, [], [], []⟩])
      (.cond (.sl 30)
       (.reg [⟨[], [(2, (.un .neg (.bin .add (.sl 2) (.int .i64 1))))], [], none, [0, 1, 3, 9], 4, [], [], []⟩])
       .skip))
     (.seq
      (.reg [⟨[], [(2, (.bin .add (.int .i64 1) (.bin .rem (.sl 2) (.int .i64 40))))], [], none, [0, 1, 3, 9], 4, [], [], []⟩])
      (.seq
       (.seq
        (.reg [⟨[], [(49, (.bin .gtr (.bin .add (.bin .add (.bin .add (.bin .add (.len true (.sl 0)) (.len true (.sl 3))) (.len true (.sl 1))) (.bin .mul (.int .i64 4) (.sl 2))) (.int .i64 10)) (.int .i64 20000)))], [], none, [0, 1, 2, 3, 9], 13, [], [], []⟩])
        (.cond (.sl 49)
         (.seq
          (.reg [⟨[], [(8, (.sl 9))], [], none, [], 2, [], [], []⟩])
          (.seq
           (.tidy 0 [8])
           .ret))
         .skip))
       (.seq
        (.reg [⟨[], [(10, (.ext 0 (.call 13 (.cons (.sl 0) .nil)))), (11, (.ext 1 (.call 13 (.cons (.sl 0) .nil))))], [], none, [0, 1, 2, 3, 9], 7, [], [], []⟩])
        (.seq
         (.reg [⟨[], [(12, (.ext 0 (.call 13 (.cons (.sl 3) .nil)))), (13, (.ext 1 (.call 13 (.cons (.sl 3) .nil))))], [], none, [0, 1, 2, 3, 9, 10, 11], 7, [], [], []⟩])
         (.seq
          (.seq
           (.reg [⟨[], [(70, (.or (.or (.un .not (.sl 9)) (.eqs true false [5] (.sl 11) .nilif)) (.eqs true false [5] (.sl 13) .nilif)))], [], none, [0, 1, 2, 3, 9, 10, 12], 10, [], [], []⟩])
           (.cond (.sl 70)
            (.seq
             (.reg [⟨[], [(8, (.sl 9))], [], none, [], 2, [], [], []⟩])
             (.seq
              (.tidy 0 [8])
              .ret))
            .skip))
          (.seq
           (.reg [⟨[], [(14, (.sl 1))], [], none, [0, 1, 2, 3, 10, 12], 2, [], [], []⟩])
           (.seq
            (.reg [⟨[], [(15, (.str [45, 45]))], [], none, [0, 1, 2, 3, 10, 12, 14], 1, [], [], []⟩])
            (.seq
             (.seq
              (.reg [⟨[], [(16, (.int .i64 0))], [], none, [0, 1, 2, 3, 10, 12, 14, 15], 1, [], [], []⟩])
              (.block 0
               (.seq (.tidy 0 [0, 1, 2, 3, 10, 12, 14, 15, 16]) (.loop (.seq (.tidy 0 [0, 1, 2, 3, 10, 12, 14, 15, 16]) f6_L0)))))
             (.seq
              (.seq
               (.reg [⟨[], [(17, (.int .i64 0))], [], none, [0, 1, 3, 10, 12, 14, 15], 1, [], [], []⟩])
               (.block 2
                (.seq (.tidy 0 [0, 1, 3, 10, 12, 14, 15, 17]) (.loop (.seq (.tidy 0 [0, 1, 3, 10, 12, 14, 15, 17]) f6_L1)))))
              (.seq
               (.reg [⟨[], [(18, (.ext 0 (.call 13 (.cons (.bin .add (.bin .add (.bin .add (.sl 0) (.str [10])) (.sl 14)) (.sl 3)) .nil)))), (19, (.ext 1 (.call 13 (.cons (.bin .add (.bin .add (.bin .add (.sl 0) (.str [10])) (.sl 14)) (.sl 3)) .nil))))], [], none, [0, 3, 10, 12, 14, 15], 12, [], [], []⟩])
               (.seq
                (.reg [⟨[], [(20, (.ext 0 (.call 13 (.cons (.bin .add (.bin .add (.bin .add (.bin .add (.sl 0) (.str [10])) (.sl 15)) (.str [10])) (.sl 3)) .nil)))), (21, (.ext 1 (.call 13 (.cons (.bin .add (.bin .add (.bin .add (.bin .add (.sl 0) (.str [10])) (.sl 15)) (.str [10])) (.sl 3)) .nil))))], [], none, [0, 10, 12, 14, 15, 18, 19], 13, [], [], []⟩])
                (.seq
                 (.reg [⟨[(121, .callo 16 (.cons (.sl 10) (.cons (.int .i64 0) .nil))), (129, .callo 16 (.cons (.sl 12) (.cons (.bin .add (.bin .add (.len true (.sl 0)) (.int .i64 1)) (.len true (.sl 14))) .nil)))], [], [], some (some 130, .app 4 (.sl 121) (.sl 129)), [0, 10, 12, 15, 18, 19, 20, 21], 11, [], [], []⟩, ⟨[], [(22, (.sl 130))], [], none, [0, 10, 12, 15, 18, 19, 20, 21], 1, [], [], []⟩])
                 (.seq
                  (.reg [⟨[(132, .callo 16 (.cons (.sl 10) (.cons (.int .i64 0) .nil))), (140, .callo 16 (.cons (.sl 12) (.cons (.bin .add (.bin .add (.len true (.sl 0)) (.int .i64 2)) (.len true (.sl 15))) .nil)))], [], [], some (some 141, .app 4 (.sl 132) (.sl 140)), [18, 19, 20, 21, 22], 11, [], [], []⟩, ⟨[], [(23, (.sl 141))], [], none, [18, 19, 20, 21, 22], 1, [], [], []⟩])
                  (.seq
                   (.reg [⟨[], [(24, (.call 12 (.cons (.sl 18) (.cons (.sl 22) .nil))))], [], none, [19, 20, 21, 23], 4, [], [], []⟩])
                   (.seq
                    (.reg [⟨[], [(25, (.call 12 (.cons (.sl 20) (.cons (.sl 23) .nil))))], [], none, [19, 21, 24], 4, [], [], []⟩])
                    (.seq
                     (.reg [⟨[], [(8, (.and (.and (.and (.eqs false false [5] (.sl 19) .nilif) (.eqs false false [5] (.sl 21) .nilif)) (.sl 24)) (.sl 25)))], [], none, [], 13, [], [], []⟩])
                     (.seq
                      (.tidy 0 [8])
                      .ret))))))))))))))))))))),
 [(.sl 8)], false⟩
theorem f6_ok : funOk Go.Proofs.Tryd.prog 6 0 4 f6 = true := by kernel_rfl


theorem fTokA (l m : List Tok) : l.map eTok ++ m.map eTok = (l ++ m).map eTok := by simp
theorem lex_at : ∀ (k : Nat) (r : BS), r.length = k → ∀ (i n : Nat) l, lexS r i n = .ok l → ∀ t ∈ l, (i : Int) ≤ t.at_ ∧ t.at_ < (i : Int) + r.length := by
  intro k
  induction k using Nat.strongRecOn with
  | ind k ih =>
    intro r hr i n l h t ht
    subst hr
    by_cases h0 : r = []
    · subst h0; rw [lexS_nil] at h; injection h with h; subst h; cases ht
    · obtain ⟨s1, s2⟩ := stepS_len h0
      have hl : 1 ≤ r.length := by cases r with | nil => exact absurd rfl h0 | cons a b => simp
      rw [lexS_cons h0] at h
      cases hs : stepS r with
      | bad e => rw [hs] at h; cases h
      | skip k =>
        rw [hs] at h
        obtain ⟨k1, k2⟩ := s1 k hs
        have := ih (r.drop k).length (by rw [List.length_drop]; omega) (r.drop k) rfl _ _ l h t ht
        rw [List.length_drop] at this
        omega
      | tok kd tx nm k =>
        rw [hs] at h
        obtain ⟨k1, k2⟩ := s2 kd tx nm k hs
        simp only at h
        split at h
        · cases h
        · cases hx : lexS (r.drop k) (i + k) (n + 1) with
          | bad e p => rw [hx] at h; cases h
          | ok l' =>
            rw [hx] at h
            injection h with h
            subst h
            rcases List.mem_cons.1 ht with rfl | ht
            · simp only; omega
            · have := ih (r.drop k).length (by rw [List.length_drop]; omega) (r.drop k) rfl _ _ l' hx t ht
              rw [List.length_drop] at this
              omega
theorem mv0 (l : List Tok) : l.map (mvT 0) = l := by
  have : ∀ t : Tok, mvT 0 t = t := by intro t; cases t; simp [mvT]
  induction l with
  | nil => rfl
  | cons a l ih => rw [List.map_cons, this, ih]

theorem skip_join {a b w : BS} {l m : List Tok} (h : a.length + b.length ≤ 20000) (ha : lexS a 0 0 = .ok l) (hb : lexS b 0 0 = .ok m) (hw : ∀ i k, lexS (w ++ b) i k = lexS b (i + w.length) k) :
    lexS (a ++ 10 :: (w ++ b)) 0 0 = .ok (l ++ m.map (mvT (a.length + 1 + w.length))) := by
  have hc := lex_count _ a rfl 0 0 l ha
  rw [lex_join (w ++ b) _ a rfl 0 0 l ha (by omega), hw]
  have e : 0 + a.length + 1 + w.length = 0 + (a.length + 1 + w.length) := by omega
  rw [e, lex_shift _ b rfl 0 (a.length + 1 + w.length) (0 + l.length) 0 (by omega) (by omega), hb]
  rfl

theorem sk_wrap (K : Cx) (a b c : BS) (la lb : List Tok) (d : Nat) (hd : d ≤ 40) (hc : c.length ≤ 2000000) : ∀ (k i : Nat), i + k = d →
    lp K 0 [0, 1, 2, 3, 10, 12, 14, 15, 16] f6_L0 ⟨[(0, vS a), (1, vS c), (2, vI d), (3, vS b), (10, .d true (.sl 4 (la.map eTok))), (12, .d true (.sl 4 (lb.map eTok))), (14, vS (wrapC c i)), (15, vS [45, 45]), (16, vI i)], [], 0, []⟩ =
      some (.exit 0, ⟨[(0, vS a), (1, vS c), (3, vS b), (10, .d true (.sl 4 (la.map eTok))), (12, .d true (.sl 4 (lb.map eTok))), (14, vS (wrapC c d)), (15, vS [45, 45])], [], 0, []⟩) := by
  intro k
  induction k with
  | zero =>
    intro i hi
    have : i = d := by omega
    subst this
    rw [lp_un f6_L0.eq_1]
    simp (disch := first | decide | omega | (simp only [LN]; omega) | (simp only [LN]; done) | fail) only [SV, Nat.reduceBEq, beq_self_eq_true, evBin, intBin, decide_false, if_true, V.refs, decide_true, Bool.and_self]
  | succ k ih =>
    intro i hi
    have hw := wrapC_len c i
    have ih := ih (i + 1) (by omega)
    rw [← ih]
    clear ih
    rw [lp_un f6_L0.eq_1]
    simp only [wrapC]
    generalize wrapC c i = w at hw ⊢
    simp (disch := first | decide | omega | (simp only [LN]; omega) | (simp only [LN]; done) | fail) only [SV, Nat.reduceBEq, beq_self_eq_true, evBin, intBin, decide_true, if_true, strBin, Nat.zero_add, Nat.reduceAdd, cast1, V.refs, Bool.and_self]
theorem sk_line (K : Cx) (a b c w : BS) (la lb : List Tok) (hc : c.length ≤ 2000000) : ∀ (r : BS) (k : Nat) (o : BS), c.drop k = r → k ≤ c.length → o.length ≤ 2 * k + 2 →
    lp K 0 [0, 1, 3, 10, 12, 14, 15, 17] f6_L1 ⟨[(0, vS a), (1, vS c), (3, vS b), (10, .d true (.sl 4 (la.map eTok))), (12, .d true (.sl 4 (lb.map eTok))), (14, vS w), (15, vS o), (17, vI k)], [], 0, []⟩ =
      some (.exit 2, ⟨[(0, vS a), (3, vS b), (10, .d true (.sl 4 (la.map eTok))), (12, .d true (.sl 4 (lb.map eTok))), (14, vS w), (15, vS (o ++ lineC r))], [], 0, []⟩) := by
  intro r
  induction r with
  | nil =>
    intro k o hd hk ho
    have hx := congrArg List.length hd
    rw [List.length_drop, List.length_nil] at hx
    simp only [lineC, List.append_nil]
    rw [lp_un f6_L1.eq_1]
    simp (disch := first | decide | omega | (simp only [LN]; omega) | (simp only [LN]; done) | fail) only [SV, Nat.reduceBEq, beq_self_eq_true, evLen, evBin, intBin, decide_false, if_true, V.refs, decide_true, Bool.and_self]
  | cons u r ih =>
    intro k o hd hk ho
    have hx := congrArg List.length hd
    rw [List.length_drop, List.length_cons] at hx
    have hn := nth_bAt (s := c) (i := k) (by omega)
    have hn2 : nth c (k : Int) = u := by rw [hn, hd]; rfl
    have hcut := fun H => cut_slh H c k (k + 1) (by omega) (by omega)
    have et : (c.drop k).take (k + 1 - k) = [u] := by
      rw [hd, show k + 1 - k = 1 from by omega]; rfl
    rw [et] at hcut
    simp only [lineC]
    by_cases g : u = 10
    · rw [if_pos g]
      have ih := ih (k + 1) o (by rw [dd, hd]; rfl) (by omega) (by omega)
      rw [← ih, lp_un f6_L1.eq_1]
      have g1 := u8y 10 rfl g
      clear ih g hn
      simp (disch := first | decide | omega | (simp only [LN]; omega) | (simp only [LN]; done) | fail) only [SV, Nat.reduceBEq, beq_self_eq_true, evLen, evBin, intBin, decide_true, if_true, hn2, cast1, V.refs, Bool.and_self]
    · rw [if_neg g]
      have ih := ih (k + 1) (o ++ [32] ++ [u]) (by rw [dd, hd]; rfl) (by omega) (by simp; omega)
      rw [show o ++ 32 :: u :: lineC r = o ++ [32] ++ [u] ++ lineC r from by simp, ← ih, lp_un f6_L1.eq_1]
      have g1 := u8n 10 rfl g
      clear ih g hn
      simp (disch := first | decide | omega | (simp only [LN]; omega) | (simp only [LN]; done) | fail) only [SV, Nat.reduceBEq, beq_self_eq_true, evLen, evBin, intBin, decide_true, if_true, hn2, strBin, Nat.zero_add, e_cut, cast1, o4_some, hcut, List.length_append, V.refs, Bool.and_self]

theorem lineC_len : ∀ p : BS, (lineC p).length ≤ 2 * p.length
  | [] => by simp [lineC]
  | u :: r => by
    have := lineC_len r
    simp only [lineC, List.length_cons]
    split
    · omega
    · simp only [List.length_cons]; omega
theorem lexV_bad {s : BS} (h : ∀ l : List Tok, lexV s ≠ .tup [.d true (.sl 4 (l.map eTok)), .d false .nilif]) : ∃ e i, lexV s = errD e i := by
  unfold lexV at h ⊢
  split
  · exact ⟨_, _, rfl⟩
  · rename_i g
    rw [if_neg g] at h
    cases hx : lexS s 0 0 with
    | bad e i => exact ⟨_, _, rfl⟩
    | ok l => rw [hx] at h; exact absurd rfl (h l)

set_option maxHeartbeats 2000000 in
theorem ev_LexSkips (K : Cx) (h9 : K9 K) (h15 : K15 K) (h13 : K13 K) (h16 : K16 K) (h12 : K12 K) (a c : BS) (deep : Int) (b : BS) (ha : a.length ≤ 1100000) (hc : c.length ≤ 1100000) (hb : b.length ≤ 1100000) (hd : -9223372036854775808 ≤ deep ∧ deep ≤ 9223372036854775807) :
    runFun K f6 [vS a, vS c, vI deep, vS b] [] = some (.d false (.bool true), [], []) := by
  have e9 : K.call 9 [] = some (.d false (.bool true), []) := h9
  have e15 := h15 c (by omega)
  have hcl : (c.filter plainB).length ≤ c.length := List.length_filter_le _ _
  have hpl : ∀ u ∈ c.filter plainB, plainB u = true := fun u hu => (List.mem_filter.1 hu).2
  generalize c.filter plainB = p at e15 hcl hpl
  obtain ⟨d1, d2⟩ := hd
  -- the number that is left
  obtain ⟨d0, hd0, hd00, hd01⟩ : ∃ d0 : Int, (if deep < 0 then 0 - (deep + 1) else deep) = d0 ∧ 0 ≤ d0 ∧ d0 ≤ 9223372036854775807 := ⟨_, rfl, by split <;> omega, by split <;> omega⟩
  have htm : d0.tmod 40 = d0 % 40 := Int.tmod_eq_emod_of_nonneg hd00
  obtain ⟨dn, hdn, hdn1, hdn2⟩ : ∃ dn : Nat, 1 + d0 % 40 = (dn : Int) ∧ 1 ≤ dn ∧ dn ≤ 40 := ⟨(1 + d0 % 40).toNat, by omega, by omega, by omega⟩
  have hr0 : 0 ≤ d0 % 40 ∧ d0 % 40 < 40 := by omega
  generalize d0 % 40 = rr at htm hdn hr0
  obtain ⟨r1, r2⟩ := hr0
  have key : ∀ (v : V), (∀ g : deep < 0, 0 - (deep + 1) = d0 → runFun K f6 [vS a, vS c, vI deep, vS b] [] = some (v, [], [])) → (∀ g : ¬ deep < 0, deep = d0 → runFun K f6 [vS a, vS c, vI deep, vS b] [] = some (v, [], [])) → runFun K f6 [vS a, vS c, vI deep, vS b] [] = some (v, [], []) := by
    intro v k1 k2
    by_cases g : deep < 0
    · rw [if_pos g] at hd0; exact k1 g hd0
    · rw [if_neg g] at hd0; exact k2 g hd0
  by_cases gb : (20000 : Int) < a.length + b.length + p.length + 4 * dn + 10
  · refine key _ (fun g e => ?_) (fun g e => ?_) <;> clear key hd0
    · simp (disch := first | decide | omega | (simp only [LN]; omega) | (simp only [LN]; done) | fail) only [SV, f6, Nat.zero_add, Nat.reduceAdd, Bool.and_self, beq_self_eq_true, Nat.reduceBEq, Bool.not_true, Bool.and_false, Bool.false_and, e9, V.new, V.new1, D.flat, Bool.or_true, Bool.false_eq_true, if_false, V.own, V.own1, Bool.or_self, V.flatV, V.flat1, view, viewD, e15, evBin, intBin, decide_true, if_true, evUn, e, Int.reduceEq, htm, hdn, evLen, V.refs, oneOr, finV, finA, finC]
    · simp (disch := first | decide | omega | (simp only [LN]; omega) | (simp only [LN]; done) | fail) only [SV, f6, e, Nat.zero_add, Nat.reduceAdd, Bool.and_self, beq_self_eq_true, Nat.reduceBEq, Bool.not_true, Bool.and_false, Bool.false_and, e9, V.new, V.new1, D.flat, Bool.or_true, Bool.false_eq_true, if_false, V.own, V.own1, Bool.or_self, V.flatV, V.flat1, view, viewD, e15, evBin, intBin, decide_false, if_true, Int.reduceEq, htm, hdn, evLen, decide_true, V.refs, oneOr, finV, finA, finC]
  · have a13 := h13 a (by omega)
    have b13 := h13 b (by omega)
    by_cases ga : ∃ l, lexV a = .tup [.d true (.sl 4 (List.map eTok l)), .d false .nilif]
    · by_cases gb2 : ∃ m, lexV b = .tup [.d true (.sl 4 (List.map eTok m)), .d false .nilif]
      · have sa : ∃ l, lexS a 0 0 = .ok l := by
          cases hx : lexS a 0 0 with
          | ok l => exact ⟨l, rfl⟩
          | bad e i =>
            obtain ⟨l, hl⟩ := ga
            unfold lexV at hl
            rw [if_neg (by omega), hx] at hl
            simp [errD] at hl
        have sb : ∃ l, lexS b 0 0 = .ok l := by
          cases hx : lexS b 0 0 with
          | ok l => exact ⟨l, rfl⟩
          | bad e i =>
            obtain ⟨l, hl⟩ := gb2
            unfold lexV at hl
            rw [if_neg (by omega), hx] at hl
            simp [errD] at hl
        obtain ⟨l, hl⟩ := sa
        obtain ⟨m, hm⟩ := sb
        clear ga gb2
        rw [lexV_ok (by omega) hl] at a13
        rw [lexV_ok (by omega) hm] at b13
        have w1 := sk_wrap K a b p l m dn hdn2 (by omega) dn 0 (by omega)
        have w2 := sk_line K a b p (wrapC p dn) l m (by omega) p 0 [45, 45] rfl (by omega) (by simp)
        rw [Int.natCast_zero] at w1 w2
        simp only [wrapC] at w1
        have hwl := wrapC_len p dn
        have hll := lineC_len p
        obtain ⟨d', hd'⟩ : ∃ d', dn = d' + 1 := ⟨dn - 1, by omega⟩
        have s1 := skip_join (w := wrapC p dn) (by omega) hl hm (by rw [hd']; exact comment_skip hpl d' b)
        have s2 := skip_join (w := 45 :: 45 :: lineC p ++ [10]) (by omega) hl hm (by
          intro i k
          have := line_skip p b i k
          simp only [List.length_append, List.length_cons, List.length_nil, List.append_assoc, List.cons_append, List.nil_append] at this ⊢
          rw [this]
          congr 1)
        have x1 := h13 (a ++ [10] ++ wrapC p dn ++ b) (by simp only [List.length_append, List.length_singleton]; omega)
        rw [lexV_ok (l := l ++ m.map (mvT (a.length + 1 + (wrapC p dn).length))) (by simp only [List.length_append, List.length_singleton]; omega) (by rw [← s1]; simp)] at x1
        have x2 := h13 (a ++ [10] ++ ([45, 45] ++ lineC p) ++ [10] ++ b) (by simp only [List.length_append, List.length_cons, List.length_nil]; omega)
        have t2 : lexS (a ++ [10] ++ ([45, 45] ++ lineC p) ++ [10] ++ b) 0 0 = .ok (l ++ m.map (mvT (a.length + 2 + ([45, 45] ++ lineC p).length))) := by
          have e1 : a ++ [10] ++ ([45, 45] ++ lineC p) ++ [10] ++ b = a ++ 10 :: (45 :: 45 :: lineC p ++ [10] ++ b) := by simp
          have e2 : a.length + 1 + (45 :: 45 :: lineC p ++ [10]).length = a.length + 2 + ([45, 45] ++ lineC p).length := by simp only [List.length_append, List.length_cons, List.length_nil]; omega
          rw [e1, s2, e2]
        rw [lexV_ok (by simp only [List.length_append, List.length_cons, List.length_nil]; omega) t2] at x2
        clear t2
        have hln : ([45, 45] ++ lineC p).length = (lineC p).length + 2 := by simp only [List.length_append, List.length_cons, List.length_nil]; omega
        generalize [45, 45] ++ lineC p = ln at w2 x2 hln
        generalize wrapC p dn = w at w1 w2 hwl x1 s1
        clear s1 s2
        have la := lex_at _ a rfl 0 0 l hl
        have lb := lex_at _ b rfl 0 0 m hm
        have lca := lex_count _ a rfl 0 0 l hl
        have lcb := lex_count _ b rfl 0 0 m hm
        have la' : ∀ t ∈ l, 0 ≤ t.at_ ∧ t.at_ ≤ 2000000 := fun t ht => by have := la t ht; omega
        have lb' : ∀ t ∈ m, 0 ≤ t.at_ ∧ t.at_ ≤ 2000000 := fun t ht => by have := lb t ht; omega
        have y0 := h16 l 0 (by omega) (by omega) la'
        rw [mv0, Int.natCast_zero] at y0
        have y1 := h16 m (a.length + 1 + w.length) (by omega) (by omega) lb'
        have y2 := h16 m (a.length + 2 + ln.length) (by omega) (by omega) lb'
        rw [show ((a.length + 1 + w.length : Nat) : Int) = (a.length : Int) + 1 + (w.length : Int) from by omega] at y1
        rw [show ((a.length + 2 + ln.length : Nat) : Int) = (a.length : Int) + 2 + (ln.length : Int) from by omega] at y2
        have v1 := h12 (l ++ m.map (mvT (a.length + 1 + w.length))) (l ++ m.map (mvT (a.length + 1 + w.length))) (by simp; omega) (by simp; omega)
        have v2 := h12 (l ++ m.map (mvT (a.length + 2 + ln.length))) (l ++ m.map (mvT (a.length + 2 + ln.length))) (by simp; omega) (by simp; omega)
        simp only [decide_true] at v1 v2
        have ml1 : (m.map (mvT (a.length + 1 + w.length))).length = m.length := by simp
        have ml2 : (m.map (mvT (a.length + 2 + ln.length))).length = m.length := by simp
        clear la lb la' lb' hl hm hpl h9 h15 h13 h16 h12
        by_cases gl : l = []
        · by_cases gm : m = []
          · subst gl gm
            simp only [slT, List.map_nil, outN, newsN, List.append_nil, List.nil_append] at *
            refine key _ (fun g e => ?_) (fun g e => ?_) <;> clear key hd0
            · simp (disch := first | decide | omega | (simp only [LN]; omega) | (simp only [LN]; done) | fail) only [SV, f6, Nat.zero_add, Nat.reduceAdd, Bool.and_self, beq_self_eq_true, Nat.reduceBEq, Bool.not_true, Bool.and_false, Bool.false_and, e9, V.new, V.new1, D.flat, Bool.or_true, Bool.false_eq_true, if_false, V.own, V.own1, Bool.or_self, V.flatV, V.flat1, view, viewD, e15, evBin, intBin, decide_true, if_true, evUn, e, Int.reduceEq, htm, hdn, evLen, decide_false, a13, Bool.or_false, evExt, List.getElem?_cons_zero, List.getElem?_cons_succ, b13, e_nilif, evEqs, cellsEq, cellEq, V.isNilI, V.refs, w1, w2, strBin, List.length_append, x1, x2, y0, Bool.not_false, V.new2, V.newR, V.shift, Nat.add_zero, y1, rows_fs0, lose, y2, Bool.and_true, Nat.le_refl, v1, oneOr, finV, finA, finC]
            · simp (disch := first | decide | omega | (simp only [LN]; omega) | (simp only [LN]; done) | fail) only [SV, f6, e, Nat.zero_add, Nat.reduceAdd, Bool.and_self, beq_self_eq_true, Nat.reduceBEq, Bool.not_true, Bool.and_false, Bool.false_and, e9, V.new, V.new1, D.flat, Bool.or_true, Bool.false_eq_true, if_false, V.own, V.own1, Bool.or_self, V.flatV, V.flat1, view, viewD, e15, evBin, intBin, decide_false, if_true, Int.reduceEq, htm, hdn, evLen, a13, Bool.or_false, evExt, List.getElem?_cons_zero, List.getElem?_cons_succ, b13, evUn, e_nilif, evEqs, cellsEq, cellEq, V.isNilI, V.refs, decide_true, w1, w2, strBin, List.length_append, x1, x2, y0, Bool.not_false, V.new2, V.newR, V.shift, Nat.add_zero, y1, rows_fs0, lose, y2, Bool.and_true, Nat.le_refl, v1, oneOr, finV, finA, finC]
          · subst gl
            have n1 : m.map (mvT (a.length + 1 + w.length)) ≠ [] := by simpa using gm
            have n2 : m.map (mvT (a.length + 2 + ln.length)) ≠ [] := by simpa using gm
            rw [(outN_ne n1).1, (outN_ne n1).2] at y1
            rw [(outN_ne n2).1, (outN_ne n2).2] at y2
            generalize m.map (mvT (a.length + 1 + w.length)) = m1 at *
            generalize m.map (mvT (a.length + 2 + ln.length)) = m2 at *
            simp only [slT, List.map_nil, outN, newsN, List.append_nil, List.nil_append] at *
            clear n1 n2 gm
            refine key _ (fun g e => ?_) (fun g e => ?_) <;> clear key hd0
            · simp (disch := first | decide | omega | (simp only [LN]; omega) | (simp only [LN]; done) | fail) only [SV, f6, Nat.zero_add, Nat.reduceAdd, Bool.and_self, beq_self_eq_true, Nat.reduceBEq, Bool.not_true, Bool.and_false, Bool.false_and, e9, V.new, V.new1, D.flat, Bool.or_true, Bool.false_eq_true, if_false, V.own, V.own1, Bool.or_self, V.flatV, V.flat1, view, viewD, e15, evBin, intBin, decide_true, if_true, evUn, e, Int.reduceEq, htm, hdn, evLen, decide_false, a13, Bool.or_false, evExt, List.getElem?_cons_zero, List.getElem?_cons_succ, b13, e_nilif, evEqs, cellsEq, cellEq, V.isNilI, V.refs, w1, w2, strBin, List.length_append, x1, x2, y0, Bool.not_false, V.new2, V.newR, V.shift, Nat.add_zero, y1, Nat.le_refl, Bool.true_or, lose, y2, Bool.and_true, v1, v2, oneOr, finV, finA, finC]
            · simp (disch := first | decide | omega | (simp only [LN]; omega) | (simp only [LN]; done) | fail) only [SV, f6, e, Nat.zero_add, Nat.reduceAdd, Bool.and_self, beq_self_eq_true, Nat.reduceBEq, Bool.not_true, Bool.and_false, Bool.false_and, e9, V.new, V.new1, D.flat, Bool.or_true, Bool.false_eq_true, if_false, V.own, V.own1, Bool.or_self, V.flatV, V.flat1, view, viewD, e15, evBin, intBin, decide_false, if_true, Int.reduceEq, htm, hdn, evLen, a13, Bool.or_false, evExt, List.getElem?_cons_zero, List.getElem?_cons_succ, b13, evUn, e_nilif, evEqs, cellsEq, cellEq, V.isNilI, V.refs, decide_true, w1, w2, strBin, List.length_append, x1, x2, y0, Bool.not_false, V.new2, V.newR, V.shift, Nat.add_zero, y1, Nat.le_refl, Bool.true_or, lose, y2, Bool.and_true, v1, v2, oneOr, finV, finA, finC]
        · rw [(outN_ne gl).1, (outN_ne gl).2] at y0
          by_cases gm : m = []
          · subst gm
            simp only [slT, List.map_nil, outN, newsN, List.append_nil, List.nil_append] at *
            clear gl
            refine key _ (fun g e => ?_) (fun g e => ?_) <;> clear key hd0
            · simp (disch := first | decide | omega | (simp only [LN]; omega) | (simp only [LN]; done) | fail) only [SV, f6, Nat.zero_add, Nat.reduceAdd, Bool.and_self, beq_self_eq_true, Nat.reduceBEq, Bool.not_true, Bool.and_false, Bool.false_and, e9, V.new, V.new1, D.flat, Bool.or_true, Bool.false_eq_true, if_false, V.own, V.own1, Bool.or_self, V.flatV, V.flat1, view, viewD, e15, evBin, intBin, decide_true, if_true, evUn, e, Int.reduceEq, htm, hdn, evLen, decide_false, a13, Bool.or_false, evExt, List.getElem?_cons_zero, List.getElem?_cons_succ, b13, e_nilif, evEqs, cellsEq, cellEq, V.isNilI, V.refs, w1, w2, strBin, List.length_append, x1, x2, y0, Bool.not_false, V.new2, V.newR, V.shift, Nat.add_zero, y1, rows_fs0, lose, V.forget, V.drop1, beq_iff_eq, V.ref0, y2, reduceCtorEq, Bool.and_true, Nat.le_refl, v1, oneOr, finV, finA, finC]
            · simp (disch := first | decide | omega | (simp only [LN]; omega) | (simp only [LN]; done) | fail) only [SV, f6, e, Nat.zero_add, Nat.reduceAdd, Bool.and_self, beq_self_eq_true, Nat.reduceBEq, Bool.not_true, Bool.and_false, Bool.false_and, e9, V.new, V.new1, D.flat, Bool.or_true, Bool.false_eq_true, if_false, V.own, V.own1, Bool.or_self, V.flatV, V.flat1, view, viewD, e15, evBin, intBin, decide_false, if_true, Int.reduceEq, htm, hdn, evLen, a13, Bool.or_false, evExt, List.getElem?_cons_zero, List.getElem?_cons_succ, b13, evUn, e_nilif, evEqs, cellsEq, cellEq, V.isNilI, V.refs, decide_true, w1, w2, strBin, List.length_append, x1, x2, y0, Bool.not_false, V.new2, V.newR, V.shift, Nat.add_zero, y1, rows_fs0, lose, V.forget, V.drop1, beq_iff_eq, V.ref0, y2, reduceCtorEq, Bool.and_true, Nat.le_refl, v1, oneOr, finV, finA, finC]
          · have n1 : m.map (mvT (a.length + 1 + w.length)) ≠ [] := by simpa using gm
            have n2 : m.map (mvT (a.length + 2 + ln.length)) ≠ [] := by simpa using gm
            rw [(outN_ne n1).1, (outN_ne n1).2] at y1
            rw [(outN_ne n2).1, (outN_ne n2).2] at y2
            generalize m.map (mvT (a.length + 1 + w.length)) = m1 at *
            generalize m.map (mvT (a.length + 2 + ln.length)) = m2 at *
            clear n1 n2 gm gl
            refine key _ (fun g e => ?_) (fun g e => ?_) <;> clear key hd0
            · simp (disch := first | decide | omega | (simp only [LN]; omega) | (simp only [LN]; done) | fail) only [SV, f6, Nat.zero_add, Nat.reduceAdd, Bool.and_self, beq_self_eq_true, Nat.reduceBEq, Bool.not_true, Bool.and_false, Bool.false_and, e9, V.new, V.new1, D.flat, Bool.or_true, Bool.false_eq_true, if_false, V.own, V.own1, Bool.or_self, V.flatV, V.flat1, view, viewD, e15, evBin, intBin, decide_true, if_true, evUn, e, Int.reduceEq, htm, hdn, evLen, decide_false, a13, Bool.or_false, evExt, List.getElem?_cons_zero, List.getElem?_cons_succ, b13, e_nilif, evEqs, cellsEq, cellEq, V.isNilI, V.refs, w1, w2, strBin, List.length_append, x1, x2, y0, Bool.not_false, V.new2, V.newR, V.shift, Nat.add_zero, y1, Nat.le_refl, Bool.true_or, fTokA, lose, V.forget, V.drop1, beq_iff_eq, V.ref0, y2, reduceCtorEq, Bool.and_true, v1, v2, oneOr, finV, finA, finC]
            · simp (disch := first | decide | omega | (simp only [LN]; omega) | (simp only [LN]; done) | fail) only [SV, f6, e, Nat.zero_add, Nat.reduceAdd, Bool.and_self, beq_self_eq_true, Nat.reduceBEq, Bool.not_true, Bool.and_false, Bool.false_and, e9, V.new, V.new1, D.flat, Bool.or_true, Bool.false_eq_true, if_false, V.own, V.own1, Bool.or_self, V.flatV, V.flat1, view, viewD, e15, evBin, intBin, decide_false, if_true, Int.reduceEq, htm, hdn, evLen, a13, Bool.or_false, evExt, List.getElem?_cons_zero, List.getElem?_cons_succ, b13, evUn, e_nilif, evEqs, cellsEq, cellEq, V.isNilI, V.refs, decide_true, w1, w2, strBin, List.length_append, x1, x2, y0, Bool.not_false, V.new2, V.newR, V.shift, Nat.add_zero, y1, Nat.le_refl, Bool.true_or, fTokA, lose, V.forget, V.drop1, beq_iff_eq, V.ref0, y2, reduceCtorEq, Bool.and_true, v1, v2, oneOr, finV, finA, finC]
      · obtain ⟨e1, e2, hbad⟩ := lexV_bad (fun l h => gb2 ⟨l, h⟩)
        obtain ⟨l, hl⟩ := ga
        rw [hbad] at b13
        rw [hl] at a13
        unfold errD at b13
        clear gb2 hpl
        refine key _ (fun g e => ?_) (fun g e => ?_) <;> clear key hd0
        · simp (disch := first | decide | omega | (simp only [LN]; omega) | (simp only [LN]; done) | fail) only [SV, f6, Nat.zero_add, Nat.reduceAdd, Bool.and_self, beq_self_eq_true, Nat.reduceBEq, Bool.not_true, Bool.and_false, Bool.false_and, e9, V.new, V.new1, D.flat, Bool.or_true, Bool.false_eq_true, if_false, V.own, V.own1, Bool.or_self, V.flatV, V.flat1, view, viewD, e15, evBin, intBin, decide_true, if_true, evUn, e, Int.reduceEq, htm, hdn, evLen, decide_false, a13, Bool.or_false, evExt, List.getElem?_cons_zero, List.getElem?_cons_succ, b13, Bool.and_true, Bool.not_false, e_nilif, evEqs, cellsEq, cellEq, V.isNilI, V.refs, oneOr, finV, finA, finC]
        · simp (disch := first | decide | omega | (simp only [LN]; omega) | (simp only [LN]; done) | fail) only [SV, f6, e, Nat.zero_add, Nat.reduceAdd, Bool.and_self, beq_self_eq_true, Nat.reduceBEq, Bool.not_true, Bool.and_false, Bool.false_and, e9, V.new, V.new1, D.flat, Bool.or_true, Bool.false_eq_true, if_false, V.own, V.own1, Bool.or_self, V.flatV, V.flat1, view, viewD, e15, evBin, intBin, decide_false, if_true, Int.reduceEq, htm, hdn, evLen, a13, Bool.or_false, evExt, List.getElem?_cons_zero, List.getElem?_cons_succ, b13, Bool.and_true, Bool.not_false, evUn, e_nilif, evEqs, cellsEq, cellEq, V.isNilI, V.refs, decide_true, oneOr, finV, finA, finC]
    · obtain ⟨e1, e2, hbad⟩ := lexV_bad (fun l h => ga ⟨l, h⟩)
      rw [hbad] at a13
      unfold errD at a13
      clear ga hpl
      cases hzb : lexV b with
      | tup vs =>
        have : (∃ l : List Tok, lexV b = .tup [.d true (.sl 4 (l.map eTok)), .d false .nilif]) ∨ (∃ e1 e2, lexV b = errD e1 e2) := by
          by_cases h : ∃ l : List Tok, lexV b = .tup [.d true (.sl 4 (l.map eTok)), .d false .nilif]
          · exact Or.inl h
          · exact Or.inr (lexV_bad (fun l h' => h ⟨l, h'⟩))
        rcases this with ⟨m, hm⟩ | ⟨e3, e4, hm⟩
        · rw [hm] at b13
          clear hzb hm
          refine key _ (fun g e => ?_) (fun g e => ?_) <;> clear key hd0
          · simp (disch := first | decide | omega | (simp only [LN]; omega) | (simp only [LN]; done) | fail) only [SV, f6, Nat.zero_add, Nat.reduceAdd, Bool.and_self, beq_self_eq_true, Nat.reduceBEq, Bool.not_true, Bool.and_false, Bool.false_and, e9, V.new, V.new1, D.flat, Bool.or_true, Bool.false_eq_true, if_false, V.own, V.own1, Bool.or_self, V.flatV, V.flat1, view, viewD, e15, evBin, intBin, decide_true, if_true, evUn, e, Int.reduceEq, htm, hdn, evLen, decide_false, a13, Bool.or_false, Bool.and_true, Bool.not_false, evExt, List.getElem?_cons_zero, List.getElem?_cons_succ, b13, e_nilif, evEqs, cellsEq, cellEq, V.isNilI, V.refs, oneOr, finV, finA, finC]
          · simp (disch := first | decide | omega | (simp only [LN]; omega) | (simp only [LN]; done) | fail) only [SV, f6, e, Nat.zero_add, Nat.reduceAdd, Bool.and_self, beq_self_eq_true, Nat.reduceBEq, Bool.not_true, Bool.and_false, Bool.false_and, e9, V.new, V.new1, D.flat, Bool.or_true, Bool.false_eq_true, if_false, V.own, V.own1, Bool.or_self, V.flatV, V.flat1, view, viewD, e15, evBin, intBin, decide_false, if_true, Int.reduceEq, htm, hdn, evLen, a13, Bool.or_false, Bool.and_true, Bool.not_false, evExt, List.getElem?_cons_zero, List.getElem?_cons_succ, b13, evUn, e_nilif, evEqs, cellsEq, cellEq, V.isNilI, V.refs, decide_true, oneOr, finV, finA, finC]
        · rw [hm] at b13
          unfold errD at b13
          clear hzb hm
          refine key _ (fun g e => ?_) (fun g e => ?_) <;> clear key hd0
          · simp (disch := first | decide | omega | (simp only [LN]; omega) | (simp only [LN]; done) | fail) only [SV, f6, Nat.zero_add, Nat.reduceAdd, Bool.and_self, beq_self_eq_true, Nat.reduceBEq, Bool.not_true, Bool.and_false, Bool.false_and, e9, V.new, V.new1, D.flat, Bool.or_true, Bool.false_eq_true, if_false, V.own, V.own1, Bool.or_self, V.flatV, V.flat1, view, viewD, e15, evBin, intBin, decide_true, if_true, evUn, e, Int.reduceEq, htm, hdn, evLen, decide_false, a13, Bool.or_false, Bool.and_true, Bool.not_false, evExt, List.getElem?_cons_zero, List.getElem?_cons_succ, b13, e_nilif, evEqs, cellsEq, cellEq, V.isNilI, V.refs, oneOr, finV, finA, finC]
          · simp (disch := first | decide | omega | (simp only [LN]; omega) | (simp only [LN]; done) | fail) only [SV, f6, e, Nat.zero_add, Nat.reduceAdd, Bool.and_self, beq_self_eq_true, Nat.reduceBEq, Bool.not_true, Bool.and_false, Bool.false_and, e9, V.new, V.new1, D.flat, Bool.or_true, Bool.false_eq_true, if_false, V.own, V.own1, Bool.or_self, V.flatV, V.flat1, view, viewD, e15, evBin, intBin, decide_false, if_true, Int.reduceEq, htm, hdn, evLen, a13, Bool.or_false, Bool.and_true, Bool.not_false, evExt, List.getElem?_cons_zero, List.getElem?_cons_succ, b13, evUn, e_nilif, evEqs, cellsEq, cellEq, V.isNilI, V.refs, decide_true, oneOr, finV, finA, finC]
      | _ =>
        exfalso
        unfold lexV errD at hzb
        split at hzb
        · cases hzb
        · split at hzb <;> cases hzb
end Go.Vm
end

section
namespace Go.Vm
open Go.RowKit Go.Shelf Go.Proofs Go.Sort

def GT : Nat → Option (List D)
  | 0 => some (clTab.map fun n => .int .u8 (n : Nat))
  | 2 => some (Lib.pow10Tab.map fun z => .int .u64 z)
  | _ => none

theorem gP10 : Tryd.prog.globalNamed "internal/strconv.uint64pow10" = some 2 := by kernel_rfl

theorem repD_int {w : World} {F : Nat → Prop} {v : Value} {k : IntKind} {n : Int} (h : RepD w F v (.int k n)) : v = .int k n := by
  cases h with | int k n => rfl

theorem tab_of_glob {w : World} {F : Nat → Prop} (h : GlobRel w F GT) : Lib.TabIs Tryd.prog w "internal/strconv.uint64pow10" .u64 Lib.pow10Tab := by
  obtain ⟨h1, cs, t, fz, h2, h3⟩ := h 2 _ rfl
  unfold Lib.TabIs World.var?
  rw [gP10]
  show (match w.heap[2]? with | some (.cells cs _ _) => some cs | _ => none) = _
  rw [h2]
  show some cs = _
  congr 1
  apply Array.ext
  · rw [h3]; simp
  · intro j hj1 hj2
    cases h1 with
    | ptr b o cells g hf hc hr =>
      have hj : j < Lib.pow10Tab.length := by simpa using hj2
      have e : (Lib.pow10Tab.map fun z => D.int .u64 z)[j]? = some (.int .u64 Lib.pow10Tab[j]) := by simp [hj]
      have hv := hr j _ e
      have hg := repD_int hv
      have hcell := hc j _ e
      rw [hg, Nat.zero_add] at hcell
      have : w.cell? ⟨2, j, none⟩ = some cs[j] := by
        rw [Lib.cell_of_heap h2]
        simp [hj1]
      rw [this] at hcell
      simpa using Option.some.inj hcell

theorem nothing_new {w : World} {F : Nat → Prop} {base : Nat} (hF : ∀ b, F b → b < w.heap.size) : HeapRel w F (fun _ _ => False) base (fun _ => none) 0 (indexed []) :=
  ⟨fun b blk h => absurd (show look [] b = some blk from h) (by simp [look]), fun b b' l l' h => (by cases h), fun b l h => (by cases h), hF⟩

def hexd : BS := [48, 49, 50, 51, 52, 53, 54, 55, 56, 57, 97, 98, 99, 100, 101, 102]
theorem ix_hex : ∀ c : UInt8, Lib.indexByte hexd c = hexB c := u8all (by decide +kernel)

theorem pure_index (c : UInt8) : PureCall Tryd.prog GT 85 [vS hexd, .d false (.int .u8 c.toNat)] (vI (hexB c)) [] := by
  intro w F vals hF hG hR
  obtain ⟨hsz, hval⟩ := hR
  obtain ⟨l⟩ := vals
  match l, hsz, hval with
  | [v0, v1], hsz, hval =>
    obtain ⟨t, e0, e0'⟩ := (hval 0 v0 (vS hexd) rfl rfl).str_inv
    have e1 := (hval 1 v1 (.d false (.int .u8 c.toNat)) rfl rfl).int_inv
    subst e0; subst e1
    refine (Tryd.strings_IndexByte t c.toNat w).mono ?_
    rintro e w' ⟨rfl, rfl⟩
    refine ⟨_, F, fun _ => none, rfl, .refl _ _, fun b h => .inl h, ?_, nothing_new hF⟩
    have : (c.toNat : Int).toNat.toUInt8 = c := by simp
    rw [← e0', this, ix_hex]
    exact .d _ _ _ (.int _ _)
  | [], hsz, _ => simp at hsz
  | [_], hsz, _ => simp at hsz
  | _ :: _ :: _ :: _, hsz, _ => simp at hsz

theorem pure_itoa (n : Int) (h0 : -9223372036854775808 ≤ n) (h1 : n ≤ 9223372036854775807) : PureCall Tryd.prog GT 38 [vI n] (vS (Lib.itoa n)) [] := by
  intro w F vals hF hG hR
  obtain ⟨hsz, hval⟩ := hR
  obtain ⟨l⟩ := vals
  match l, hsz, hval with
  | [v0], hsz, hval =>
    have e0 := (hval 0 v0 (vI n) rfl rfl).int_inv
    subst e0
    refine (Tryd.strconv_Itoa n h0 h1 w (tab_of_glob hG)).mono ?_
    rintro e w' ⟨rfl, k, os, rfl⟩
    have hsz : (grow (w.drewN k) os).heap.size = w.heap.size + os.size := by
      show ((w.drewN k).heap ++ os).size = _
      simp
    refine ⟨_, F, fun _ => none, rfl, ⟨rfl, rfl, rfl, by rw [hsz]; omega, fun j hj => ?_⟩, fun b h => .inl h, ?_, nothing_new (fun b h => by rw [hsz]; have := hF b h; omega)⟩
    · show ((w.drewN k).heap ++ os)[j]? = _
      rw [Array.getElem?_append_left (by simpa using hj)]
      simp
    · exact .d _ _ _ (.str ⟨(Lib.itoa n).toArray⟩)
  | [], hsz, _ => simp at hsz
  | _ :: _ :: _, hsz, _ => simp at hsz
end Go.Vm
end

section
namespace Go.Vm
open Go.Shelf Go.Proofs

theorem eTok_inj (a b : Tok) (h : eTok a = eTok b) : a = b := by
  cases a; cases b
  simp only [eTok, List.cons.injEq, D.int.injEq, D.str.injEq, true_and, and_true] at h
  simp only [Tok.mk.injEq]
  exact h
theorem mapT_inj : ∀ l l' : List Tok, l.map eTok = l'.map eTok → l = l'
  | [], [], _ => rfl
  | [], _ :: _, h => by simp at h
  | _ :: _, [], h => by simp at h
  | a :: l, b :: l', h => by
    simp only [List.map_cons, List.cons.injEq] at h
    rw [eTok_inj a b h.1, mapT_inj l l' h.2]
theorem mT (l l' : List Tok) : l.map eTok = l'.map eTok ↔ l = l' := ⟨mapT_inj l l', fun h => by rw [h]⟩
theorem vT_inj (t u : Tok) : vT t = vT u ↔ t = u := by
  constructor
  · intro h
    cases t; cases u
    simp only [vT, V.agg.injEq, List.cons.injEq, V.d.injEq, D.int.injEq, D.str.injEq, true_and, and_true] at h
    simp only [Tok.mk.injEq]
    exact h
  · intro h; rw [h]
theorem lexV_ease (s : BS) : (lexV0 s).ease = lexV s := by
  unfold lexV0 lexV
  split
  · rfl
  · split
    · rename_i h; rw [h]; rfl
    · rename_i h; rw [h]; rfl
    · rename_i h; rw [h]; rfl

noncomputable def z85 : Sp where
  α := UInt8
  f := 85
  ok := fun c => True
  args := fun c => [vS hexd, .d false (.int .u8 (c : UInt8).toNat)]
  res := fun c => (vI (hexB c), [])
  inj := by
    rintro c c' _ _ h
    simp only [vS, vI, slT, vT_inj, List.cons.injEq, V.agg.injEq, V.d.injEq, D.sl.injEq, D.int.injEq, D.str.injEq, D.ptr.injEq, Int.natCast_inj, UInt8.toNat_inj, mT, true_and, and_true] at h
    rw [h]
noncomputable def z38 : Sp where
  α := Int
  f := 38
  ok := fun n => (-9223372036854775808 ≤ n) ∧ (n ≤ 9223372036854775807)
  args := fun n => [vI n]
  res := fun n => (vS (Lib.itoa n), [])
  inj := by
    rintro n n' _ _ h
    simp only [vS, vI, slT, vT_inj, List.cons.injEq, V.agg.injEq, V.d.injEq, D.sl.injEq, D.int.injEq, D.str.injEq, D.ptr.injEq, Int.natCast_inj, UInt8.toNat_inj, mT, true_and, and_true] at h
    rw [h]
noncomputable def z27 : Sp where
  α := BS × Nat
  f := 27
  ok := fun (s, i) => (i ≤ s.length)
  args := fun (s, i) => [vS s, vI i]
  res := fun (s, i) => (.d false (.int .u8 (cls (s.drop i))), [])
  inj := by
    rintro ⟨s, i⟩ ⟨s', i'⟩ _ _ h
    simp only [vS, vI, slT, vT_inj, List.cons.injEq, V.agg.injEq, V.d.injEq, D.sl.injEq, D.int.injEq, D.str.injEq, D.ptr.injEq, Int.natCast_inj, UInt8.toNat_inj, mT, true_and, and_true] at h
    simp only [h]
noncomputable def z30 : Sp where
  α := BS × Nat × Nat
  f := 30
  ok := fun (s, i, k) => (i ≤ s.length) ∧ (s.length ≤ 2000000) ∧ (k ≠ 0)
  args := fun (s, i, k) => [vS s, vI i, .d false (.int .u8 k)]
  res := fun (s, i, k) => (vI ((i + runL k (s.drop i) : Nat)), [])
  inj := by
    rintro ⟨s, i, k⟩ ⟨s', i', k'⟩ _ _ h
    simp only [vS, vI, slT, vT_inj, List.cons.injEq, V.agg.injEq, V.d.injEq, D.sl.injEq, D.int.injEq, D.str.injEq, D.ptr.injEq, Int.natCast_inj, UInt8.toNat_inj, mT, true_and, and_true] at h
    simp only [h]
noncomputable def z48 : Sp where
  α := BS × Nat
  f := 48
  ok := fun (s, i) => (i ≤ s.length)
  args := fun (s, i) => [vS s, vI i]
  res := fun (s, i) => (.d false (.bool (inNm (s.drop i))), [])
  inj := by
    rintro ⟨s, i⟩ ⟨s', i'⟩ _ _ h
    simp only [vS, vI, slT, vT_inj, List.cons.injEq, V.agg.injEq, V.d.injEq, D.sl.injEq, D.int.injEq, D.str.injEq, D.ptr.injEq, Int.natCast_inj, UInt8.toNat_inj, mT, true_and, and_true] at h
    simp only [h]
noncomputable def z42 : Sp where
  α := BS × Nat
  f := 42
  ok := fun (s, i) => (i ≤ s.length) ∧ (s.length ≤ 2000000)
  args := fun (s, i) => [vS s, vI i]
  res := fun (s, i) => (vI ((i + nameL (s.drop i) : Nat)), [])
  inj := by
    rintro ⟨s, i⟩ ⟨s', i'⟩ _ _ h
    simp only [vS, vI, slT, vT_inj, List.cons.injEq, V.agg.injEq, V.d.injEq, D.sl.injEq, D.int.injEq, D.str.injEq, D.ptr.injEq, Int.natCast_inj, UInt8.toNat_inj, mT, true_and, and_true] at h
    simp only [h]
noncomputable def z40 : Sp where
  α := BS × BS
  f := 40
  ok := fun (p, s) => (s.length ≤ 2000000) ∧ (p.length ≤ 2000000)
  args := fun (p, s) => [vS s, vS p]
  res := fun (p, s) => (.d false (.bool (pre p s)), [])
  inj := by
    rintro ⟨p, s⟩ ⟨p', s'⟩ _ _ h
    simp only [vS, vI, slT, vT_inj, List.cons.injEq, V.agg.injEq, V.d.injEq, D.sl.injEq, D.int.injEq, D.str.injEq, D.ptr.injEq, Int.natCast_inj, UInt8.toNat_inj, mT, true_and, and_true] at h
    simp only [h]
noncomputable def z28 : Sp where
  α := BS × BS
  f := 28
  ok := fun (p, s) => (s.length ≤ 2000000) ∧ (p.length ≤ 2000000)
  args := fun (p, s) => [vS s, vS p]
  res := fun (p, s) => (.d false (.bool (pre p s)), [])
  inj := by
    rintro ⟨p, s⟩ ⟨p', s'⟩ _ _ h
    simp only [vS, vI, slT, vT_inj, List.cons.injEq, V.agg.injEq, V.d.injEq, D.sl.injEq, D.int.injEq, D.str.injEq, D.ptr.injEq, Int.natCast_inj, UInt8.toNat_inj, mT, true_and, and_true] at h
    simp only [h]
noncomputable def z43 : Sp where
  α := BS
  f := 43
  ok := fun s => True
  args := fun s => [vS s]
  res := fun s => (.d false (.bool (resv s)), [])
  inj := by
    rintro s s' _ _ h
    simp only [vS, vI, slT, vT_inj, List.cons.injEq, V.agg.injEq, V.d.injEq, D.sl.injEq, D.int.injEq, D.str.injEq, D.ptr.injEq, Int.natCast_inj, UInt8.toNat_inj, mT, true_and, and_true] at h
    rw [h]
noncomputable def z46 : Sp where
  α := BS
  f := 46
  ok := fun s => True
  args := fun s => [vS s]
  res := fun s => (.d false (.bool (isSg s)), [])
  inj := by
    rintro s s' _ _ h
    simp only [vS, vI, slT, vT_inj, List.cons.injEq, V.agg.injEq, V.d.injEq, D.sl.injEq, D.int.injEq, D.str.injEq, D.ptr.injEq, Int.natCast_inj, UInt8.toNat_inj, mT, true_and, and_true] at h
    rw [h]
noncomputable def z61 : Sp where
  α := BS × UInt8
  f := 61
  ok := fun (s, c) => (s.length ≤ 2000000)
  args := fun (s, c) => [vS s, .d false (.int .u8 (c : UInt8).toNat)]
  res := fun (s, c) => (vS (trL c s), [])
  inj := by
    rintro ⟨s, c⟩ ⟨s', c'⟩ _ _ h
    simp only [vS, vI, slT, vT_inj, List.cons.injEq, V.agg.injEq, V.d.injEq, D.sl.injEq, D.int.injEq, D.str.injEq, D.ptr.injEq, Int.natCast_inj, UInt8.toNat_inj, mT, true_and, and_true] at h
    simp only [h]
noncomputable def z62 : Sp where
  α := BS × UInt8
  f := 62
  ok := fun (s, c) => (s.length ≤ 2000000)
  args := fun (s, c) => [vS s, .d false (.int .u8 (c : UInt8).toNat)]
  res := fun (s, c) => (vS (trR c s), [])
  inj := by
    rintro ⟨s, c⟩ ⟨s', c'⟩ _ _ h
    simp only [vS, vI, slT, vT_inj, List.cons.injEq, V.agg.injEq, V.d.injEq, D.sl.injEq, D.int.injEq, D.str.injEq, D.ptr.injEq, Int.natCast_inj, UInt8.toNat_inj, mT, true_and, and_true] at h
    simp only [h]
noncomputable def z41 : Sp where
  α := BS
  f := 41
  ok := fun s => (s ≠ []) ∧ (s.length ≤ 2000000)
  args := fun s => [vS s, vS [45]]
  res := fun s => (vS (trL 45 (trR 45 s)), [])
  inj := by
    rintro s s' _ _ h
    simp only [vS, vI, slT, vT_inj, List.cons.injEq, V.agg.injEq, V.d.injEq, D.sl.injEq, D.int.injEq, D.str.injEq, D.ptr.injEq, Int.natCast_inj, UInt8.toNat_inj, mT, true_and, and_true] at h
    rw [h]
noncomputable def z31 : Sp where
  α := BS
  f := 31
  ok := fun s => (s.length ≤ 2000000)
  args := fun s => [vS s]
  res := fun s => (.d false (.bool (dsh s)), [])
  inj := by
    rintro s s' _ _ h
    simp only [vS, vI, slT, vT_inj, List.cons.injEq, V.agg.injEq, V.d.injEq, D.sl.injEq, D.int.injEq, D.str.injEq, D.ptr.injEq, Int.natCast_inj, UInt8.toNat_inj, mT, true_and, and_true] at h
    rw [h]
noncomputable def z29 : Sp where
  α := BS × Nat
  f := 29
  ok := fun (s, i) => (i ≤ s.length) ∧ (s.length ≤ 2000000)
  args := fun (s, i) => [vS s, vI i]
  res := fun (s, i) => (vI (match comL 0 (s.drop i) with | some n => ((i + n : Nat) : Int) | none => -1), [])
  inj := by
    rintro ⟨s, i⟩ ⟨s', i'⟩ _ _ h
    simp only [vS, vI, slT, vT_inj, List.cons.injEq, V.agg.injEq, V.d.injEq, D.sl.injEq, D.int.injEq, D.str.injEq, D.ptr.injEq, Int.natCast_inj, UInt8.toNat_inj, mT, true_and, and_true] at h
    simp only [h]
noncomputable def z68 : Sp where
  α := BS × Nat
  f := 68
  ok := fun (s, i) => (s.length ≤ 2000000)
  args := fun (s, i) => [vS s, vI i]
  res := fun (s, i) => (.d false (.int .u8 (bAt (s.drop i)).toNat), [])
  inj := by
    rintro ⟨s, i⟩ ⟨s', i'⟩ _ _ h
    simp only [vS, vI, slT, vT_inj, List.cons.injEq, V.agg.injEq, V.d.injEq, D.sl.injEq, D.int.injEq, D.str.injEq, D.ptr.injEq, Int.natCast_inj, UInt8.toNat_inj, mT, true_and, and_true] at h
    simp only [h]
noncomputable def z69 : Sp where
  α := BS × Nat
  f := 69
  ok := fun (s, i) => (s.length ≤ 2000000)
  args := fun (s, i) => [vS s, vI i]
  res := fun (s, i) => (vI (hexL (s.drop i)), [])
  inj := by
    rintro ⟨s, i⟩ ⟨s', i'⟩ _ _ h
    simp only [vS, vI, slT, vT_inj, List.cons.injEq, V.agg.injEq, V.d.injEq, D.sl.injEq, D.int.injEq, D.str.injEq, D.ptr.injEq, Int.natCast_inj, UInt8.toNat_inj, mT, true_and, and_true] at h
    simp only [h]
noncomputable def z44 : Sp where
  α := BS × Nat
  f := 44
  ok := fun (s, i) => (i ≤ s.length) ∧ (s.length ≤ 2000000)
  args := fun (s, i) => [vS s, vI i]
  res := fun (s, i) => (.tup [vI (upS (s.drop i)).1, vI ((i + (upS (s.drop i)).2 : Nat))], [])
  inj := by
    rintro ⟨s, i⟩ ⟨s', i'⟩ _ _ h
    simp only [vS, vI, slT, vT_inj, List.cons.injEq, V.agg.injEq, V.d.injEq, D.sl.injEq, D.int.injEq, D.str.injEq, D.ptr.injEq, Int.natCast_inj, UInt8.toNat_inj, mT, true_and, and_true] at h
    simp only [h]
noncomputable def z70 : Sp where
  α := BS × Nat × UInt8
  f := 70
  ok := fun (s, i, q) => (s.length ≤ 2000000) ∧ (i ≤ s.length)
  args := fun (s, i, q) => [vS s, vI i, .d false (.int .u8 (q : UInt8).toNat)]
  res := fun (s, i, q) => (vSound i (soundS (s.drop i) q), [])
  inj := by
    rintro ⟨s, i, q⟩ ⟨s', i', q'⟩ _ _ h
    simp only [vS, vI, slT, vT_inj, List.cons.injEq, V.agg.injEq, V.d.injEq, D.sl.injEq, D.int.injEq, D.str.injEq, D.ptr.injEq, Int.natCast_inj, UInt8.toNat_inj, mT, true_and, and_true] at h
    simp only [h]
noncomputable def z45 : Sp where
  α := BS × Nat
  f := 45
  ok := fun (s, i) => (i < s.length) ∧ (s.length ≤ 2000000)
  args := fun (s, i) => [vS s, vI i]
  res := fun (s, i) => (stV i (numS (s.drop i)), [])
  inj := by
    rintro ⟨s, i⟩ ⟨s', i'⟩ _ _ h
    simp only [vS, vI, slT, vT_inj, List.cons.injEq, V.agg.injEq, V.d.injEq, D.sl.injEq, D.int.injEq, D.str.injEq, D.ptr.injEq, Int.natCast_inj, UInt8.toNat_inj, mT, true_and, and_true] at h
    simp only [h]
noncomputable def z47 : Sp where
  α := BS × Nat
  f := 47
  ok := fun (s, i) => (i < s.length) ∧ (s.length ≤ 2000000) ∧ ((bAt (s.drop i) = 34 ∨ bAt (s.drop i) = 39))
  args := fun (s, i) => [vS s, vI i]
  res := fun (s, i) => (stV i (quotS (s.drop i)), [])
  inj := by
    rintro ⟨s, i⟩ ⟨s', i'⟩ _ _ h
    simp only [vS, vI, slT, vT_inj, List.cons.injEq, V.agg.injEq, V.d.injEq, D.sl.injEq, D.int.injEq, D.str.injEq, D.ptr.injEq, Int.natCast_inj, UInt8.toNat_inj, mT, true_and, and_true] at h
    simp only [h]
noncomputable def z32 : Sp where
  α := BS × Nat
  f := 32
  ok := fun (s, i) => (i < s.length) ∧ (s.length ≤ 2000000)
  args := fun (s, i) => [vS s, vI i]
  res := fun (s, i) => (stV i (tokS (s.drop i)), [])
  inj := by
    rintro ⟨s, i⟩ ⟨s', i'⟩ _ _ h
    simp only [vS, vI, slT, vT_inj, List.cons.injEq, V.agg.injEq, V.d.injEq, D.sl.injEq, D.int.injEq, D.str.injEq, D.ptr.injEq, Int.natCast_inj, UInt8.toNat_inj, mT, true_and, and_true] at h
    simp only [h]
noncomputable def z13 : Sp where
  α := BS
  f := 13
  ok := fun s => (s.length ≤ 2000000)
  args := fun s => [vS s]
  res := fun s => (lexV s, [])
  inj := by
    rintro s s' _ _ h
    simp only [vS, vI, slT, vT_inj, List.cons.injEq, V.agg.injEq, V.d.injEq, D.sl.injEq, D.int.injEq, D.str.injEq, D.ptr.injEq, Int.natCast_inj, UInt8.toNat_inj, mT, true_and, and_true] at h
    rw [h]
noncomputable def z39 : Sp where
  α := BS × UInt8
  f := 39
  ok := fun (s, q) => (s.length ≤ 2000000) ∧ ((q = 39 ∨ q = 34))
  args := fun (s, q) => [vS s, .d false (.int .u8 (q : UInt8).toNat)]
  res := fun (s, q) => (vS (escS s q), [])
  inj := by
    rintro ⟨s, q⟩ ⟨s', q'⟩ _ _ h
    simp only [vS, vI, slT, vT_inj, List.cons.injEq, V.agg.injEq, V.d.injEq, D.sl.injEq, D.int.injEq, D.str.injEq, D.ptr.injEq, Int.natCast_inj, UInt8.toNat_inj, mT, true_and, and_true] at h
    simp only [h]
noncomputable def z25 : Sp where
  α := Tok
  f := 25
  ok := fun t => (TokI t)
  args := fun t => [vT t]
  res := fun t => (vS (writS t), [])
  inj := by
    rintro t t' _ _ h
    simp only [vS, vI, slT, vT_inj, List.cons.injEq, V.agg.injEq, V.d.injEq, D.sl.injEq, D.int.injEq, D.str.injEq, D.ptr.injEq, Int.natCast_inj, UInt8.toNat_inj, mT, true_and, and_true] at h
    rw [h]
noncomputable def z21 : Sp where
  α := Tok
  f := 21
  ok := fun t => (TokI t)
  args := fun t => [vT t]
  res := fun t => (.d false (.bool (escTokS t)), [])
  inj := by
    rintro t t' _ _ h
    simp only [vS, vI, slT, vT_inj, List.cons.injEq, V.agg.injEq, V.d.injEq, D.sl.injEq, D.int.injEq, D.str.injEq, D.ptr.injEq, Int.natCast_inj, UInt8.toNat_inj, mT, true_and, and_true] at h
    rw [h]
noncomputable def z11 : Sp where
  α := List Tok
  f := 11
  ok := fun l => (TokL l)
  args := fun l => [slT l]
  res := fun l => (printV l, [])
  inj := by
    rintro l l' _ _ h
    simp only [vS, vI, slT, vT_inj, List.cons.injEq, V.agg.injEq, V.d.injEq, D.sl.injEq, D.int.injEq, D.str.injEq, D.ptr.injEq, Int.natCast_inj, UInt8.toNat_inj, mT, true_and, and_true] at h
    rw [h]
noncomputable def z12 : Sp where
  α := List Tok × List Tok
  f := 12
  ok := fun (a, b) => (a.length ≤ 4611686018427387903) ∧ (b.length ≤ 4611686018427387903)
  args := fun (a, b) => [slT a, slT b]
  res := fun (a, b) => (.d false (.bool (decide (a = b))), [])
  inj := by
    rintro ⟨a, b⟩ ⟨a', b'⟩ _ _ h
    simp only [vS, vI, slT, vT_inj, List.cons.injEq, V.agg.injEq, V.d.injEq, D.sl.injEq, D.int.injEq, D.str.injEq, D.ptr.injEq, Int.natCast_inj, UInt8.toNat_inj, mT, true_and, and_true] at h
    simp only [h]
noncomputable def z14 : Sp where
  α := List Tok × List Tok
  f := 14
  ok := fun (a, b) => (a.length ≤ 4611686018427387903) ∧ (b.length ≤ 4611686018427387903)
  args := fun (a, b) => [slT a, slT b]
  res := fun (a, b) => (.d false (.bool (likeL a b)), [])
  inj := by
    rintro ⟨a, b⟩ ⟨a', b'⟩ _ _ h
    simp only [vS, vI, slT, vT_inj, List.cons.injEq, V.agg.injEq, V.d.injEq, D.sl.injEq, D.int.injEq, D.str.injEq, D.ptr.injEq, Int.natCast_inj, UInt8.toNat_inj, mT, true_and, and_true] at h
    simp only [h]
noncomputable def z15 : Sp where
  α := BS
  f := 15
  ok := fun c => (c.length ≤ 2000000)
  args := fun c => [vS c]
  res := fun c => (vS (c.filter plainB), [])
  inj := by
    rintro c c' _ _ h
    simp only [vS, vI, slT, vT_inj, List.cons.injEq, V.agg.injEq, V.d.injEq, D.sl.injEq, D.int.injEq, D.str.injEq, D.ptr.injEq, Int.natCast_inj, UInt8.toNat_inj, mT, true_and, and_true] at h
    rw [h]
noncomputable def z16 : Sp where
  α := List Tok × Nat
  f := 16
  ok := fun (l, j) => (l.length ≤ 2000000) ∧ (j ≤ 2000000) ∧ ((∀ t ∈ l, 0 ≤ t.at_ ∧ t.at_ ≤ 2000000))
  args := fun (l, j) => [slT l, vI j]
  res := fun (l, j) => (outN (l.map (mvT j)), newsN (l.map (mvT j)))
  inj := by
    rintro ⟨l, j⟩ ⟨l', j'⟩ _ _ h
    simp only [vS, vI, slT, vT_inj, List.cons.injEq, V.agg.injEq, V.d.injEq, D.sl.injEq, D.int.injEq, D.str.injEq, D.ptr.injEq, Int.natCast_inj, UInt8.toNat_inj, mT, true_and, and_true] at h
    simp only [h]
noncomputable def z9 : Sp where
  α := Unit
  f := 9
  ok := fun u => True
  args := fun u => []
  res := fun u => (.d false (.bool true), [])
  inj := by
    rintro u u' _ _ h
    rfl
noncomputable def y22 : Se where
  α := BS × UInt8
  f := 22
  ok := fun (b, c) => b.length ≤ 100000000
  args := fun (b, c) => [.ptr 0 0 0, .d false (.int .u8 (c : UInt8).toNat)]
  blks := fun (b, c) => [bldB 50 1 b.length, bufB 5 b]
  res := fun (b, c) => (.d false .nilif, [bldB 50 1 (b ++ [c]).length, bufB 5 (b ++ [c])], [1])
  inj := by
    rintro ⟨b, c⟩ ⟨b', c'⟩ _ _ h g
    simp only [vS, vI, bldB, bufB, List.cons.injEq, V.d.injEq, D.int.injEq, D.str.injEq, Blk.map.injEq, Prod.mk.injEq, Int.natCast_inj, UInt8.toNat_inj, true_and, and_true] at h g
    simp only [h, g]
noncomputable def y24 : Se where
  α := BS × BS
  f := 24
  ok := fun (b, s) => b.length ≤ 100000000 ∧ s.length ≤ 100000000
  args := fun (b, s) => [.ptr 0 0 0, vS s]
  blks := fun (b, s) => [bldB 50 1 b.length, bufB 5 b]
  res := fun (b, s) => (.tup [vI s.length, .d false .nilif], [bldB 50 1 (b ++ s).length, bufB 5 (b ++ s)], [1])
  inj := by
    rintro ⟨b, s⟩ ⟨b', s'⟩ _ _ h g
    simp only [vS, vI, bldB, bufB, List.cons.injEq, V.d.injEq, D.int.injEq, D.str.injEq, Blk.map.injEq, Prod.mk.injEq, Int.natCast_inj, UInt8.toNat_inj, true_and, and_true] at h g
    simp only [h, g]
noncomputable def y23 : Se where
  α := BS
  f := 23
  ok := fun b => True
  args := fun b => [.ptr 0 0 0]
  blks := fun b => [bldB 50 1 b.length, bufB 5 b]
  res := fun b => (vI b.length, [bldB 50 1 b.length, bufB 5 b], [])
  inj := by
    rintro b b' _ _ h g
    simp only [vS, vI, bldB, bufB, List.cons.injEq, V.d.injEq, D.int.injEq, D.str.injEq, Blk.map.injEq, Prod.mk.injEq, Int.natCast_inj, UInt8.toNat_inj, true_and, and_true] at h g
    simp only [g]
noncomputable def y26 : Se where
  α := BS
  f := 26
  ok := fun b => True
  args := fun b => [.ptr 0 0 0]
  blks := fun b => [bldB 50 1 b.length, bufB 5 b]
  res := fun b => (vS b, [bldB 50 1 b.length, bufB 5 b], [1])
  inj := by
    rintro b b' _ _ h g
    simp only [vS, vI, bldB, bufB, List.cons.injEq, V.d.injEq, D.int.injEq, D.str.injEq, Blk.map.injEq, Prod.mk.injEq, Int.natCast_inj, UInt8.toNat_inj, true_and, and_true] at h g
    simp only [g]
theorem e22_of {L E} (h : HasE E y22) : E22 (cx GT L E) := fun b c h1 => h (b, c) h1
theorem e24_of {L E} (h : HasE E y24) : E24 (cx GT L E) := fun b s h1 h2 => h (b, s) ⟨h1, h2⟩
theorem e23_of {L E} (h : HasE E y23) : E23 (cx GT L E) := fun b => h b trivial
theorem e26_of {L E} (h : HasE E y26) : E26 (cx GT L E) := fun b => h b trivial
theorem k85_of {L E} (h : Has L z85) : K85 (cx GT L E) := fun c => h c trivial
theorem k38_of {L E} (h : Has L z38) : K38 (cx GT L E) := fun n h1 h2 => h n ⟨h1, h2⟩
theorem k27_of {L E} (h : Has L z27) : K27 (cx GT L E) := fun s i h1 => h (s, i) h1
theorem k30_of {L E} (h : Has L z30) : K30 (cx GT L E) := fun s i k h1 h2 h3 => h (s, i, k) ⟨h1, h2, h3⟩
theorem k48_of {L E} (h : Has L z48) : K48 (cx GT L E) := fun s i h1 => h (s, i) h1
theorem k42_of {L E} (h : Has L z42) : K42 (cx GT L E) := fun s i h1 h2 => h (s, i) ⟨h1, h2⟩
theorem k40_of {L E} (h : Has L z40) : K40 (cx GT L E) := fun p s h1 h2 => h (p, s) ⟨h1, h2⟩
theorem k28_of {L E} (h : Has L z28) : K28 (cx GT L E) := fun p s h1 h2 => h (p, s) ⟨h1, h2⟩
theorem k43_of {L E} (h : Has L z43) : K43 (cx GT L E) := fun s => h s trivial
theorem k46_of {L E} (h : Has L z46) : K46 (cx GT L E) := fun s => h s trivial
theorem k61_of {L E} (h : Has L z61) : K61 (cx GT L E) := fun s c h1 => h (s, c) h1
theorem k62_of {L E} (h : Has L z62) : K62 (cx GT L E) := fun s c h1 => h (s, c) h1
theorem k41_of {L E} (h : Has L z41) : K41 (cx GT L E) := fun s h1 h2 => h s ⟨h1, h2⟩
theorem k31_of {L E} (h : Has L z31) : K31 (cx GT L E) := fun s h1 => h s h1
theorem k29_of {L E} (h : Has L z29) : K29 (cx GT L E) := fun s i h1 h2 => h (s, i) ⟨h1, h2⟩
theorem k68_of {L E} (h : Has L z68) : K68 (cx GT L E) := fun s i h1 => h (s, i) h1
theorem k69_of {L E} (h : Has L z69) : K69 (cx GT L E) := fun s i h1 => h (s, i) h1
theorem k44_of {L E} (h : Has L z44) : K44 (cx GT L E) := fun s i h1 h2 => h (s, i) ⟨h1, h2⟩
theorem k70_of {L E} (h : Has L z70) : K70 (cx GT L E) := fun s i q h1 h2 => h (s, i, q) ⟨h1, h2⟩
theorem k45_of {L E} (h : Has L z45) : K45 (cx GT L E) := fun s i h1 h2 => h (s, i) ⟨h1, h2⟩
theorem k47_of {L E} (h : Has L z47) : K47 (cx GT L E) := fun s i h1 h2 h3 => h (s, i) ⟨h1, h2, h3⟩
theorem k32_of {L E} (h : Has L z32) : K32 (cx GT L E) := fun s i h1 h2 => h (s, i) ⟨h1, h2⟩
theorem k13_of {L E} (h : Has L z13) : K13 (cx GT L E) := fun s h1 => h s h1
theorem k39_of {L E} (h : Has L z39) : K39 (cx GT L E) := fun s q h1 h2 => h (s, q) ⟨h1, h2⟩
theorem k25_of {L E} (h : Has L z25) : K25 (cx GT L E) := fun t h1 => h t h1
theorem k21_of {L E} (h : Has L z21) : K21 (cx GT L E) := fun t h1 => h t h1
theorem k11_of {L E} (h : Has L z11) : K11 (cx GT L E) := fun l h1 => h l h1
theorem k12_of {L E} (h : Has L z12) : K12 (cx GT L E) := fun a b h1 h2 => h (a, b) ⟨h1, h2⟩
theorem k14_of {L E} (h : Has L z14) : K14 (cx GT L E) := fun a b h1 h2 => h (a, b) ⟨h1, h2⟩
theorem k15_of {L E} (h : Has L z15) : K15 (cx GT L E) := fun c h1 => h c h1
theorem k16_of {L E} (h : Has L z16) : K16 (cx GT L E) := fun l j h1 h2 h3 => h (l, j) ⟨h1, h2, h3⟩
theorem k9_of {L E} (h : Has L z9) : K9 (cx GT L E) := h () trivial
theorem mixedD : Tryd.prog.follows .mixedOrders = true := by kernel_rfl
noncomputable def EE : List Se := [y22, y23, y24, y26]
theorem he22 : HasE EE y22 := hasE_head _ _
theorem he23 : HasE EE y23 := hasE_tail (hasE_head _ _) (by decide)
theorem he24 : HasE EE y24 := hasE_tail (hasE_tail (hasE_head _ _) (by decide)) (by decide)
theorem he26 : HasE EE y26 := hasE_tail (hasE_tail (hasE_tail (hasE_head _ _) (by decide)) (by decide)) (by decide)
theorem y22h : y22.Holds Tryd.prog GT := fun ⟨b, c⟩ h => ⟨by kernel_rfl, eff_WriteByte tB_wb b c (by have h : b.length ≤ 100000000 := h; omega)⟩
theorem y24h : y24.Holds Tryd.prog GT := fun ⟨b, s⟩ h => ⟨by kernel_rfl, eff_WriteString tB_ws b s (by have h : b.length ≤ 100000000 ∧ s.length ≤ 100000000 := h; omega)⟩
theorem y23h : y23.Holds Tryd.prog GT := fun b _ => ⟨by kernel_rfl, eff_Len Tryd.lays170 b⟩
theorem y26h : y26.Holds Tryd.prog GT := fun b _ => ⟨by kernel_rfl, eff_String Tryd.lays169 Tryd.Builder_Extra_169 b⟩
noncomputable def N0 : List Sp := []
theorem zn0 : Known Tryd.prog GT N0 EE := (((Known.nil.putE y26h).putE y24h).putE y23h).putE y22h
noncomputable def N1 : List Sp := z85 :: N0
theorem zn1 : Known Tryd.prog GT N1 EE := by
  exact zn0.put (fun c _ => ⟨by kernel_rfl, pure_index c⟩)
noncomputable def N2 : List Sp := z38 :: N1
theorem zn2 : Known Tryd.prog GT N2 EE := by
  exact zn1.put (fun n ⟨h1, h2⟩ => ⟨by kernel_rfl, pure_itoa n h1 h2⟩)
noncomputable def N3 : List Sp := z27 :: N2
theorem zn3 : Known Tryd.prog GT N3 EE := by
  exact zn2.add mixedD (fun ⟨s, i⟩ _ => f27_ok) (fun ⟨s, i⟩ h1 => ⟨_, ev_class (cx GT N2 EE) (show (cx GT N2 EE).glob 0 = _ from rfl) s i h1⟩)
noncomputable def N4 : List Sp := z30 :: N3
theorem zn4 : Known Tryd.prog GT N4 EE := by
  have k27 := k27_of (E := EE) (show Has N3 z27 by repeat (first | exact has_head _ _ | refine has_tail ?_ (by decide)))
  exact zn3.add mixedD (fun ⟨s, i, k⟩ _ => f30_ok) (fun ⟨s, i, k⟩ ⟨h1, h2, h3⟩ => ⟨_, ev_run _ k27 s i k h1 h2 h3⟩)
noncomputable def N5 : List Sp := z48 :: N4
theorem zn5 : Known Tryd.prog GT N5 EE := by
  have k27 := k27_of (E := EE) (show Has N4 z27 by repeat (first | exact has_head _ _ | refine has_tail ?_ (by decide)))
  exact zn4.add mixedD (fun ⟨s, i⟩ _ => f48_ok) (fun ⟨s, i⟩ h1 => ⟨_, ev_inName _ k27 s i h1⟩)
noncomputable def N6 : List Sp := z42 :: N5
theorem zn6 : Known Tryd.prog GT N6 EE := by
  have k48 := k48_of (E := EE) (show Has N5 z48 by repeat (first | exact has_head _ _ | refine has_tail ?_ (by decide)))
  exact zn5.add mixedD (fun ⟨s, i⟩ _ => f42_ok) (fun ⟨s, i⟩ ⟨h1, h2⟩ => ⟨_, ev_name _ k48 s i h1 h2⟩)
noncomputable def N7 : List Sp := z40 :: N6
theorem zn7 : Known Tryd.prog GT N7 EE := by
  exact zn6.add mixedD (fun ⟨p, s⟩ _ => f40_ok) (fun ⟨p, s⟩ ⟨h1, h2⟩ => ⟨_, ev_pre _ p s h1 h2⟩)
noncomputable def N8 : List Sp := z28 :: N7
theorem zn8 : Known Tryd.prog GT N8 EE := by
  have k40 := k40_of (E := EE) (show Has N7 z40 by repeat (first | exact has_head _ _ | refine has_tail ?_ (by decide)))
  exact zn7.add mixedD (fun ⟨p, s⟩ _ => f28_ok) (fun ⟨p, s⟩ ⟨h1, h2⟩ => ⟨_, ev_hasPrefix _ k40 p s h1 h2⟩)
noncomputable def N9 : List Sp := z43 :: N8
theorem zn9 : Known Tryd.prog GT N9 EE := by
  exact zn8.add mixedD (fun s _ => f43_ok) (fun s _ => ⟨_, ev_reserved _ s⟩)
noncomputable def N10 : List Sp := z46 :: N9
theorem zn10 : Known Tryd.prog GT N10 EE := by
  exact zn9.add mixedD (fun s _ => f46_ok) (fun s _ => ⟨_, ev_isSign _ s⟩)
noncomputable def N11 : List Sp := z61 :: N10
theorem zn11 : Known Tryd.prog GT N11 EE := by
  exact zn10.add mixedD (fun ⟨s, c⟩ _ => f61_ok) (fun ⟨s, c⟩ h1 => ⟨_, ev_trimLeft _ s c h1⟩)
noncomputable def N12 : List Sp := z62 :: N11
theorem zn12 : Known Tryd.prog GT N12 EE := by
  exact zn11.add mixedD (fun ⟨s, c⟩ _ => f62_ok) (fun ⟨s, c⟩ h1 => ⟨_, ev_trimRight _ s c h1⟩)
noncomputable def N13 : List Sp := z41 :: N12
theorem zn13 : Known Tryd.prog GT N13 EE := by
  have k61 := k61_of (E := EE) (show Has N12 z61 by repeat (first | exact has_head _ _ | refine has_tail ?_ (by decide)))
  have k62 := k62_of (E := EE) (show Has N12 z62 by repeat (first | exact has_head _ _ | refine has_tail ?_ (by decide)))
  exact zn12.add mixedD (fun s _ => f41_ok) (fun s ⟨h1, h2⟩ => ⟨_, ev_trim _ k61 k62 s h1 h2⟩)
noncomputable def N14 : List Sp := z31 :: N13
theorem zn14 : Known Tryd.prog GT N14 EE := by
  have k41 := k41_of (E := EE) (show Has N13 z41 by repeat (first | exact has_head _ _ | refine has_tail ?_ (by decide)))
  exact zn13.add mixedD (fun s _ => f31_ok) (fun s h1 => ⟨_, ev_dashes _ k41 s h1⟩)
noncomputable def N15 : List Sp := z29 :: N14
theorem zn15 : Known Tryd.prog GT N15 EE := by
  exact zn14.add mixedD (fun ⟨s, i⟩ _ => f29_ok) (fun ⟨s, i⟩ ⟨h1, h2⟩ => ⟨_, ev_comment _ s i h1 h2⟩)
noncomputable def N16 : List Sp := z68 :: N15
theorem zn16 : Known Tryd.prog GT N16 EE := by
  exact zn15.add mixedD (fun ⟨s, i⟩ _ => f68_ok) (fun ⟨s, i⟩ h1 => ⟨_, ev_byteAt _ s i h1⟩)
noncomputable def N17 : List Sp := z69 :: N16
theorem zn17 : Known Tryd.prog GT N17 EE := by
  have k68 := k68_of (E := EE) (show Has N16 z68 by repeat (first | exact has_head _ _ | refine has_tail ?_ (by decide)))
  have k85 := k85_of (E := EE) (show Has N16 z85 by repeat (first | exact has_head _ _ | refine has_tail ?_ (by decide)))
  exact zn16.add mixedD (fun ⟨s, i⟩ _ => f69_ok) (fun ⟨s, i⟩ h1 => ⟨_, ev_hex _ k68 k85 s i h1⟩)
noncomputable def N18 : List Sp := z44 :: N17
theorem zn18 : Known Tryd.prog GT N18 EE := by
  have k42 := k42_of (E := EE) (show Has N17 z42 by repeat (first | exact has_head _ _ | refine has_tail ?_ (by decide)))
  have k27 := k27_of (E := EE) (show Has N17 z27 by repeat (first | exact has_head _ _ | refine has_tail ?_ (by decide)))
  have k43 := k43_of (E := EE) (show Has N17 z43 by repeat (first | exact has_head _ _ | refine has_tail ?_ (by decide)))
  exact zn17.add mixedD (fun ⟨s, i⟩ _ => f44_ok) (fun ⟨s, i⟩ ⟨h1, h2⟩ => ⟨_, ev_upper _ k42 k27 k43 s i h1 h2⟩)
noncomputable def N19 : List Sp := z70 :: N18
theorem zn19 : Known Tryd.prog GT N19 EE := by
  have k68 := k68_of (E := EE) (show Has N18 z68 by repeat (first | exact has_head _ _ | refine has_tail ?_ (by decide)))
  have k27 := k27_of (E := EE) (show Has N18 z27 by repeat (first | exact has_head _ _ | refine has_tail ?_ (by decide)))
  exact zn18.add mixedD (fun ⟨s, i, q⟩ _ => f70_ok) (fun ⟨s, i, q⟩ ⟨h1, h2⟩ => ⟨_, ev_sound _ k68 k27 s i q h1 h2⟩)
noncomputable def N20 : List Sp := z45 :: N19
theorem zn20 : Known Tryd.prog GT N20 EE := by
  have k68 := k68_of (E := EE) (show Has N19 z68 by repeat (first | exact has_head _ _ | refine has_tail ?_ (by decide)))
  have k69 := k69_of (E := EE) (show Has N19 z69 by repeat (first | exact has_head _ _ | refine has_tail ?_ (by decide)))
  have k48 := k48_of (E := EE) (show Has N19 z48 by repeat (first | exact has_head _ _ | refine has_tail ?_ (by decide)))
  exact zn19.add mixedD (fun ⟨s, i⟩ _ => f45_ok) (fun ⟨s, i⟩ ⟨h1, h2⟩ => ⟨_, ev_number _ k68 k69 k48 s i h1 h2⟩)
noncomputable def N21 : List Sp := z47 :: N20
theorem zn21 : Known Tryd.prog GT N21 EE := by
  have k68 := k68_of (E := EE) (show Has N20 z68 by repeat (first | exact has_head _ _ | refine has_tail ?_ (by decide)))
  have k70 := k70_of (E := EE) (show Has N20 z70 by repeat (first | exact has_head _ _ | refine has_tail ?_ (by decide)))
  exact zn20.add mixedD (fun ⟨s, i⟩ _ => f47_ok) (fun ⟨s, i⟩ ⟨h1, h2, h3⟩ => ⟨_, ev_quoted _ k68 k70 s i h1 h2 h3⟩)
noncomputable def N22 : List Sp := z32 :: N21
theorem zn22 : Known Tryd.prog GT N22 EE := by
  have k27 := k27_of (E := EE) (show Has N21 z27 by repeat (first | exact has_head _ _ | refine has_tail ?_ (by decide)))
  have k42 := k42_of (E := EE) (show Has N21 z42 by repeat (first | exact has_head _ _ | refine has_tail ?_ (by decide)))
  have k43 := k43_of (E := EE) (show Has N21 z43 by repeat (first | exact has_head _ _ | refine has_tail ?_ (by decide)))
  have k44 := k44_of (E := EE) (show Has N21 z44 by repeat (first | exact has_head _ _ | refine has_tail ?_ (by decide)))
  have k45 := k45_of (E := EE) (show Has N21 z45 by repeat (first | exact has_head _ _ | refine has_tail ?_ (by decide)))
  have k30 := k30_of (E := EE) (show Has N21 z30 by repeat (first | exact has_head _ _ | refine has_tail ?_ (by decide)))
  have k46 := k46_of (E := EE) (show Has N21 z46 by repeat (first | exact has_head _ _ | refine has_tail ?_ (by decide)))
  have k47 := k47_of (E := EE) (show Has N21 z47 by repeat (first | exact has_head _ _ | refine has_tail ?_ (by decide)))
  have k48 := k48_of (E := EE) (show Has N21 z48 by repeat (first | exact has_head _ _ | refine has_tail ?_ (by decide)))
  exact zn21.add mixedD (fun ⟨s, i⟩ _ => f32_ok) (fun ⟨s, i⟩ ⟨h1, h2⟩ => ⟨_, ev_token _ k27 k42 k43 k44 k45 k30 k46 k47 k48 s i h1 h2⟩)
noncomputable def N23 : List Sp := z13 :: N22
theorem zn23 : Known Tryd.prog GT N23 EE := by
  have k27 := k27_of (E := EE) (show Has N22 z27 by repeat (first | exact has_head _ _ | refine has_tail ?_ (by decide)))
  have k28 := k28_of (E := EE) (show Has N22 z28 by repeat (first | exact has_head _ _ | refine has_tail ?_ (by decide)))
  have k29 := k29_of (E := EE) (show Has N22 z29 by repeat (first | exact has_head _ _ | refine has_tail ?_ (by decide)))
  have k30 := k30_of (E := EE) (show Has N22 z30 by repeat (first | exact has_head _ _ | refine has_tail ?_ (by decide)))
  have k31 := k31_of (E := EE) (show Has N22 z31 by repeat (first | exact has_head _ _ | refine has_tail ?_ (by decide)))
  have k32 := k32_of (E := EE) (show Has N22 z32 by repeat (first | exact has_head _ _ | refine has_tail ?_ (by decide)))
  exact zn22.addEase mixedD (fun s _ => f13_ok) (fun s h1 => ⟨_, _, ev_Lex _ k27 k28 k29 k30 k31 k32 s h1, lexV_ease s⟩)
noncomputable def N24 : List Sp := z39 :: N23
theorem zn24 : Known Tryd.prog GT N24 EE := by
  have k38 := k38_of (E := EE) (show Has N23 z38 by repeat (first | exact has_head _ _ | refine has_tail ?_ (by decide)))
  have e22 := e22_of (L := N23) he22
  have e24 := e24_of (L := N23) he24
  have e26 := e26_of (L := N23) he26
  exact zn23.add mixedD (fun ⟨s, q⟩ _ => f39_ok) (fun ⟨s, q⟩ ⟨h1, h2⟩ => ⟨_, ev_escaped _ e22 e24 e26 k38 s h1 q h2⟩)
noncomputable def N25 : List Sp := z25 :: N24
theorem zn25 : Known Tryd.prog GT N25 EE := by
  have k38 := k38_of (E := EE) (show Has N24 z38 by repeat (first | exact has_head _ _ | refine has_tail ?_ (by decide)))
  have k39 := k39_of (E := EE) (show Has N24 z39 by repeat (first | exact has_head _ _ | refine has_tail ?_ (by decide)))
  exact zn24.add mixedD (fun t _ => f25_ok) (fun t h1 => ⟨_, ev_written _ k38 k39 t h1⟩)
noncomputable def N26 : List Sp := z21 :: N25
theorem zn26 : Known Tryd.prog GT N26 EE := by
  have k27 := k27_of (E := EE) (show Has N25 z27 by repeat (first | exact has_head _ _ | refine has_tail ?_ (by decide)))
  have k31 := k31_of (E := EE) (show Has N25 z31 by repeat (first | exact has_head _ _ | refine has_tail ?_ (by decide)))
  have k32 := k32_of (E := EE) (show Has N25 z32 by repeat (first | exact has_head _ _ | refine has_tail ?_ (by decide)))
  exact zn25.add mixedD (fun t _ => f21_ok) (fun t h1 => ⟨_, ev_isToken _ k27 k31 k32 t h1⟩)
noncomputable def N27 : List Sp := z11 :: N26
theorem zn27 : Known Tryd.prog GT N27 EE := by
  have k21 := k21_of (E := EE) (show Has N26 z21 by repeat (first | exact has_head _ _ | refine has_tail ?_ (by decide)))
  have k25 := k25_of (E := EE) (show Has N26 z25 by repeat (first | exact has_head _ _ | refine has_tail ?_ (by decide)))
  have e22 := e22_of (L := N26) he22
  have e23 := e23_of (L := N26) he23
  have e24 := e24_of (L := N26) he24
  have e26 := e26_of (L := N26) he26
  exact zn26.add mixedD (fun l _ => f11_ok) (fun l h1 => ⟨_, ev_Print _ k21 e22 e23 e24 k25 e26 l h1⟩)
noncomputable def N28 : List Sp := z12 :: N27
theorem zn28 : Known Tryd.prog GT N28 EE := by
  exact zn27.add mixedD (fun ⟨a, b⟩ _ => f12_ok) (fun ⟨a, b⟩ ⟨h1, h2⟩ => ⟨_, ev_same _ a b h1 h2⟩)
noncomputable def N29 : List Sp := z14 :: N28
theorem zn29 : Known Tryd.prog GT N29 EE := by
  exact zn28.add mixedD (fun ⟨a, b⟩ _ => f14_ok) (fun ⟨a, b⟩ ⟨h1, h2⟩ => ⟨_, ev_alike _ a b h1 h2⟩)
noncomputable def N30 : List Sp := z15 :: N29
theorem zn30 : Known Tryd.prog GT N30 EE := by
  exact zn29.add mixedD (fun c _ => f15_ok) (fun c h1 => ⟨_, ev_plain _ c h1⟩)
noncomputable def N31 : List Sp := z16 :: N30
theorem zn31 : Known Tryd.prog GT N31 EE := by
  exact zn30.add mixedD (fun ⟨l, j⟩ _ => f16_ok) (fun ⟨l, j⟩ ⟨h1, h2, h3⟩ => ⟨_, ev_moved _ l j h1 h2 h3⟩)
noncomputable def N32 : List Sp := z9 :: N31
theorem zn32 : Known Tryd.prog GT N32 EE := by
  have k13 := k13_of (E := EE) (show Has N31 z13 by repeat (first | exact has_head _ _ | refine has_tail ?_ (by decide)))
  have k12 := k12_of (E := EE) (show Has N31 z12 by repeat (first | exact has_head _ _ | refine has_tail ?_ (by decide)))
  have k11 := k11_of (E := EE) (show Has N31 z11 by repeat (first | exact has_head _ _ | refine has_tail ?_ (by decide)))
  exact zn31.add mixedD (fun u _ => f9_ok) (fun u _ => ⟨_, ev_awake _ k13 k12 k11⟩)

theorem law_skips (a c : BS) (deep : Int) (b : BS) (ha : a.length ≤ 1100000) (hc : c.length ≤ 1100000) (hb : b.length ≤ 1100000) (hd : -9223372036854775808 ≤ deep ∧ deep ≤ 9223372036854775807) :
    PureCall Tryd.prog GT 6 [vS a, vS c, vI deep, vS b] (.d false (.bool true)) [] := by
  have k9 := k9_of (E := EE) (show Has N32 z9 by repeat (first | exact has_head _ _ | refine has_tail ?_ (by decide)))
  have k15 := k15_of (E := EE) (show Has N32 z15 by repeat (first | exact has_head _ _ | refine has_tail ?_ (by decide)))
  have k13 := k13_of (E := EE) (show Has N32 z13 by repeat (first | exact has_head _ _ | refine has_tail ?_ (by decide)))
  have k16 := k16_of (E := EE) (show Has N32 z16 by repeat (first | exact has_head _ _ | refine has_tail ?_ (by decide)))
  have k12 := k12_of (E := EE) (show Has N32 z12 by repeat (first | exact has_head _ _ | refine has_tail ?_ (by decide)))
  exact (pure_sound (args := [vS a, vS c, vI deep, vS b]) mixedD zn32.sound f6_ok (ev_LexSkips _ k9 k15 k13 k16 k12 a c deep b ha hc hb hd)).2
end Go.Vm
end

section
namespace Go.Vm
open Go.ChangeShapes Go.WideShapes Go.ChangeAt Go.RowKit Go.Proofs Go.Proofs.YtmmbgofnllcaeaaDoor
set_option linter.unusedVariables false

theorem ownD : ownKnob Tryd.prog.godebug = none := by kernel_rfl
theorem laidOutD : laidOutB Tryd.prog = true := by kernel_rfl
theorem gCls : Tryd.prog.globalNamed "sloth/lex.classes" = some 0 := by kernel_rfl
theorem gClsT : (Tryd.prog.globals[0]?).map (·.type) = some 71 := by kernel_rfl
theorem gP10T : (Tryd.prog.globals[2]?).map (·.type) = some 130 := by kernel_rfl

def laidL : List (String × DataW Unit) := [("math/bits.deBruijn32tab", Rows.laid_math_bits_deBruijn32tab), ("math/bits.deBruijn64tab", Rows.laid_math_bits_deBruijn64tab), ("internal/strconv.uint64pow10", Rows.laid_internal_strconv_uint64pow10), ("unicode/utf8.acceptRanges", Rows.laid_unicode_utf8_acceptRanges), ("sloth/lex.classes", Rows.laid_sloth_lex_classes), ("unicode/utf8.first", Rows.laid_unicode_utf8_first)]

def Reads (P : Program) (w : World) (n : String) (d : DataW Unit) : Prop :=
  ∃ g t cs fuel p, P.globalNamed n = some g ∧ (P.globals[g]?).map (·.type) = some t ∧ w.var? P n = some cs ∧ DataW.trod (fun _ => ()) P w 0 (fun _ => true) false fuel t cs.toList = some (d, p)
theorem reads_of {P : Program} {w : World} : ∀ {l : List (String × DataW Unit)} {ps : List MemPlace}, DataW.LaidVars P w l ps → ∀ n d, (n, d) ∈ l → Reads P w n d
  | [], _, _, _, _, hm => by cases hm
  | (n', d') :: r, ps, h, n, d, hm => by
    obtain ⟨g, t, cs, fuel, p, q, h1, h2, h3, h4, h5, _⟩ := h
    rcases List.mem_cons.1 hm with e | e
    · cases e
      exact ⟨g, t, cs, fuel, p, h1, h2, h3, h4⟩
    · exact reads_of h5 n d e
theorem tab_of_reads {P : Program} {W : World} {name : String} {k : IntKind} {zs : List Int} {g : Nat} {t e : TypeId} {n : Nat}
    (hg : P.globalNamed name = some g) (hty : (P.globals[g]?).map (·.type) = some t) (ht : P.underlying t = some (.array n e)) (he : P.underlying e = some (.int k)) (hce : P.cellsOf e = 1) (hct : P.cellsOf t = n)
    (h : Reads P W name (Lib.tabData k zs)) : Lib.TabIs P W name k zs := by
  obtain ⟨g', t', cs, fuel, p, hg', ht', hvar, hd⟩ := h
  obtain rfl := Option.some.inj (hg.symm.trans hg')
  obtain rfl := Option.some.inj (hty.symm.trans ht')
  unfold Lib.TabIs
  rw [hvar, ← Lib.cells_of_tab ht he hce hct hd]

theorem clsData : (Rows.laid_sloth_lex_classes : DataW Unit) = Lib.tabData .u8 (clTab.map fun n => ((n : Nat) : Int)) := by kernel_rfl
theorem p10Data : (Rows.laid_internal_strconv_uint64pow10 : DataW Unit) = Lib.tabData .u64 Lib.pow10Tab := by kernel_rfl

theorem glob_of_tab {W : World} {name : String} {k : IntKind} {zs : List Int} {g : Nat} (h : Lib.TabIs Tryd.prog W name k zs) (hg : Tryd.prog.globalNamed name = some g) :
    RepD W (There W) (.pointer (some ⟨g, 0, none⟩)) (.ptr (zs.map fun z => .int k z)) ∧ ∃ cs t fz, W.heap[g]? = some (.cells cs t fz) ∧ cs.size = (zs.map fun z => D.int k z).length := by
  have hb : ∃ cs t fz, W.heap[g]? = some (.cells cs t fz) ∧ cs.size = (zs.map fun z => D.int k z).length := by
    unfold Lib.TabIs World.var? at h
    rw [hg] at h
    replace h : (match W.heap[g]? with | some (.cells cs _ _) => some cs | _ => none) = some (zs.map fun z => Value.int k z).toArray := h
    split at h
    · rename_i cs t fz hh
      obtain rfl := Option.some.inj h
      exact ⟨_, t, fz, hh, by simp⟩
    · cases h
  refine ⟨?_, hb⟩
  obtain ⟨cs, t, fz, hh, hsz⟩ := hb
  refine .ptr g 0 _ (fun j => .int k (zs.getD j 0)) ?_ (fun j d hd => ?_) (fun j d hd => ?_)
  · show g < W.heap.size
    rcases Nat.lt_or_ge g W.heap.size with h' | h'
    · exact h'
    · simp [Array.getElem?_eq_none h'] at hh
  · have hj : j < zs.length := by
      rcases Nat.lt_or_ge j zs.length with h' | h'
      · exact h'
      · rw [List.getElem?_eq_none (by simpa using h')] at hd; cases hd
    rw [Nat.zero_add]
    exact h.cell hg j hj
  · rw [List.getElem?_map, Option.map_eq_some_iff] at hd
    obtain ⟨z, hz, rfl⟩ := hd
    have : zs.getD j 0 = z := by rw [List.getD_eq_getElem?_getD, hz]; rfl
    rw [this]
    exact .int k z

theorem glob_of_laid {W : World} (h : laidMetH Tryd.prog laidL W) : GlobRel W (There W) GT := by
  obtain ⟨ps, hv, _⟩ : laidMet Tryd.prog laidL W := h
  have h0 := reads_of hv "sloth/lex.classes" Rows.laid_sloth_lex_classes (by simp [laidL])
  have h2 := reads_of hv "internal/strconv.uint64pow10" Rows.laid_internal_strconv_uint64pow10 (by simp [laidL])
  rw [clsData] at h0
  rw [p10Data] at h2
  have t0 := tab_of_reads gCls gClsT Tryd.underlying71 Tryd.underlying5 (by kernel_rfl) (by kernel_rfl) h0
  have t2 := tab_of_reads gP10 gP10T Tryd.underlying130 Tryd.underlying122 (by kernel_rfl) (by kernel_rfl) h2
  intro g cells hg
  match g, hg with
  | 0, hg =>
    obtain rfl := Option.some.inj hg
    have := glob_of_tab t0 gCls
    rw [List.map_map] at this
    exact this
  | 2, hg =>
    obtain rfl := Option.some.inj hg
    exact glob_of_tab t2 gP10
  | 1, hg => cases hg
  | n + 3, hg => cases hg

def flatN : Nat → DataW Unit → List Value
  | _, .lit (.int k n) => [.int k n]
  | n + 1, .agg ps => ps.flatMap (flatN n)
  | _, _ => []
def lay (g : Nat) (d : DataW Unit) (h : Array Obj) : Array Obj := h.modify g fun
  | .cells _ t frozen => .cells (flatN 3 d).toArray t frozen
  | o => o
noncomputable def laidWorld (os : Os) : World :=
  { World.holding Tryd.prog os ⟨#[], #[], []⟩ with heap := lay 7 Rows.laid_math_bits_deBruijn64tab (lay 6 Rows.laid_math_bits_deBruijn32tab (lay 4 Rows.laid_unicode_utf8_acceptRanges (lay 3 Rows.laid_unicode_utf8_first (lay 2 Rows.laid_internal_strconv_uint64pow10 (lay 0 Rows.laid_sloth_lex_classes (World.holding Tryd.prog os ⟨#[], #[], []⟩).heap))))) }
set_option maxRecDepth 100000 in
theorem laid_met (os : Os) (args : Array Value) : laidMet Tryd.prog laidL ((laidWorld os).forCall (fun _ _ => 0) ⟨#[], args, []⟩).memory :=
  (LaidIn.of_run [0, 2, 3, 4, 6, 7] 8 (by kernel_rfl) (by kernel_rfl) (by kernel_rfl) (by kernel_rfl)).met
end Go.Vm
end

section
namespace Go.Vm

def Sep (z : BS) : Prop := z = [] ∨ ∃ r, z = 32 :: r
theorem sep_nm {z : BS} (h : Sep z) : inNm z = false := by
  rcases h with rfl | ⟨r, rfl⟩
  · rfl
  · exact inNm_blank (by decide) r
theorem sep_num (b : Int) {z : BS} (h : Sep z) (g : Bool) (n : Int) : numL b z g n = (g, n, 0) := by
  rcases h with rfl | ⟨r, rfl⟩
  · rfl
  · have h32 : hexB 32 = -1 := by decide
    simp only [numL]
    rw [if_neg (by rw [h32]; omega)]
theorem tok_sep {r z : BS} (hz : Sep z) (h0 : r ≠ []) {k : Nat} {t : BS} {m : Int} {n : Nat} (h : tokS r = .tok k t m n) : tokS (r ++ z) = .tok k t m n := by
  rcases hz with rfl | ⟨x, rfl⟩
  · rw [List.append_nil]; exact h
  · exact tokS_app (by decide) x h0 h
theorem run_sep (k : Nat) (hk : k ≠ 7) {r z : BS} (hz : Sep z) : runL k (r ++ z) = runL k r := by
  rcases hz with rfl | ⟨x, rfl⟩
  · rw [List.append_nil]
  · exact runL_app k (by decide) hk x r

theorem numL_app2 (b : Int) (z : BS) : ∀ (ds : BS) (g g' : Bool) (a v : Int), numL b ds g a = (g', v, ds.length) → numL b (ds ++ z) g a = ((numL b z g' v).1, (numL b z g' v).2.1, ds.length + (numL b z g' v).2.2)
  | [], g, g', a, v, h => by
    simp only [numL, List.length_nil, Prod.mk.injEq] at h
    obtain ⟨rfl, rfl, _⟩ := h
    simp
  | c :: ds, g, g', a, v, h => by
    simp only [numL, List.length_cons] at h
    simp only [List.cons_append, numL, List.length_cons]
    by_cases h1 : 0 ≤ hexB c ∧ hexB c < b
    · rw [if_pos h1] at h ⊢
      by_cases h2 : (4611686018427387903 - hexB c) / b < a
      · rw [if_pos h2] at h ⊢
        simp only [Prod.mk.injEq] at h
        rw [numL_app2 b z ds true g' (hexB c) v (by rw [← h.1, ← h.2.1, ← Nat.succ.inj h.2.2])]
        simp only [Prod.mk.injEq, true_and]
        omega
      · rw [if_neg h2] at h ⊢
        simp only [Prod.mk.injEq] at h
        rw [numL_app2 b z ds g g' (a * b + hexB c) v (by rw [← h.1, ← h.2.1, ← Nat.succ.inj h.2.2])]
        simp only [Prod.mk.injEq, true_and]
        omega
    · rw [if_neg h1] at h
      simp only [Prod.mk.injEq] at h
      omega

theorem dig_hex : ∀ d, d < 10 → hexB (UInt8.ofNat (48 + d)) = d := by decide
theorem dig_byte : ∀ d, d < 10 → 48 ≤ (UInt8.ofNat (48 + d)).toNat ∧ (UInt8.ofNat (48 + d)).toNat ≤ 57 := by decide
theorem dec_small {u : Nat} (h : u < 10) : Lib.decDigits u = [UInt8.ofNat (48 + u)] := by rw [Lib.decDigits, dif_pos h]
theorem dec_big {u : Nat} (h : ¬ u < 10) : Lib.decDigits u = Lib.decDigits (u / 10) ++ [UInt8.ofNat (48 + u % 10)] := by rw [Lib.decDigits, dif_neg h]
theorem dec_num : ∀ u : Nat, u ≤ 4611686018427387903 → numL 10 (Lib.decDigits u) false 0 = (false, (u : Int), (Lib.decDigits u).length) := by
  intro u
  induction u using Nat.strongRecOn with
  | ind u ih =>
    intro hu
    by_cases h : u < 10
    · rw [dec_small h]
      simp only [numL, dig_hex u h, List.length_singleton]
      rw [if_pos (by omega), if_neg (by omega)]
      simp
    · rw [dec_big h]
      have h1 := ih (u / 10) (by omega) (by omega)
      rw [numL_app2 10 _ _ _ _ _ _ h1]
      simp only [numL, dig_hex (u % 10) (by omega), List.length_append, List.length_singleton]
      rw [if_pos (by omega), if_neg (by omega)]
      refine Prod.ext rfl (Prod.ext ?_ rfl)
      show ((u / 10 : Nat) : Int) * 10 + ((u % 10 : Nat) : Int) = (u : Int)
      omega
theorem dec_digit : ∀ u : Nat, ∀ c ∈ Lib.decDigits u, 48 ≤ c.toNat ∧ c.toNat ≤ 57 := by
  intro u
  induction u using Nat.strongRecOn with
  | ind u ih =>
    intro c hc
    by_cases h : u < 10
    · rw [dec_small h, List.mem_singleton] at hc
      subst hc
      exact dig_byte u h
    · rw [dec_big h, List.mem_append, List.mem_singleton] at hc
      rcases hc with hc | rfl
      · exact ih (u / 10) (by omega) c hc
      · exact dig_byte (u % 10) (by omega)
theorem dec_pos (u : Nat) : 1 ≤ (Lib.decDigits u).length := by
  by_cases h : u < 10
  · rw [dec_small h]; simp
  · rw [dec_big h]; simp
theorem dec_head : ∀ u : Nat, 1 ≤ u → bAt (Lib.decDigits u) ≠ 48 := by
  intro u
  induction u using Nat.strongRecOn with
  | ind u ih =>
    intro hu
    by_cases h : u < 10
    · rw [dec_small h]
      have : ∀ d, d < 10 → 1 ≤ d → UInt8.ofNat (48 + d) ≠ 48 := by decide
      exact this u h hu
    · rw [dec_big h]
      have h0 := dec_pos (u / 10)
      rw [bAt_app (by intro e; rw [e] at h0; simp at h0)]
      exact ih (u / 10) (by omega) (by omega)
theorem dec_long {u : Nat} (h : 1 < (Lib.decDigits u).length) : 1 ≤ u := by
  rcases Nat.eq_zero_or_pos u with rfl | h'
  · rw [dec_small (by omega)] at h; simp at h
  · exact h'
theorem digit_cls : ∀ c : UInt8, 48 ≤ c.toNat ∧ c.toNat ≤ 57 → clB c = 3 := u8all (by decide +kernel)
theorem digit_ne : ∀ c : UInt8, 48 ≤ c.toNat ∧ c.toNat ≤ 57 → c ≠ 120 ∧ c ≠ 123 ∧ c ≠ 34 ∧ c ≠ 39 := u8all (by decide +kernel)

theorem step_plain {r : BS} (h7 : cls r ≠ 7) (hp : pre [123, 45] r = false) (hd : dsh (r.take (runL 5 r)) = false) : stepS r = tokS r := by
  unfold stepS
  rw [if_neg h7, if_neg (by rw [hp]; simp), if_neg (by rw [hd]; simp)]
theorem dsh_nil {r : BS} (h : cls r ≠ 5) : dsh (r.take (runL 5 r)) = false := by
  have : runL 5 r = 0 := by
    cases r with
    | nil => rfl
    | cons c r =>
      simp only [runL]
      have h' : ¬ clB c = 5 := h
      rw [if_neg h']
  rw [this]
  rfl
theorem pre_no {r : BS} (h : bAt r ≠ 123) : pre [123, 45] r = false := by
  match r with
  | [] => rfl
  | [a] => rfl
  | a :: b :: r =>
    have : ¬ a = 123 := h
    simp [pre, this]

theorem step_num {u : Nat} (hu : u ≤ 4611686018427387903) {z : BS} (hz : Sep z) : stepS (Lib.decDigits u ++ z) = .tok 6 [] (u : Int) (Lib.decDigits u).length := by
  have hn := dec_num u hu
  have hd := dec_digit u
  have hl := dec_pos u
  have hh := dec_head u
  have hlo := @dec_long u
  generalize Lib.decDigits u = ds at hn hd hl hh hlo ⊢
  match ds, hl with
  | c :: ds, _ =>
    have hc := hd c (by simp)
    have c3 := digit_cls c hc
    have cn := digit_ne c hc
    have cls3 : cls (c :: ds ++ z) = 3 := c3
    rw [step_plain (by rw [cls3]; decide) (pre_no (show bAt (c :: ds ++ z) ≠ 123 from cn.2.1)) (dsh_nil (by rw [cls3]; decide))]
    have ht : tokS (c :: ds ++ z) = numS (c :: ds ++ z) := by
      unfold tokS
      rw [if_neg (by rw [cls3]; decide), if_neg (by rw [cls3]; decide), if_pos cls3]
    rw [ht]
    have hx : hexP (c :: ds ++ z) = false := by
      unfold hexP
      have : bAt ((c :: ds ++ z).drop 1) ≠ 120 := by
        cases ds with
        | nil =>
          rcases hz with rfl | ⟨r, rfl⟩
          · simp [bAt]
          · simp [bAt]
        | cons e ds => exact (digit_ne e (hd e (by simp))).1
      rw [decide_eq_false this, Bool.and_false, Bool.false_and]
    have hnum : numL 10 (c :: ds ++ z) false 0 = (false, (u : Int), (c :: ds).length) := by
      rw [numL_app2 10 z _ _ _ _ _ hn, sep_num 10 hz]
      simp
    unfold numS
    simp only [hx, Bool.false_eq_true, if_false, List.drop_zero, hnum, Nat.zero_add, false_or, true_and]
    have h1 : ¬ (bAt (c :: ds ++ z) = 48 ∧ 1 < (c :: ds).length) := by
      rintro ⟨h1, h2⟩
      exact hh (hlo h2) h1
    have h2 : inNm ((c :: ds ++ z).drop (c :: ds).length) = false := by
      rw [List.drop_left]; exact sep_nm hz
    rw [if_neg (by
      rintro (h | h)
      · exact h1 h
      · rw [h2] at h; cases h)]

theorem sound39 : ∀ c : UInt8, soundS (escB 39 c) 39 = some (c, (escB 39 c).length) ∧ bAt (escB 39 c) ≠ 39 := u8all (by decide +kernel)
theorem sound34 : ∀ c : UInt8, soundS (escB 34 c) 34 = some (c, (escB 34 c).length) ∧ bAt (escB 34 c) ≠ 34 := u8all (by decide +kernel)
theorem quot_esc {q : UInt8} (hq : q = 39 ∨ q = 34) (z : BS) : ∀ s : BS, quotL q (escL q s ++ q :: z) = some (s, (escL q s).length)
  | [] => by
    simp only [escL, List.nil_append]
    rw [quotL, if_pos rfl]
    rfl
  | c :: s => by
    have ih := quot_esc hq z s
    have hs : soundS (escB q c) q = some (c, (escB q c).length) ∧ bAt (escB q c) ≠ q := by
      rcases hq with rfl | rfl
      · exact sound39 c
      · exact sound34 c
    have hl := escB_len q c
    simp only [escL, List.append_assoc]
    generalize escB q c = e at hs hl ⊢
    match e, hl with
    | a :: e, _ =>
      obtain ⟨h1, h2⟩ := hs
      have h3 := soundS_app (e ++ (escL q s ++ q :: z)) (r := [] ++ (a :: e)) (q := q) (by simp) (by simpa using h1)
      have h4 := soundS_app (escL q s ++ q :: z) (by simp) h1
      rw [List.cons_append] at h4 ⊢
      have h2' : ¬ a = q := h2
      rw [quotL, if_neg h2', h4]
      simp only [List.length_cons, Nat.add_sub_cancel, List.drop_left, ih, Option.map_some, List.length_append]
theorem quotS_esc {q : UInt8} (hq : q = 39 ∨ q = 34) (s z : BS) : quotS (escS s q ++ z) = if q = 34 then .tok 8 s 0 (escS s q).length else if s.length = 1 then .tok 7 [] (bAt s).toNat (escS s q).length else .bad 12 := by
  have e1 : escS s q ++ z = q :: (escL q s ++ q :: z) := by simp [escS]
  have e2 : (escS s q).length = (escL q s).length + 2 := by simp [escS]
  rw [e1, e2]
  unfold quotS
  simp only [bAt, List.drop_succ_cons, List.drop_zero, quot_esc hq z s]
  rfl
theorem step_quot {q : UInt8} (hq : q = 39 ∨ q = 34) (s z : BS) : stepS (escS s q ++ z) = quotS (escS s q ++ z) := by
  have e1 : escS s q ++ z = q :: (escL q s ++ q :: z) := by simp [escS]
  rw [e1]
  rcases hq with rfl | rfl
  · have c4 : cls (39 :: (escL 39 s ++ 39 :: z)) = 4 := rfl
    rw [step_plain (by rw [c4]; decide) (pre_no (by simp [bAt])) (dsh_nil (by rw [c4]; decide))]
    unfold tokS
    rw [if_neg (by rw [c4]; decide), if_neg (by rw [c4]; decide), if_neg (by rw [c4]; decide), if_neg (by rw [c4]; decide), if_neg (by rw [c4]; decide), if_pos c4, if_pos (by rfl)]
  · have c4 : cls (34 :: (escL 34 s ++ 34 :: z)) = 0 := rfl
    rw [step_plain (by rw [c4]; decide) (pre_no (by simp [bAt])) (dsh_nil (by rw [c4]; decide))]
    unfold tokS
    rw [if_neg (by rw [c4]; decide), if_neg (by rw [c4]; decide), if_neg (by rw [c4]; decide), if_neg (by rw [c4]; decide), if_neg (by rw [c4]; decide), if_neg (by rw [c4]; decide), if_pos (by rfl)]

theorem tokS_text {r : BS} {k : Nat} {t : BS} {m : Int} {n : Nat} (h3 : cls r ≠ 3) (h0 : cls r ≠ 0) (h7 : cls r ≠ 7) (h39 : bAt r ≠ 39) (h : tokS r = .tok k t m n) : t = r.take n ∧ m = 0 := by
  unfold tokS at h
  by_cases c1 : cls r = 1
  · rw [if_pos c1] at h
    injection h with _ h1 h2 h4; subst h4; exact ⟨h1.symm, h2.symm⟩
  rw [if_neg c1] at h
  by_cases c2 : cls r = 2
  · rw [if_pos c2] at h
    injection h with _ h1 h2 h4; subst h4; exact ⟨h1.symm, h2.symm⟩
  rw [if_neg c2, if_neg h3] at h
  by_cases c5 : cls r = 5
  · rw [if_pos c5] at h
    unfold opS at h
    by_cases q1 : isSg (r.take (runL 5 r)) = true
    · rw [if_pos q1] at h
      injection h with _ h1 h2 h4; subst h4; exact ⟨h1.symm, h2.symm⟩
    · rw [if_neg q1] at h
      have h := ite_tok h
      injection h with _ h1 h2 h4; subst h4; exact ⟨h1.symm, h2.symm⟩
  rw [if_neg c5] at h
  by_cases c6 : cls r = 6
  · rw [if_pos c6] at h
    injection h with _ h1 h2 h4; subst h4; exact ⟨h1.symm, h2.symm⟩
  rw [if_neg c6] at h
  by_cases c4 : cls r = 4
  · rw [if_pos c4, if_neg h39] at h
    have h := ite_tok h
    injection h with _ h1 h2 h4; subst h4; exact ⟨h1.symm, h2.symm⟩
  rw [if_neg c4] at h
  have c34 : bAt r ≠ 34 := by
    intro e
    cases r with
    | nil => exact h0 rfl
    | cons c r =>
      have : c = 34 := e
      subst this
      exact h0 rfl
  rw [if_neg c34] at h
  cases h

theorem step_writ {t : Tok} (h : escTokS t = true) {z : BS} (hz : Sep z) : ∃ k : Nat, stepS (writS t ++ z) = .tok k t.text t.num (writS t).length ∧ (k : Int) = t.kind ∧ writS t ≠ [] := by
  obtain ⟨kind, text, num, at_⟩ := t
  unfold escTokS at h
  unfold writS
  simp only at h ⊢
  by_cases g1 : kind = 6
  · rw [if_pos g1] at h ⊢
    simp only [Bool.and_eq_true, decide_eq_true_eq] at h
    obtain ⟨⟨rfl, h1⟩, h2⟩ := h
    have hi : Lib.itoa num = Lib.decDigits num.toNat := by unfold Lib.itoa; rw [if_neg (by omega)]
    have hs := step_num (u := num.toNat) (by omega) hz
    rw [show ((num.toNat : Nat) : Int) = num from by omega] at hs
    rw [hi]
    refine ⟨6, hs, by omega, ?_⟩
    intro e
    have := dec_pos num.toNat
    rw [e] at this
    simp at this
  · rw [if_neg g1] at h ⊢
    by_cases g2 : kind = 7
    · rw [if_pos g2] at h ⊢
      simp only [Bool.and_eq_true, decide_eq_true_eq] at h
      obtain ⟨⟨rfl, h1⟩, h2⟩ := h
      rw [step_quot (Or.inl rfl), quotS_esc (Or.inl rfl), if_neg (by decide), if_pos (show [UInt8.ofNat (num % 256).toNat].length = 1 from rfl)]
      have hb : ((bAt [UInt8.ofNat (num % 256).toNat]).toNat : Int) = num := by
        simp only [bAt, UInt8.toNat_ofNat']
        omega
      rw [hb]
      exact ⟨7, rfl, by omega, by simp [escS]⟩
    · rw [if_neg g2] at h ⊢
      by_cases g3 : kind = 8
      · rw [if_pos g3] at h ⊢
        simp only [decide_eq_true_eq] at h
        subst h
        rw [step_quot (Or.inr rfl), quotS_esc (Or.inr rfl), if_pos rfl]
        exact ⟨8, rfl, by omega, by simp [escS]⟩
      · rw [if_neg g3] at h ⊢
        split at h
        · cases h
        · rename_i c1
          simp only [ne_eq, not_or, Classical.not_not] at c1
          obtain ⟨rfl, c2, c3⟩ := c1
          split at h
          · cases h
          · rename_i c4
            simp only [not_or] at c4
            obtain ⟨d3, d0, d7, d39⟩ := c4
            split at h
            · rename_i k tx m n htok
              simp only [Bool.and_eq_true, decide_eq_true_eq] at h
              obtain ⟨rfl, hk⟩ := h
              obtain ⟨htx, hm⟩ := tokS_text d3 d0 d7 d39 htok
              rw [List.take_length] at htx
              subst htx; subst hm
              refine ⟨k, ?_, hk, c2⟩
              rw [← tok_sep hz c2 htok]
              refine step_plain (by rw [cls_app c2]; exact d7) ?_ ?_
              · match tx, c2 with
                | [a], _ =>
                  rcases hz with rfl | ⟨r, rfl⟩
                  · rfl
                  · simp [pre]
                | a :: b :: r, _ =>
                  by_cases ha : a = 123
                  · exfalso
                    subst ha
                    have : tokS (123 :: b :: r) = .tok 9 [123] 0 1 := by rfl
                    rw [this] at htok
                    injection htok with _ _ _ h4
                    simp at h4
                  · exact pre_no ha
              · by_cases h5 : cls tx = 5
                · rw [run_sep 5 (by decide) hz]
                  have hn : runL 5 tx = tx.length := by
                    have : tokS tx = opS tx := by
                      unfold tokS
                      rw [if_neg (by rw [h5]; decide), if_neg (by rw [h5]; decide), if_neg (by rw [h5]; decide), if_pos h5]
                    rw [this] at htok
                    unfold opS at htok
                    by_cases c1 : isSg (tx.take (runL 5 tx)) = true
                    · rw [if_pos c1] at htok
                      injection htok
                    · rw [if_neg c1] at htok
                      have htok := ite_tok htok
                      injection htok
                  rw [hn, List.take_left]
                  cases hd : dsh tx with
                  | false => rfl
                  | true => exact absurd ⟨h5, hd⟩ c3
                · exact dsh_nil (by rw [cls_app c2]; exact h5)
            · cases h

def tailT : List Tok → BS
  | [] => []
  | t :: l => 32 :: (writS t ++ tailT l)
theorem sep_tail (l : List Tok) : Sep (tailT l) := by
  cases l with
  | nil => exact Or.inl rfl
  | cons t l => exact Or.inr ⟨_, rfl⟩
theorem lex_tail : ∀ (l : List Tok) (i n : Nat), l.all escTokS = true → n + l.length ≤ 20000 → ∃ m, lexS (tailT l) i n = .ok m ∧ likeL l m = true
  | [], i, n, _, _ => ⟨[], by rw [tailT, lexS_nil], rfl⟩
  | t :: l, i, n, h, hn => by
    rw [List.all_cons, Bool.and_eq_true] at h
    simp only [List.length_cons] at hn
    obtain ⟨k, hs, hk, hne⟩ := step_writ h.1 (sep_tail l)
    obtain ⟨m, h1, h2⟩ := lex_tail l (i + 1 + (writS t).length) (n + 1) h.2 (by omega)
    refine ⟨⟨k, t.text, t.num, (i + 1 : Nat)⟩ :: m, ?_, ?_⟩
    · rw [tailT, blank_skip (by decide), lexS_cons (by simp [hne]), hs]
      simp only [List.drop_left]
      rw [if_neg (by omega), h1]
      rfl
    · simp only [likeL, likeT, Bool.and_eq_true, beq_iff_eq, decide_eq_true_eq]
      exact ⟨⟨⟨hk.symm, trivial⟩, trivial⟩, h2⟩
theorem prL_mono : ∀ (l : List Tok) (b : BS) (i : Nat), b.length ≤ (prL b i l).length
  | [], b, i => Nat.le_refl _
  | t :: l, b, i => by
    simp only [prL]
    have hb : b.length ≤ (if 0 < i then b ++ [32] else b).length := by split <;> simp
    generalize (if 0 < i then b ++ [32] else b) = b1 at hb ⊢
    by_cases h : b1.length ≤ 65536
    · rw [if_pos h]
      have := prL_mono l (b1 ++ writS t) (i + 1)
      rw [List.length_append] at this
      omega
    · rw [if_neg h]
      have := prL_mono l b1 (i + 1)
      omega
theorem prL_tail : ∀ (l : List Tok) (b : BS) (i : Nat), 0 < i → (prL b i l).length ≤ 65536 → prL b i l = b ++ tailT l
  | [], b, i, _, _ => by simp [prL, tailT]
  | t :: l, b, i, hi, h => by
    simp only [prL] at h ⊢
    rw [if_pos hi] at h ⊢
    by_cases g : (b ++ [32]).length ≤ 65536
    · rw [if_pos g] at h ⊢
      rw [prL_tail l _ (i + 1) (by omega) h]
      simp [tailT]
    · rw [if_neg g] at h
      have := prL_mono l (b ++ [32]) (i + 1)
      omega
theorem lex_print {l : List Tok} (h : (printS l).2 = 0) : (printS l).1.length ≤ 65536 ∧ ∃ m, lexS (printS l).1 0 0 = .ok m ∧ likeL l m = true := by
  unfold printS at h ⊢
  by_cases g1 : 20000 < l.length
  · rw [if_pos g1] at h; cases h
  · rw [if_neg g1] at h ⊢
    by_cases g2 : l.all escTokS = true
    · rw [if_pos g2] at h ⊢
      by_cases g3 : 65536 < (prL [] 0 l).length
      · rw [if_pos g3] at h; cases h
      · rw [if_neg g3]
        refine ⟨by simp only; omega, ?_⟩
        simp only
        cases l with
        | nil => exact ⟨[], by rw [prL, lexS_nil], rfl⟩
        | cons t l =>
          simp only [List.length_cons] at g1
          rw [List.all_cons, Bool.and_eq_true] at g2
          simp only [prL, Nat.lt_irrefl, if_false, List.length_nil, Nat.zero_le, if_true, List.nil_append, Nat.zero_add] at g3 ⊢
          rw [prL_tail l _ 1 (by omega) (by omega)]
          obtain ⟨k, hs, hk, hne⟩ := step_writ g2.1 (sep_tail l)
          obtain ⟨m, h1, h2⟩ := lex_tail l (writS t).length 1 g2.2 (by omega)
          refine ⟨⟨k, t.text, t.num, (0 : Nat)⟩ :: m, ?_, ?_⟩
          · rw [lexS_cons (by simp [hne]), hs]
            simp only [List.drop_left]
            rw [if_neg (by omega), Nat.zero_add, Nat.zero_add, h1]
            rfl
          · simp only [likeL, likeT, Bool.and_eq_true, beq_iff_eq, decide_eq_true_eq]
            exact ⟨⟨⟨hk.symm, trivial⟩, trivial⟩, h2⟩
    · rw [if_neg g2] at h; cases h
end Go.Vm
end

section
namespace Go.Vm

theorem nameL_take : ∀ (r : BS) (m : Nat), nameL (r.take m) = min (nameL r) m
  | [], m => by simp [nameL]
  | c :: r, 0 => by simp [nameL]
  | c :: r, m + 1 => by
    have ih := nameL_take r m
    simp only [List.take_succ_cons, nameL]
    have e : inNm (c :: r.take m) = inNm (c :: r) := rfl
    rw [e, ih]
    split <;> omega
theorem runL_take (k : Nat) : ∀ (r : BS) (m : Nat), runL k (r.take m) = min (runL k r) m
  | [], m => by simp [runL]
  | c :: r, 0 => by simp [runL]
  | c :: r, m + 1 => by
    have ih := runL_take k r m
    simp only [List.take_succ_cons, runL]
    rw [ih]
    split <;> omega
theorem cls_take (r : BS) {m : Nat} (h : 1 ≤ m) : cls (r.take m) = cls r := by
  obtain ⟨k, rfl⟩ : ∃ k, m = k + 1 := ⟨m - 1, by omega⟩
  cases r <;> rfl
theorem bAt_take (r : BS) {m : Nat} (h : 1 ≤ m) : bAt (r.take m) = bAt r := by
  obtain ⟨k, rfl⟩ : ∃ k, m = k + 1 := ⟨m - 1, by omega⟩
  cases r <;> rfl

theorem upS_le (r : BS) : nameL r ≤ (upS r).2 ∧ (upS r).2 ≤ r.length := by
  have a := nameL_le r
  have b := nameL_le (r.drop (nameL r + 1))
  rw [List.length_drop] at b
  unfold upS
  simp only
  split
  · exact ⟨Nat.le_refl _, a⟩
  · split
    · split
      · exact ⟨Nat.le_refl _, a⟩
      · simp only; omega
    · split
      · simp only; omega
      · exact ⟨Nat.le_refl _, a⟩
theorem upS_short {r : BS} : upS (r.take (nameL r)) = (2, nameL r) := by
  have hle := nameL_le r
  have hn : nameL (r.take (nameL r)) = nameL r := by rw [nameL_take]; omega
  have hl : (r.take (nameL r)).length = nameL r := by rw [List.length_take]; omega
  unfold upS
  simp only [hn, hl]
  rw [if_pos (Or.inl (by omega))]
theorem upS_long {r : BS} {e : Nat} (he : nameL r = e) (h46 : bAt (r.drop e) = 46) (hc : cls (r.drop (e + 1)) = 1 ∨ cls (r.drop (e + 1)) = 2) {k : Nat} (hu : upS r = (k, e + 1 + nameL (r.drop (e + 1)))) :
    upS (r.take (e + 1 + nameL (r.drop (e + 1)))) = upS r := by
  have hle := nameL_le r
  have hf := nameL_le (r.drop (e + 1))
  have hf1 : 1 ≤ nameL (r.drop (e + 1)) := nameL_pos (inNm_cls (by omega))
  rw [List.length_drop] at hf
  have hu' := hu
  unfold upS at hu'
  simp only [he] at hu'
  generalize hff : nameL (r.drop (e + 1)) = f at hf hf1 hu hu' ⊢
  have hn : nameL (r.take (e + 1 + f)) = e := by rw [nameL_take]; omega
  have hl : (r.take (e + 1 + f)).length = e + 1 + f := by rw [List.length_take]; omega
  have hd : (r.take (e + 1 + f)).drop e = (r.drop e).take (1 + f) := by rw [List.drop_take]; congr 1; omega
  have hd1 : (r.take (e + 1 + f)).drop (e + 1) = (r.drop (e + 1)).take f := by rw [List.drop_take]; congr 1; omega
  rw [hu]
  unfold upS
  simp only [hn, hl, hd, hd1, nameL_take, hff, Nat.min_self, List.take_take]
  rw [bAt_take _ (by omega), cls_take _ hf1]
  have c1 : ¬ (r.length ≤ e + 1 ∨ bAt (r.drop e) ≠ 46) := by
    rintro (h | h)
    · omega
    · exact h h46
  rw [if_neg (by
    rintro (h | h)
    · omega
    · exact h h46)]
  rw [if_neg c1] at hu'
  exact hu'
theorem upS_take (r : BS) : upS (r.take (upS r).2) = upS r := by
  by_cases c1 : r.length ≤ nameL r + 1 ∨ bAt (r.drop (nameL r)) ≠ 46
  · have hu : upS r = (2, nameL r) := by unfold upS; simp only; rw [if_pos c1]
    rw [hu]; exact upS_short
  · have h46 : bAt (r.drop (nameL r)) = 46 := by
      apply Classical.byContradiction
      intro h; exact c1 (Or.inr h)
    by_cases c2 : cls (r.drop (nameL r + 1)) = 1
    · by_cases c3 : resv ((r.drop (nameL r + 1)).take (nameL (r.drop (nameL r + 1)))) = true
      · have hu : upS r = (2, nameL r) := by unfold upS; simp only; rw [if_neg c1, if_pos c2, if_pos c3]
        rw [hu]; exact upS_short
      · have hu : upS r = (3, nameL r + 1 + nameL (r.drop (nameL r + 1))) := by unfold upS; simp only; rw [if_neg c1, if_pos c2, if_neg c3]
        have := upS_long rfl h46 (Or.inl c2) hu
        rw [hu] at this ⊢
        exact this
    · by_cases c4 : cls (r.drop (nameL r + 1)) = 2
      · have hu : upS r = (4, nameL r + 1 + nameL (r.drop (nameL r + 1))) := by unfold upS; simp only; rw [if_neg c1, if_neg c2, if_pos c4]
        have := upS_long rfl h46 (Or.inr c4) hu
        rw [hu] at this ⊢
        exact this
      · have hu : upS r = (2, nameL r) := by unfold upS; simp only; rw [if_neg c1, if_neg c2, if_neg c4]
        rw [hu]; exact upS_short

theorem numL_range {b : Int} (hb : b = 10 ∨ b = 16) : ∀ (r : BS) (g : Bool) (a : Int), 0 ≤ a → a ≤ 4611686018427387903 → 0 ≤ (numL b r g a).2.1 ∧ (numL b r g a).2.1 ≤ 4611686018427387903
  | [], g, a, h0, h1 => ⟨h0, h1⟩
  | c :: r, g, a, h0, h1 => by
    have hx := hexB_lt c
    simp only [numL]
    by_cases c1 : 0 ≤ hexB c ∧ hexB c < b
    · rw [if_pos c1]
      by_cases c2 : (4611686018427387903 - hexB c) / b < a
      · rw [if_pos c2]
        exact numL_range hb r true (hexB c) c1.1 (by omega)
      · rw [if_neg c2]
        refine numL_range hb r g (a * b + hexB c) ?_ ?_
        · rcases hb with rfl | rfl <;> omega
        · rcases hb with rfl | rfl <;> omega
    · rw [if_neg c1]
      exact ⟨h0, h1⟩
theorem quotL_bs (q : UInt8) : ∀ (n : Nat) (r : BS), r.length = n → ∀ y, quotL q r = some y → y.1.length ≤ y.2 := by
  intro n
  induction n using Nat.strongRecOn with
  | ind n ih =>
    intro r hr y h
    subst hr
    match r with
    | [] => rw [quotL] at h; cases h
    | c :: r' =>
      rw [quotL] at h
      split at h
      · obtain rfl := Option.some.inj h; simp
      · split at h
        · cases h
        · rename_i a k hs
          have hk := soundS_len hs
          rw [Option.map_eq_some_iff] at h
          obtain ⟨z, hz, rfl⟩ := h
          have := ih _ (by simp only [List.length_drop, List.length_cons]; omega) (r'.drop (k - 1)) rfl z hz
          simp only [List.length_cons]
          simp only at hk
          omega

structure TokG (k : Nat) (t : BS) (m : Int) (n : Nat) : Prop where
  esc : ∀ a, escTokS ⟨k, t, m, a⟩ = true
  len : t.length ≤ n
  num : 0 ≤ m ∧ m ≤ 4611686018427387903
  wr : ∀ a, (writS ⟨k, t, m, a⟩).length + 1 ≤ 26 * n

theorem tokG_text {k : Nat} {x : BS} (hk : k ≠ 6 ∧ k ≠ 7 ∧ k ≠ 8) (hx : x ≠ []) (h5 : ¬ (cls x = 5 ∧ dsh x = true)) (h3 : cls x ≠ 3) (h0 : cls x ≠ 0) (h7 : cls x ≠ 7) (h39 : bAt x ≠ 39) {tx : BS} {m : Int} (ht : tokS x = .tok k tx m x.length) : TokG k x 0 x.length := by
  obtain ⟨k6, k7, k8⟩ := hk
  have hp : 1 ≤ x.length := by cases x with | nil => exact absurd rfl hx | cons a b => simp
  refine ⟨fun a => ?_, Nat.le_refl _, ⟨by decide, by decide⟩, fun a => ?_⟩
  · unfold escTokS
    simp only
    rw [if_neg (by omega), if_neg (by omega), if_neg (by omega), if_neg (by
      rintro (h | h | h)
      · exact h rfl
      · exact hx h
      · exact h5 h), if_neg (by
      rintro (h | h | h | h)
      · exact h3 h
      · exact h0 h
      · exact h7 h
      · exact h39 h), ht]
    simp
  · unfold writS
    simp only
    rw [if_neg (by omega), if_neg (by omega), if_neg (by omega)]
    omega
theorem quot_good {r : BS} {k : Nat} {t : BS} {m : Int} {n : Nat} (h : quotS r = .tok k t m n) : TokG k t m n := by
  unfold quotS at h
  split at h
  · cases h
  · rename_i bs c hq
    have hb := quotL_bs _ _ _ rfl _ hq
    simp only at hb
    split at h
    · injection h with h1 h2 h3 h4
      subst h1; subst h2; subst h3; subst h4
      refine ⟨fun a => rfl, by omega, ⟨by decide, by decide⟩, fun a => ?_⟩
      have := escS_len bs 34
      show (escS bs 34).length + 1 ≤ _
      omega
    · split at h
      · injection h with h1 h2 h3 h4
        subst h1; subst h2; subst h3; subst h4
        have hlt := (bAt bs).toNat_lt
        refine ⟨fun a => ?_, by simp, by omega, fun a => ?_⟩
        · unfold escTokS
          simp only
          rw [if_neg (by decide), if_pos (by rfl)]
          simp only [decide_true, Bool.true_and, Bool.and_eq_true, decide_eq_true_eq]
          omega
        · have := escS_len [UInt8.ofNat (((bAt bs).toNat : Int) % 256).toNat] 39
          simp only [List.length_singleton] at this
          show (escS [UInt8.ofNat (((bAt bs).toNat : Int) % 256).toNat] 39).length + 1 ≤ _
          omega
      · cases h
theorem cls39 {r : BS} (h : bAt r = 39) : cls r = 4 := by
  cases r with
  | nil => exact absurd h (by simp [bAt])
  | cons c r =>
    have : c = 39 := h
    subst this; rfl
theorem step_good {r : BS} {k : Nat} {t : BS} {m : Int} {n : Nat} (h : stepS r = .tok k t m n) : TokG k t m n := by
  have hs : tokS r = .tok k t m n ∧ dsh (r.take (runL 5 r)) = false := by
    unfold stepS at h
    split at h
    · cases h
    · split at h
      · split at h <;> cases h
      · split at h
        · cases h
        · rename_i h3
          exact ⟨h, by simpa using h3⟩
  obtain ⟨ht, hd⟩ := hs
  have hlen := tokS_len ht
  have h0 := ht
  unfold tokS at h0
  by_cases c1 : cls r = 1
  · rw [if_pos c1] at h0
    injection h0 with h1 h2 h3 h4
    have hn : (r.take n).length = n := by rw [List.length_take]; omega
    have hx : r.take n ≠ [] := by intro e; rw [e] at hn; simp at hn; omega
    rw [h4] at h1 h2
    subst h2; subst h3
    have hc : cls (r.take n) = 1 := by rw [cls_take _ hlen.1]; exact c1
    have := tokG_text (k := k) (x := r.take n) (by rw [← h1]; split <;> decide) hx (by rw [hc]; rintro ⟨h, _⟩; cases h) (by rw [hc]; decide) (by rw [hc]; decide) (by rw [hc]; decide) (by
      intro e
      have := cls39 e
      rw [hc] at this; cases this) (tx := r.take n) (m := 0) (by
      unfold tokS
      have hnn : nameL (r.take n) = n := by rw [nameL_take]; omega
      rw [if_pos hc, hnn, hn, List.take_take, Nat.min_self, h1])
    rw [hn] at this
    exact this
  · rw [if_neg c1] at h0
    by_cases c2 : cls r = 2
    · rw [if_pos c2] at h0
      injection h0 with h1 h2 h3 h4
      have hn : (r.take n).length = n := by rw [List.length_take]; omega
      have hx : r.take n ≠ [] := by intro e; rw [e] at hn; simp at hn; omega
      rw [h4] at h2
      subst h2; subst h3
      have hc : cls (r.take n) = 2 := by rw [cls_take _ hlen.1]; exact c2
      have hup := upS_take r
      rw [h4] at hup
      have hk : k ≠ 6 ∧ k ≠ 7 ∧ k ≠ 8 := by
        rw [← h1]
        unfold upS
        simp only
        split
        · simp
        · split
          · split <;> simp
          · split <;> simp
      have := tokG_text (k := k) (x := r.take n) hk hx (by rw [hc]; rintro ⟨h, _⟩; cases h) (by rw [hc]; decide) (by rw [hc]; decide) (by rw [hc]; decide) (by
        intro e
        have := cls39 e
        rw [hc] at this; cases this) (tx := r.take n) (m := 0) (by
        unfold tokS
        rw [if_neg (by rw [hc]; decide), if_pos hc, hup, h1, h4, hn, List.take_take, Nat.min_self])
      rw [hn] at this
      exact this
    · rw [if_neg c2] at h0
      by_cases c3 : cls r = 3
      · rw [if_pos c3] at h0
        unfold numS at h0
        have h0 := ite_tok h0
        injection h0 with h1 h2 h3 h4
        subst h1; subst h2
        have hr : 0 ≤ m ∧ m ≤ 4611686018427387903 := by
          rw [← h3]
          by_cases hp : hexP r = true
          · simp only [hp, if_true]; exact numL_range (Or.inr rfl) _ _ _ (by decide) (by decide)
          · simp only [hp]; exact numL_range (Or.inl rfl) _ _ _ (by decide) (by decide)
        refine ⟨fun a => ?_, by simp, hr, fun a => ?_⟩
        · unfold escTokS
          simp only
          rw [if_pos (by rfl)]
          simp only [decide_true, Bool.true_and, Bool.and_eq_true, decide_eq_true_eq]
          exact hr
        · have := itoa_le m (by omega)
          show (Lib.itoa m).length + 1 ≤ _
          omega
      · rw [if_neg c3] at h0
        by_cases c5 : cls r = 5
        · rw [if_pos c5] at h0
          unfold opS at h0
          simp only at h0
          have hrl := runL_le 5 r
          have hnk : runL 5 r = n ∧ t = r.take n ∧ m = 0 ∧ k ≠ 6 ∧ k ≠ 7 ∧ k ≠ 8 := by
            by_cases q1 : isSg (r.take (runL 5 r)) = true
            · rw [if_pos q1] at h0
              injection h0 with h1 h2 h3 h4
              rw [h4] at h2
              exact ⟨h4, h2.symm, h3.symm, by omega, by omega, by omega⟩
            · rw [if_neg q1] at h0
              have h0 := ite_tok h0
              injection h0 with h1 h2 h3 h4
              rw [h4] at h2
              exact ⟨h4, h2.symm, h3.symm, by omega, by omega, by omega⟩
          obtain ⟨hrn, rfl, rfl, hk⟩ := hnk
          have hn : (r.take n).length = n := by rw [List.length_take]; omega
          have hx : r.take n ≠ [] := by intro e; rw [e] at hn; simp at hn; omega
          have hc : cls (r.take n) = 5 := by rw [cls_take _ hlen.1]; exact c5
          rw [hrn] at hd
          have := tokG_text (k := k) (x := r.take n) hk hx (by rw [hd]; rintro ⟨_, h⟩; cases h) (by rw [hc]; decide) (by rw [hc]; decide) (by rw [hc]; decide) (by
            intro e
            have := cls39 e
            rw [hc] at this; cases this) (tx := r.take n) (m := 0) (by
            unfold tokS
            rw [if_neg (by rw [hc]; decide), if_neg (by rw [hc]; decide), if_neg (by rw [hc]; decide), if_pos hc]
            unfold opS
            simp only [runL_take, hrn, Nat.min_self, List.take_take, hn]
            rw [hrn] at h0
            exact h0)
          rw [hn] at this
          exact this
        · rw [if_neg c5] at h0
          have single : ∀ c r', r = c :: r' → cls [c] = cls r := by rintro c r' rfl; rfl
          by_cases c6 : cls r = 6
          · rw [if_pos c6] at h0
            injection h0 with h1 h2 h3 h4
            subst h1; subst h2; subst h3; subst h4
            match r, hlen with
            | c :: r', _ =>
              have hc : cls [c] = 6 := c6
              show TokG 9 [c] 0 [c].length
              refine tokG_text (by decide) (by simp) (by rw [hc]; rintro ⟨h, _⟩; cases h) (by rw [hc]; decide) (by rw [hc]; decide) (by rw [hc]; decide) (by
                intro e
                have := cls39 e
                rw [hc] at this; cases this) (tx := [c]) (m := 0) ?_
              unfold tokS
              rw [if_neg (by rw [hc]; decide), if_neg (by rw [hc]; decide), if_neg (by rw [hc]; decide), if_neg (by rw [hc]; decide), if_pos hc]
              rfl
          · rw [if_neg c6] at h0
            by_cases c4 : cls r = 4
            · rw [if_pos c4] at h0
              by_cases q1 : bAt r = 39
              · rw [if_pos q1] at h0
                exact quot_good h0
              · rw [if_neg q1] at h0
                have h0 := ite_tok h0
                injection h0 with h1 h2 h3 h4
                subst h1; subst h2; subst h3; subst h4
                match r, hlen, q1 with
                | c :: r', _, q1 =>
                  have hc : cls [c] = 4 := c4
                  show TokG 9 [c] 0 [c].length
                  refine tokG_text (by decide) (by simp) (by rw [hc]; rintro ⟨h, _⟩; cases h) (by rw [hc]; decide) (by rw [hc]; decide) (by rw [hc]; decide) (fun e => q1 e) (tx := [c]) (m := 0) ?_
                  unfold tokS
                  have q2 : ¬ bAt [c] = 39 := q1
                  rw [if_neg (by rw [hc]; decide), if_neg (by rw [hc]; decide), if_neg (by rw [hc]; decide), if_neg (by rw [hc]; decide), if_neg (by rw [hc]; decide), if_pos hc, if_neg q2]
                  rfl
            · rw [if_neg c4] at h0
              by_cases q1 : bAt r = 34
              · rw [if_pos q1] at h0
                exact quot_good h0
              · rw [if_neg q1] at h0
                cases h0

def sumW : List Tok → Nat
  | [] => 0
  | t :: l => (writS t).length + 1 + sumW l
theorem prL_le : ∀ (l : List Tok) (b : BS) (i : Nat), (prL b i l).length ≤ b.length + sumW l
  | [], b, i => by simp [prL, sumW]
  | t :: l, b, i => by
    simp only [prL, sumW]
    have hb : (if 0 < i then b ++ [32] else b).length ≤ b.length + 1 := by split <;> simp
    generalize (if 0 < i then b ++ [32] else b) = b1 at hb ⊢
    by_cases h : b1.length ≤ 65536
    · rw [if_pos h]
      have := prL_le l (b1 ++ writS t) (i + 1)
      rw [List.length_append] at this
      omega
    · rw [if_neg h]
      have := prL_le l b1 (i + 1)
      omega
theorem lex_good : ∀ (k : Nat) (r : BS), r.length = k → ∀ (i n : Nat) l, lexS r i n = .ok l → l.all escTokS = true ∧ (∀ t ∈ l, t.text.length ≤ r.length ∧ 0 ≤ t.num ∧ t.num ≤ 4611686018427387903) ∧ sumW l ≤ 26 * r.length ∧ (n ≤ 20000 → n + l.length ≤ 20000) := by
  intro k
  induction k using Nat.strongRecOn with
  | ind k ih =>
    intro r hr i n l h
    subst hr
    by_cases h0 : r = []
    · subst h0; rw [lexS_nil] at h; injection h with h; subst h; exact ⟨rfl, by simp, by simp [sumW], fun h => by simpa using h⟩
    · obtain ⟨s1, s2⟩ := stepS_len h0
      have hl : 1 ≤ r.length := by cases r with | nil => exact absurd rfl h0 | cons a b => simp
      rw [lexS_cons h0] at h
      cases hs : stepS r with
      | bad e => rw [hs] at h; cases h
      | skip k =>
        rw [hs] at h
        obtain ⟨k1, k2⟩ := s1 k hs
        obtain ⟨q1, q2, q3, q4⟩ := ih (r.drop k).length (by rw [List.length_drop]; omega) (r.drop k) rfl _ _ l h
        rw [List.length_drop] at q2 q3
        exact ⟨q1, fun t ht => by have := q2 t ht; omega, by omega, q4⟩
      | tok kd tx nm k =>
        rw [hs] at h
        obtain ⟨k1, k2⟩ := s2 kd tx nm k hs
        have hg := step_good hs
        simp only at h
        split at h
        · cases h
        · rename_i hn
          cases hx : lexS (r.drop k) (i + k) (n + 1) with
          | bad e p => rw [hx] at h; cases h
          | ok l' =>
            rw [hx] at h
            obtain ⟨q1, q2, q3, q4⟩ := ih (r.drop k).length (by rw [List.length_drop]; omega) (r.drop k) rfl _ _ l' hx
            rw [List.length_drop] at q2 q3
            injection h with h
            subst h
            have w1 := hg.len
            have w2 := hg.num
            have w3 := hg.wr (i : Int)
            refine ⟨by rw [List.all_cons, hg.esc, q1]; rfl, fun t ht => ?_, by simp only [sumW]; omega, fun h => by have := q4 (by omega); simp only [List.length_cons]; omega⟩
            rcases List.mem_cons.1 ht with rfl | ht
            · simp only; omega
            · have := q2 t ht; omega

theorem like_esc {t u : Tok} (h : likeT t u = true) : escTokS t = escTokS u ∧ writS t = writS u := by
  obtain ⟨a, b, c, d⟩ := t
  obtain ⟨a', b', c', d'⟩ := u
  simp only [likeT, Bool.and_eq_true, beq_iff_eq, decide_eq_true_eq] at h
  obtain ⟨⟨rfl, rfl⟩, rfl⟩ := h
  exact ⟨rfl, rfl⟩
theorem like_prL : ∀ (l m : List Tok), likeL l m = true → l.length = m.length ∧ l.all escTokS = m.all escTokS ∧ ∀ b i, prL b i l = prL b i m
  | [], [], _ => ⟨rfl, rfl, fun _ _ => rfl⟩
  | t :: l, u :: m, h => by
    simp only [likeL, Bool.and_eq_true] at h
    obtain ⟨h1, h2, h3⟩ := like_prL l m h.2
    obtain ⟨g1, g2⟩ := like_esc h.1
    refine ⟨by simp [h1], by rw [List.all_cons, List.all_cons, g1, h2], fun b i => ?_⟩
    simp only [prL, g2, h3]
  | [], _ :: _, h => by simp [likeL] at h
  | _ :: _, [], h => by simp [likeL] at h
theorem like_print {l m : List Tok} (h : likeL l m = true) : printS l = printS m := by
  obtain ⟨h1, h2, h3⟩ := like_prL l m h
  unfold printS
  rw [h1, h2, h3]

theorem lex_back {s : BS} {l : List Tok} (h : lexS s 0 0 = .ok l) : ((printS l).2 = 4 ∧ 1000 < s.length) ∨ (printS l).2 = 0 := by
  obtain ⟨h1, h2, h3, h4⟩ := lex_good _ s rfl 0 0 l h
  have h4 := h4 (by omega)
  have hp := prL_le l [] 0
  simp only [List.length_nil] at hp
  unfold printS
  rw [if_neg (by omega), if_pos h1]
  by_cases g : 65536 < (prL [] 0 l).length
  · rw [if_pos g]
    exact Or.inl ⟨rfl, by omega⟩
  · rw [if_neg g]
    exact Or.inr rfl
end Go.Vm
end

section
namespace Go.Vm
set_option maxRecDepth 20000
/- 'sloth/slothlaw01.LexBack' -/
def f4 : Fun := ⟨
 (.seq
  (.reg [⟨[], [], [(.bool false)], none, [0], 1, [], [], []⟩])
  (.seq
   (.reg [⟨[], [(3, (.call 9 .nil))], [], none, [0], 2, [], [], []⟩])
   (.seq
    (.reg [⟨[], [(4, (.ext 0 (.call 13 (.cons (.sl 0) .nil)))), (5, (.ext 1 (.call 13 (.cons (.sl 0) .nil))))], [], none, [0, 3], 7, [], [], []⟩])
    (.seq
     (.seq
      (.reg [⟨[], [(24, (.or (.un .not (.sl 3)) (.eqs true false [5] (.sl 5) .nilif)))], [], none, [0, 3, 4], 6, [], [], []⟩])
      (.cond (.sl 24)
       (.seq
        (.reg [⟨[], [(2, (.sl 3))], [], none, [], 2, [], [], []⟩])
        (.seq
         (.tidy 0 [2])
         .ret))
       .skip))
     (.seq
      (.reg [⟨[], [(6, (.ext 0 (.call 11 (.cons (.sl 4) .nil)))), (7, (.ext 1 (.call 11 (.cons (.sl 4) .nil))))], [], none, [0, 4], 7, [], [], []⟩])
      (.seq
       (.seq
        (.reg [⟨[], [(32, (.bin .eql (.sl 7) (.int .i64 4)))], [], none, [0, 4, 6, 7], 2, [], [], []⟩])
        (.cond (.sl 32)
         (.seq
          (.reg [⟨[], [(2, (.bin .gtr (.len true (.sl 0)) (.int .i64 1000)))], [], none, [], 4, [], [], []⟩])
          (.seq
           (.tidy 0 [2])
           .ret))
         .skip))
       (.seq
        (.reg [⟨[], [(8, (.ext 0 (.call 13 (.cons (.sl 6) .nil)))), (9, (.ext 1 (.call 13 (.cons (.sl 6) .nil))))], [], none, [4, 6, 7], 7, [], [], []⟩])
        (.seq
         (.reg [⟨[], [(10, (.call 14 (.cons (.sl 4) (.cons (.sl 8) .nil))))], [], none, [6, 7, 8, 9], 4, [], [], []⟩])
         (.seq
          (.reg [⟨[], [(11, (.ext 0 (.call 11 (.cons (.sl 8) .nil)))), (12, (.ext 1 (.call 11 (.cons (.sl 8) .nil))))], [], none, [6, 7, 9, 10], 7, [], [], []⟩])
          (.seq
           (.reg [⟨[], [(2, (.and (.and (.and (.and (.bin .eql (.sl 7) (.int .i64 0)) (.eqs false false [5] (.sl 9) .nilif)) (.sl 10)) (.bin .eql (.sl 12) (.int .i64 0))) (.bin .eql (.sl 11) (.sl 6))))], [], none, [], 19, [], [], []⟩])
           (.seq
            (.tidy 0 [2])
            .ret))))))))))),
 [(.sl 2)], false⟩
theorem f4_ok : funOk Go.Proofs.Tryd.prog 4 0 1 f4 = true := by kernel_rfl

/- 'sloth/slothlaw01.LexWrites' -/
def f5 : Fun := ⟨
 (.seq
  (.reg [⟨[], [], [(.bool false)], none, [0], 1, [], [], []⟩])
  (.seq
   (.reg [⟨[], [(3, (.call 9 .nil))], [], none, [0], 2, [], [], []⟩])
   (.seq
    (.reg [⟨[], [(4, (.ext 0 (.call 11 (.cons (.sl 0) .nil)))), (5, (.ext 1 (.call 11 (.cons (.sl 0) .nil))))], [], none, [0, 3], 7, [], [], []⟩])
    (.seq
     (.seq
      (.reg [⟨[], [(20, (.or (.un .not (.sl 3)) (.bin .neq (.sl 5) (.int .i64 0))))], [], none, [0, 3, 4], 6, [], [], []⟩])
      (.cond (.sl 20)
       (.seq
        (.reg [⟨[], [(2, (.sl 3))], [], none, [], 2, [], [], []⟩])
        (.seq
         (.tidy 0 [2])
         .ret))
       .skip))
     (.seq
      (.reg [⟨[], [(6, (.ext 0 (.call 13 (.cons (.sl 4) .nil)))), (7, (.ext 1 (.call 13 (.cons (.sl 4) .nil))))], [], none, [0], 7, [], [], []⟩])
      (.seq
       (.reg [⟨[], [(8, (.call 14 (.cons (.sl 0) (.cons (.sl 6) .nil))))], [], none, [7], 4, [], [], []⟩])
       (.seq
        (.reg [⟨[], [(2, (.and (.eqs false false [5] (.sl 7) .nilif) (.sl 8)))], [], none, [], 6, [], [], []⟩])
        (.seq
         (.tidy 0 [2])
         .ret)))))))),
 [(.sl 2)], false⟩
theorem f5_ok : funOk Go.Proofs.Tryd.prog 5 0 1 f5 = true := by kernel_rfl


theorem tokL_lex {s : BS} (hs : s.length ≤ 65536) {l : List Tok} (h : lexS s 0 0 = .ok l) : TokL l := by
  obtain ⟨_, h2, _, h4⟩ := lex_good _ s rfl 0 0 l h
  have h4 := h4 (by omega)
  exact ⟨by omega, fun t ht => ⟨by have := (h2 t ht).1; omega, by have := (h2 t ht).2; omega⟩⟩

theorem ev_LexWrites (K : Cx) (hloc : ∀ f, K.loc f = false) (h9 : K9 K) (h11 : K11 K) (h13 : K13 K) (h14 : K14 K) (l : List Tok) (hl : TokL l) : runFun K f5 [slT l] [] = some (.d false (.bool true), [], []) := by
  have e9 : K.call 9 [] = some (.d false (.bool true), []) := h9
  have e11 := h11 l hl
  have hlp := @lex_print l
  unfold printV at e11
  generalize printS l = p at e11 hlp
  obtain ⟨s, f⟩ := p
  simp only at e11 hlp
  by_cases g : f = 0
  · subst g
    obtain ⟨hs, m, hm, hk⟩ := hlp rfl
    have e13 := h13 s (by omega)
    rw [lexV_ok hs hm] at e13
    have hml := lex_count _ s rfl 0 0 m hm
    have e14 := h14 l m hl.1 (by omega)
    rw [hk] at e14
    clear hlp
    simp (disch := first | decide | omega | (simp only [LN]; omega) | (simp only [LN]; done) | fail) only [SV, f5, Nat.zero_add, Bool.and_self, beq_self_eq_true, Bool.not_true, Bool.and_false, hloc, e9, V.new, V.new1, D.flat, Bool.or_true, Bool.false_eq_true, if_false, Nat.reduceBEq, V.own, V.own1, Bool.or_self, Bool.and_true, V.flatV, V.flat1, Bool.not_false, view, viewD, e11, evExt, List.getElem?_cons_zero, List.getElem?_cons_succ, evUn, evBin, intBin, bne_self_eq_false, if_true, e13, Bool.or_false, e14, e_nilif, evEqs, cellsEq, cellEq, V.isNilI, V.refs, decide_true, oneOr, finV, finA, finC]
  · have g' : (f != 0) = true := by simpa using g
    clear hlp g
    simp (disch := first | decide | omega | (simp only [LN]; omega) | (simp only [LN]; done) | fail) only [SV, f5, Nat.zero_add, Bool.and_self, beq_self_eq_true, Bool.not_true, Bool.and_false, hloc, e9, V.new, V.new1, D.flat, Bool.or_true, Bool.false_eq_true, if_false, Nat.reduceBEq, V.own, V.own1, Bool.or_self, Bool.and_true, V.flatV, V.flat1, Bool.not_false, view, viewD, e11, evExt, List.getElem?_cons_zero, List.getElem?_cons_succ, evUn, evBin, intBin, g', if_true, V.refs, decide_true, oneOr, finV, finA, finC]

theorem ev_LexBack (K : Cx) (hloc : ∀ f, K.loc f = false) (h9 : K9 K) (h11 : K11 K) (h13 : K13 K) (h14 : K14 K) (text : BS) (ht : text.length ≤ 1100000) : runFun K f4 [vS text] [] = some (.d false (.bool true), [], []) := by
  have e9 : K.call 9 [] = some (.d false (.bool true), []) := h9
  have e13 := h13 text (by omega)
  by_cases gg : ∃ l, text.length ≤ 65536 ∧ lexS text 0 0 = .ok l
  · obtain ⟨l, hs, hl⟩ := gg
    rw [lexV_ok hs hl] at e13
    have hL := tokL_lex hs hl
    have e11 := h11 l hL
    have hb := lex_back hl
    have hlp := @lex_print l
    have hlk := @like_print l
    unfold printV at e11
    generalize hp : printS l = p at e11 hb hlp hlk
    obtain ⟨s, f⟩ := p
    simp only at e11 hb hlp
    rcases hb with ⟨rfl, hlen⟩ | rfl
    · clear hlp hlk
      simp (disch := first | decide | omega | (simp only [LN]; omega) | (simp only [LN]; done) | fail) only [SV, f4, Nat.zero_add, Bool.and_self, beq_self_eq_true, Bool.not_true, Bool.and_false, hloc, e9, V.new, V.new1, D.flat, Bool.or_true, Bool.false_eq_true, if_false, Nat.reduceBEq, V.own, V.own1, Bool.or_self, V.flatV, V.flat1, view, viewD, e13, Bool.or_false, evExt, List.getElem?_cons_zero, List.getElem?_cons_succ, evUn, e_nilif, evEqs, cellsEq, cellEq, V.isNilI, if_true, Bool.and_true, Bool.not_false, e11, evBin, intBin, evLen, decide_true, V.refs, oneOr, finV, finA, finC]
    · obtain ⟨hs2, m, hm, hk⟩ := hlp rfl
      have e13b := h13 s (by omega)
      rw [lexV_ok hs2 hm] at e13b
      have hml := lex_count _ s rfl 0 0 m hm
      have e14 := h14 l m hL.1 (by omega)
      rw [hk] at e14
      have e11b := h11 m (tokL_lex hs2 hm)
      unfold printV at e11b
      rw [← hlk hk] at e11b
      simp only at e11b
      have z : (s = s) = True := eq_self s
      clear hlp hlk hL
      simp (disch := first | decide | omega | (simp only [LN]; omega) | (simp only [LN]; done) | fail) only [SV, f4, Nat.zero_add, Bool.and_self, beq_self_eq_true, Bool.not_true, Bool.and_false, hloc, e9, V.new, V.new1, D.flat, Bool.or_true, Bool.false_eq_true, if_false, Nat.reduceBEq, V.own, V.own1, Bool.or_self, V.flatV, V.flat1, view, viewD, e13, Bool.or_false, evExt, List.getElem?_cons_zero, List.getElem?_cons_succ, evUn, e_nilif, evEqs, cellsEq, cellEq, V.isNilI, if_true, Bool.and_true, Bool.not_false, e11, evBin, intBin, e13b, e14, e11b, strBin, decide_true, V.refs, oneOr, finV, finA, finC]
  · have hbad : ∃ e i, lexV text = errD e i := by
      unfold lexV
      by_cases g : 65536 < text.length
      · rw [if_pos g]; exact ⟨_, _, rfl⟩
      · rw [if_neg g]
        cases hx : lexS text 0 0 with
        | bad e i => exact ⟨_, _, rfl⟩
        | ok l => exact absurd ⟨l, by omega, hx⟩ gg
    obtain ⟨e1, e2, hb⟩ := hbad
    rw [hb] at e13
    unfold errD at e13
    clear gg hb
    simp (disch := first | decide | omega | (simp only [LN]; omega) | (simp only [LN]; done) | fail) only [SV, f4, Nat.zero_add, Bool.and_self, beq_self_eq_true, Bool.not_true, Bool.and_false, hloc, e9, V.new, V.new1, D.flat, Bool.or_true, Bool.false_eq_true, if_false, Nat.reduceBEq, V.own, V.own1, Bool.or_self, V.flatV, V.flat1, view, viewD, e13, Bool.or_false, Bool.and_true, Bool.not_false, evExt, List.getElem?_cons_zero, List.getElem?_cons_succ, evUn, e_nilif, evEqs, cellsEq, cellEq, V.isNilI, if_true, V.refs, decide_true, oneOr, finV, finA, finC]
end Go.Vm
end

section
namespace Go.Vm
open Go.Shelf Go.Proofs

theorem law_back (text : BS) (h : text.length ≤ 1100000) : PureCall Tryd.prog GT 4 [vS text] (.d false (.bool true)) [] := by
  have k9 := k9_of (E := EE) (show Has N32 z9 by repeat (first | exact has_head _ _ | refine has_tail ?_ (by decide)))
  have k11 := k11_of (E := EE) (show Has N32 z11 by repeat (first | exact has_head _ _ | refine has_tail ?_ (by decide)))
  have k13 := k13_of (E := EE) (show Has N32 z13 by repeat (first | exact has_head _ _ | refine has_tail ?_ (by decide)))
  have k14 := k14_of (E := EE) (show Has N32 z14 by repeat (first | exact has_head _ _ | refine has_tail ?_ (by decide)))
  exact (pure_sound (args := [vS text]) mixedD zn32.sound f4_ok (ev_LexBack _ (fun _ => rfl) k9 k11 k13 k14 text h)).2
theorem law_writes (l : List Tok) (h : TokL l) : PureCall Tryd.prog GT 5 [slT l] (.d false (.bool true)) [] := by
  have k9 := k9_of (E := EE) (show Has N32 z9 by repeat (first | exact has_head _ _ | refine has_tail ?_ (by decide)))
  have k11 := k11_of (E := EE) (show Has N32 z11 by repeat (first | exact has_head _ _ | refine has_tail ?_ (by decide)))
  have k13 := k13_of (E := EE) (show Has N32 z13 by repeat (first | exact has_head _ _ | refine has_tail ?_ (by decide)))
  have k14 := k14_of (E := EE) (show Has N32 z14 by repeat (first | exact has_head _ _ | refine has_tail ?_ (by decide)))
  exact (pure_sound (args := [slT l]) mixedD zn32.sound f5_ok (ev_LexWrites _ (fun _ => rfl) k9 k11 k13 k14 l h)).2
end Go.Vm
end

section
namespace Go.Vm
open Go.RowKit Go.Deep

variable {H : Type} {enc : TypeId × Value → H} {P : Program} {w : World} {spare : Nat → Bool} {held : Bool}

structure BulkOk (bulk : DataW H → Nat) : Prop where
  str : ∀ l, l.length ≤ bulk (.lit (.string l))
  sl : ∀ elems spare, elems.length ≤ bulk (.slice elems spare) ∧ ∀ e ∈ elems, bulk e ≤ bulk (.slice elems spare)
  agg : ∀ parts, ∀ e ∈ parts, bulk e ≤ bulk (.agg parts)

def TypedB (P : Program) (B : Nat) : Nat → TypeId → List D → Prop
  | 0, _, _ => False
  | n + 1, t, ds => match P.underlying t with
    | some .bool => ∃ b, ds = [.bool b]
    | some (.int k) => ∃ m, ds = [.int k m] ∧ (Lit.int k m).wf = true
    | some .string => ∃ s, ds = [.str s] ∧ s.length ≤ B
    | some (.slice e) => ∃ rows : List (List D), ds = [.sl (P.cellsOf e) rows] ∧ rows.length ≤ B ∧ ∀ r ∈ rows, r.length = P.cellsOf e ∧ TypedB P B n e r
    | some (.struct fs) => TypedF P (TypedB P B n) fs.toList ds
    | _ => False

theorem fields_repB (T : TypeId → Bool) (Ty : TypeId → List D → Prop) (Q : DataW H → Prop) (g : TypeId → List Value → Option (DataW H × List MemPlace))
    (hT : ∀ t cs x, T t = true → g t cs = some x → Q x.1 → cs.length = P.cellsOf t → ∃ ds, RepL w cs ds ∧ Ty t ds) (cs : List Value) :
    ∀ (fs : List Field) (off : Nat) (xs : List (DataW H × List MemPlace)), laidFrom P T off fs = some cs.length → (fs.mapM fun f => g f.type ((cs.drop f.offset).take (P.cellsOf f.type))) = some xs → (∀ x ∈ xs, Q x.1) → ∃ ds, RepL w (cs.drop off) ds ∧ TypedF P Ty fs ds
  | [], off, xs, hl, _, _ => by
    simp only [laidFrom, Option.some.injEq] at hl
    refine ⟨[], ⟨by simp [hl], fun j v d _ hd => by simp at hd⟩, rfl⟩
  | f :: fs, off, xs, hl, hm, hQ => by
    simp only [laidFrom] at hl
    split at hl
    case isFalse => cases hl
    rename_i hc
    obtain ⟨ho, ht⟩ := hc
    rw [List.mapM_cons] at hm
    cases hg : g f.type ((cs.drop f.offset).take (P.cellsOf f.type)) with
    | none => rw [hg] at hm; cases hm
    | some x =>
      rw [hg] at hm
      cases hr : fs.mapM (fun f => g f.type ((cs.drop f.offset).take (P.cellsOf f.type))) with
      | none => rw [hr] at hm; cases hm
      | some ys =>
        rw [hr] at hm
        obtain rfl : x :: ys = xs := Option.some.inj hm
        have hle : ∀ (fs : List Field) (off m : Nat), laidFrom P T off fs = some m → off ≤ m := by
          intro fs
          induction fs with
          | nil => intro off m h; simp only [laidFrom, Option.some.injEq] at h; omega
          | cons f fs ih =>
            intro off m h
            simp only [laidFrom] at h
            split at h
            · have := ih _ _ h; omega
            · cases h
        have hb := hle _ _ _ hl
        obtain ⟨ds, h1, h2⟩ := fields_repB T Ty Q g hT cs fs _ ys hl hr (fun y hy => hQ y (List.mem_cons_of_mem _ hy))
        have hlen : ((cs.drop off).take (P.cellsOf f.type)).length = P.cellsOf f.type := by
          rw [List.length_take, List.length_drop]; omega
        rw [ho] at hg
        obtain ⟨asq, h3, h4⟩ := hT f.type _ x ht hg (hQ x (by simp)) hlen
        refine ⟨asq ++ ds, ?_, asq, ds, rfl, by rw [h3.1]; exact hlen, h4, h2⟩
        have := h3.append h1
        rwa [← List.drop_drop, List.take_append_drop] at this

theorem trod_repB {bulk : DataW H → Nat} (hbk : BulkOk bulk) {B : Nat} : ∀ (n fuel : Nat) (t : TypeId) (cs : List Value) (x : DataW H × List MemPlace), plainT P n t = true → DataW.trod enc P w 0 spare held fuel t cs = some x → bulk x.1 ≤ B → ∃ ds, RepL w cs ds ∧ TypedB P B n t ds
  | 0, _, _, _, _, h, _, _ => by simp [plainT] at h
  | _ + 1, 0, _, _, _, _, h, _ => by simp [DataW.trod] at h
  | n + 1, fuel + 1, t, cs, x, hp, h, hB => by
    simp only [plainT] at hp
    cases ht : P.underlying t with
    | none => simp [ht] at hp
    | some d =>
      simp only [TypedB, ht] at hp ⊢
      cases d with
      | bool =>
        have : ∃ b, cs = [.bool b] := by
          unfold DataW.trod at h
          simp only [ht] at h
          split at h <;> first | (exact ⟨_, rfl⟩) | (simp_all; done) | (cases h; done)
        obtain ⟨b, rfl⟩ := this
        exact ⟨_, .one (.bool b), b, rfl⟩
      | int k =>
        have : ∃ m, cs = [.int k m] ∧ (Lit.int k m).wf = true := by
          unfold DataW.trod at h
          simp only [ht] at h
          split at h <;> first | (cases h; done) | skip
          all_goals (try (simp_all; done))
          all_goals (split at h <;> first | (cases h; done) | skip)
          all_goals (simp_all)
        obtain ⟨m, rfl, hw⟩ := this
        exact ⟨_, .one (.int k m), m, rfl, hw⟩
      | string =>
        obtain ⟨s', h1, hx, hs⟩ := DataW.trod_string ht h
        subst h1
        refine ⟨_, .one (.str s'), _, rfl, ?_⟩
        have := hbk.str s'.data.toList
        rw [hx] at hB
        exact Nat.le_trans this hB
      | slice e =>
        simp only [Bool.and_eq_true, decide_eq_true_eq] at hp
        rcases open_slice ht h with ⟨rfl, _⟩ | ⟨a, len, cap, m, n', Dd, Pl, rfl, _, hlc, hcm, hm, hxx, hel⟩
        · exact ⟨_, .one (.sl0 none 0 (P.cellsOf e) (fun _ => rfl)), [], rfl, by simp, fun r hr => by simp at hr⟩
        · rw [hxx] at hB
          have hsl := hbk.sl ((List.range len).map Dd) ((List.range (m - len)).map fun j => Dd (len + j))
          have hlen' : len ≤ B := by
            have := hsl.1
            rw [List.length_map, List.length_range] at this
            exact Nat.le_trans this hB
          have hpart : ∀ i, i < len → bulk (Dd i) ≤ B := fun i hi => Nat.le_trans (hsl.2 _ (List.mem_map.2 ⟨i, List.mem_range.2 hi, rfl⟩)) hB
          have hml : len ≤ m := by rw [hm]; split <;> omega
          have rowsOf : ∀ i, i < len → ∃ ds, ∃ cs', w.cells? 0 (a.add (i * P.cellsOf e)) (P.cellsOf e) = some cs' ∧ RepL w cs' ds ∧ TypedB P B n e ds := by
            intro i hi
            obtain ⟨cs', h1, h2⟩ := hel i (by omega)
            obtain ⟨ds, h3, h4⟩ := trod_repB hbk n n' e cs' _ hp.2 h2 (hpart i hi)
            exact ⟨ds, cs', h1, h3, h4⟩
          obtain ⟨rows, hr1, hr2⟩ := exists_list len rowsOf
          have typed : ∀ r ∈ rows, r.length = P.cellsOf e ∧ TypedB P B n e r := fun r hr => by
            obtain ⟨i, hi⟩ := List.getElem?_of_mem hr
            obtain ⟨cs', h1, h3, h4⟩ := hr2 i r hi
            exact ⟨by rw [h3.1, (cells?_get h1).1], h4⟩
          refine ⟨[.sl (P.cellsOf e) rows], .one ?_, rows, rfl, by omega, typed⟩
          by_cases hz : len = 0
          · have : rows = [] := List.eq_nil_of_length_eq_zero (by omega)
            subst this
            subst hz
            exact .sl0 (some a) cap _ (fun h => by cases h)
          · have h0 : 0 < rows.length := by omega
            obtain ⟨cs0, g1, g2, _⟩ := hr2 0 rows[0] (List.getElem?_eq_getElem h0)
            obtain ⟨c1, c2⟩ := cells?_get g1
            have hv := c2 0 cs0[0] (List.getElem?_eq_getElem (by omega))
            simp only [Nat.zero_mul] at hv
            have hsp : a.spot = none := by simpa [Addr.add] using World.cell?_spot hv
            have hblk : a.block < w.heap.size := by
              unfold World.cell? at hv
              split at hv
              · rename_i hh
                have := (Array.getElem?_eq_some_iff.1 hh).1
                simpa [Addr.add] using this
              · cases hv
            obtain ⟨ab, ao, asq⟩ := a
            simp only at hsp hblk
            subst hsp
            have cellat : ∀ (i j : Nat) (r : List D) (d : D), rows[i]? = some r → r[j]? = some d → ∃ v, w.cell? ⟨ab, ao + (i * P.cellsOf e + j), none⟩ = some v ∧ RepD w (There w) v d := by
              intro i j r d hi hj
              obtain ⟨cs', h1, h3, _⟩ := hr2 i r hi
              have hjl : j < cs'.length := by rw [← h3.1]; exact (List.getElem?_eq_some_iff.1 hj).1
              refine ⟨cs'[j], ?_, h3.2 j _ d (List.getElem?_eq_getElem hjl) hj⟩
              have := (cells?_get h1).2 j _ (List.getElem?_eq_getElem hjl)
              rw [add_lit, add_lit, Nat.add_assoc] at this
              exact this
            refine .sl ab ao len cap (P.cellsOf e) rows (fun i j => (w.cell? ⟨ab, ao + (i * P.cellsOf e + j), none⟩).getD default) hr1 hlc hblk (fun r hr => (typed r hr).1) (fun i j r d hi hj => ?_) (fun i j r d hi hj => ?_)
            · obtain ⟨v, hv, _⟩ := cellat i j r d hi hj
              rw [hv]; rfl
            · obtain ⟨v, hv, hR⟩ := cellat i j r d hi hj
              rw [hv]; exact hR
      | struct fs =>
        simp only [decide_eq_true_eq] at hp
        have hs : cs.length = P.cellsOf t ∧ ∃ xs, (fs.toList.mapM fun f => DataW.trod enc P w 0 spare held fuel f.type ((cs.drop f.offset).take (P.cellsOf f.type))) = some xs ∧ ∀ y ∈ xs, bulk y.1 ≤ B := by
          unfold DataW.trod at h
          simp only [ht] at h
          split at h
          · rename_i hl
            simp only [Option.map_eq_some_iff] at h
            obtain ⟨xs, hx, hxe⟩ := h
            subst hxe
            exact ⟨hl, xs, hx, fun y hy => Nat.le_trans (hbk.agg _ y.1 (List.mem_map.2 ⟨y, hy, rfl⟩)) hB⟩
          · cases h
        obtain ⟨hl, xs, hx, hxb⟩ := hs
        obtain ⟨ds, h1, h2⟩ := fields_repB (plainT P n) (TypedB P B n) (fun d => bulk d ≤ B) (fun t cs => DataW.trod enc P w 0 spare held fuel t cs) (fun t cs x hp h hq _ => trod_repB hbk n fuel t cs x hp h hq) cs fs.toList 0 xs (by rw [hl]; exact hp) hx hxb
        exact ⟨ds, by simpa using h1, h2⟩
      | _ => simp at hp

theorem arg_repB {bulk : DataW H → Nat} (hbk : BulkOk bulk) {B : Nat} {n : Nat} {t : TypeId} {v : Value} {d : DataW H} {ps : List MemPlace} {r : Reach} {b0 base : Nat} (hB : bulk d ≤ B) (hp : plainT P n t = true) (hv : Value.okWide P w r b0 t v) (h : DataW.Trod enc P w 0 spare held t v d ps) :
    ∃ ds, TypedB P B n t ds ∧ RepV w (There w) base (fun _ => none) v (argV (aggOf P t) ds) := by
  obtain ⟨fuel, h⟩ := h
  obtain ⟨ds, h1, h2⟩ := trod_repB hbk n fuel t v.cells.toList _ hp h hB
  refine ⟨ds, h2, ?_⟩
  cases n with
  | zero => simp [plainT] at hp
  | succ n =>
    simp only [plainT] at hp
    cases ht : P.underlying t with
    | none => simp [ht] at hp
    | some td =>
      simp only [ht] at hp
      have ha : aggOf P t = isAggD td := by simp [aggOf, ht]
      cases td with
      | struct fs =>
        simp only [Value.okWide, ht] at hv
        obtain ⟨cs, rfl, _, _⟩ := hv
        rw [ha]
        simp only [isAggD, argV, if_true]
        have hlen : ds.length = cs.size := by simpa [Value.cells] using h1.1
        refine .agg _ _ (by simp [hlen]) (fun j u x hu hx => ?_) (fun u hu => ?_)
        · simp only [List.getElem?_map, Option.map_eq_some_iff] at hx
          obtain ⟨y, hy, rfl⟩ := hx
          exact .d _ _ _ (h1.2 j u y (by simpa [Value.cells] using hu) hy)
        · obtain ⟨j, hj⟩ := Array.getElem?_of_mem hu
          have hjl : j < ds.length := by rw [hlen]; exact (Array.getElem?_eq_some_iff.1 hj).1
          exact (h1.2 j u _ (by simpa [Value.cells] using hj) (List.getElem?_eq_getElem hjl)).oneCell
      | bool =>
        simp only [TypedB, ht] at h2
        obtain ⟨b, rfl⟩ := h2
        have hag : ∀ cs, v ≠ .agg cs := by rintro cs rfl; simp [Value.okWide, ht, Cell.okWide, Cell.ok] at hv
        rw [ha]
        exact single hag h1
      | int k =>
        simp only [TypedB, ht] at h2
        obtain ⟨m, rfl, _⟩ := h2
        have hag : ∀ cs, v ≠ .agg cs := by rintro cs rfl; simp [Value.okWide, ht, Cell.okWide, Cell.ok] at hv
        rw [ha]
        exact single hag h1
      | string =>
        simp only [TypedB, ht] at h2
        obtain ⟨m, rfl, _⟩ := h2
        have hag : ∀ cs, v ≠ .agg cs := by rintro cs rfl; simp [Value.okWide, ht, Cell.okWide, Cell.ok] at hv
        rw [ha]
        exact single hag h1
      | slice e =>
        simp only [TypedB, ht] at h2
        obtain ⟨m, rfl, _⟩ := h2
        have hag : ∀ cs, v ≠ .agg cs := by rintro cs rfl; simp [Value.okWide, ht, Cell.okWide, Cell.ok] at hv
        rw [ha]
        exact single hag h1
      | _ => simp at hp

end Go.Vm
end

section
namespace Go.Vm
open Go.Proofs Go.Proofs.YtmmbgofnllcaeaaDoor
set_option maxRecDepth 100000

theorem bulk_one {H : Type} {d : DataW H} {l : List (DataW H)} (h : d ∈ l) : Rows.uptoBulk d ≤ Rows.uptoBulkAll l := by
  induction l with
  | nil => cases h
  | cons x r ih =>
    simp only [Rows.uptoBulkAll]
    cases List.mem_cons.1 h with
    | inl e => subst e; omega
    | inr e => have := ih e; omega
theorem bulk_pos {H : Type} (d : DataW H) : 1 ≤ Rows.uptoBulk d := by
  cases d with
  | lit l => cases l <;> simp [Rows.uptoBulk]
  | nil => simp [Rows.uptoBulk]
  | ptr d => simp [Rows.uptoBulk]
  | slice elems spare => simp [Rows.uptoBulk]
  | agg parts => simp [Rows.uptoBulk]
  | iface t d => simp [Rows.uptoBulk]
  | map entries => simp [Rows.uptoBulk]
  | held h => simp [Rows.uptoBulk]
theorem bulk_len {H : Type} (l : List (DataW H)) : l.length ≤ Rows.uptoBulkAll l := by
  induction l with
  | nil => simp [Rows.uptoBulkAll]
  | cons x r ih => have := bulk_pos x; simp only [Rows.uptoBulkAll, List.length_cons]; omega
theorem bulk_ok {H : Type} : BulkOk (Rows.uptoBulk (H := H)) :=
  ⟨fun l => by simp only [Rows.uptoBulk]; omega, fun elems spare => ⟨by have := bulk_len elems; simp only [Rows.uptoBulk]; omega, fun e he => by have := bulk_one he; simp only [Rows.uptoBulk]; omega⟩,
   fun parts e he => by have := bulk_one he; simp only [Rows.uptoBulk]; omega⟩

theorem rows_mapT {α : Type} {e : α → List D} {Q : α → Prop} : ∀ rows : List (List D), (∀ r ∈ rows, ∃ x, r = e x ∧ Q x) → ∃ l : List α, rows = l.map e ∧ ∀ x ∈ l, Q x
  | [], _ => ⟨[], rfl, fun x h => by simp at h⟩
  | r :: rows, h => by
    obtain ⟨x, h1, h2⟩ := h r (by simp)
    obtain ⟨l, h3, h4⟩ := rows_mapT rows (fun r hr => h r (List.mem_cons_of_mem _ hr))
    exact ⟨x :: l, by rw [h1, h3]; rfl, fun y hy => by
      rcases List.mem_cons.1 hy with rfl | hy
      · exact h2
      · exact h4 y hy⟩
theorem typedB_int {B n : Nat} {ds : List D} (h : TypedB Tryd.prog B (n + 1) 3 ds) : ∃ m, ds = [.int .i64 m] ∧ -9223372036854775808 ≤ m ∧ m ≤ 9223372036854775807 := by
  simp only [TypedB, Tryd.underlying3] at h
  obtain ⟨m, h1, h2⟩ := h
  simp only [Lit.wf, Bool.and_eq_true, decide_eq_true_eq] at h2
  have e1 : IntKind.i64.min = -9223372036854775808 := by decide
  have e2 : IntKind.i64.max = 9223372036854775807 := by decide
  rw [e1, e2] at h2
  exact ⟨m, h1, h2⟩
theorem typedB_str {B n : Nat} {ds : List D} (h : TypedB Tryd.prog B (n + 1) 9 ds) : ∃ s, ds = [.str s] ∧ s.length ≤ B := by
  simp only [TypedB, Tryd.underlying9] at h
  exact h
theorem cells33 : Tryd.prog.cellsOf 28 = 4 := by kernel_rfl
theorem typed_tok {B n : Nat} {ds : List D} (h : TypedB Tryd.prog B (n + 2) 28 ds) : ∃ t, ds = eTok t ∧ t.text.length ≤ B ∧ -9223372036854775808 ≤ t.num ∧ t.num ≤ 9223372036854775807 := by
  rw [TypedB] at h
  simp only [Tryd.underlying28, TypedF] at h
  obtain ⟨a, r, rfl, _, h1, b, r2, rfl, _, h2, c, r3, rfl, _, h3, d, r4, rfl, _, h4, rfl⟩ := h
  obtain ⟨x, rfl, _⟩ := typedB_int h1
  obtain ⟨y, rfl, hy⟩ := typedB_str h2
  obtain ⟨z, rfl, hz⟩ := typedB_int h3
  obtain ⟨u, rfl, _⟩ := typedB_int h4
  exact ⟨⟨x, y, z, u⟩, rfl, hy, hz⟩
theorem typed_toks {n : Nat} {ds : List D} (h : TypedB Tryd.prog 1048576 (n + 3) 22 ds) : ∃ l : List Tok, ds = [.sl 4 (l.map eTok)] ∧ TokL l := by
  rw [TypedB] at h
  simp only [Tryd.underlying22, cells33] at h
  obtain ⟨rows, rfl, hl, hr⟩ := h
  obtain ⟨l, rfl, h2⟩ := rows_mapT (e := eTok) rows (fun r h => typed_tok (hr r h).2)
  rw [List.length_map] at hl
  exact ⟨l, rfl, by omega, fun t ht => ⟨by have := (h2 t ht).1; omega, (h2 t ht).2⟩⟩
theorem plain22 : plainT Tryd.prog 3 22 = true := by kernel_rfl
end Go.Vm
end

section
namespace Go.Proofs.YtmmbgofnllcaeaaDoor.lexWrites
open Go.ChangeShapes Go.WideShapes Go.ChangeAt Go.RowKit Go.Vm Go.ChangeMaps
set_option linter.unusedVariables false

theorem post_below {H : Type} {enc : TypeId × Value → H} {P : Program} {f : Func} {s : ChangeSpec} {apart fresh handsOn again : Bool} {W W' : World} {args : Array Value} {v : Value} {ds gs : List (DataW H)} {before : List MemPlace}
    (hW : DataW.Whole enc P f.params.toList s.vars apart W args.toList ds gs before) (hb : Below W.heap.size W W')
    (hres : ∀ (b : Nat) (sp : Nat → Bool) (hd : Bool), DataW.TrodAll enc P W' b sp hd f.resultTypes.toList (v.resultList f.resultTypes.size) (s.fn H (ds ++ gs)).results [])
    (hargs : ∀ sp : Nat → Bool, (∀ p ∈ before, sp p.block = true) → DataW.TrodAll enc P W' 0 sp true f.params.toList args.toList (s.fn H (ds ++ gs)).args before)
    (hvars : ∀ sp : Nat → Bool, DataW.TrodVars enc P W' sp s.vars (s.fn H (ds ++ gs)).vars [])
    (hok : ∀ (j : Nat) (t : TypeId) (r : Value), f.resultTypes[j]? = some t → (v.resultList f.resultTypes.size)[j]? = some r → Value.okWide P W' .any 0 t r) :
    s.post enc P f apart fresh handsOn again W args v W' := by
  have hlt := hW.lt
  have hsp : ∀ p ∈ before, (fun b => decide (b < W.heap.size)) p.block = true := fun p hp => decide_eq_true (hlt p hp)
  have all := trodAll_append (hargs (fun _ => true) (fun _ _ => rfl)) (hres 0 (fun _ => true) true)
  rw [List.nil_append] at all
  obtain ⟨_, _, _, _, _, hz, hn⟩ := id hW
  refine ⟨ds, gs, before, [], before, [], hW, hres _ _ _, hargs _ hsp, hvars _, hb.frame _, fun _ => ⟨hok, _, _, before, ⟨before, [], all, hvars _, by simp, fun b off hp => ?_, hn⟩, fun p hp _ => hp⟩⟩
  rw [hb.frozen (hlt _ hp)]
  exact hz b off hp

theorem bulk1 {H : Type} {a : DataW H} (h : Rows.uptoSmall H ([a] ++ []) = true) : Rows.uptoBulk a ≤ 1048576 := by
  have h := of_decide_eq_true h
  simpa only [List.append_nil, Rows.uptoBulkAll, Nat.add_zero] using h
theorem bulk_str {H : Type} (l : List UInt8) : Rows.uptoBulk (DataW.lit (H := H) (.string l)) = l.length + 1 := by simp only [Rows.uptoBulk]

theorem i64_wf {n : Int} (h : (Lit.int .i64 n).wf = true) : -9223372036854775808 ≤ n ∧ n ≤ 9223372036854775807 := by
  simp only [Lit.wf, Bool.and_eq_true, decide_eq_true_eq] at h
  have e1 : IntKind.i64.min = -9223372036854775808 := by decide
  have e2 : IntKind.i64.max = 9223372036854775807 := by decide
  rw [e1, e2] at h
  exact h

set_option maxRecDepth 100000 in
theorem contract (H : Type) (enc : TypeId × Value → H) (W : World) (base : Nat) (args : Array Value) (ds gs : List (DataW H)) (before : List MemPlace)
    (hval : ∀ (j : Nat) t v, Tryd.f5.params[j]? = some t → args[j]? = some v → Value.okWide Tryd.prog W .any base t v)
    (hW : DataW.Whole enc Tryd.prog Tryd.f5.params.toList Rows.lexWritesSpec.vars false W args.toList ds gs before) (hk : Rows.uptoSmall H (ds ++ gs) = true) (hL : laidMetH Tryd.prog laidL W) :
    Calls Tryd.prog 5 args W fun e W' => ∃ v, e = .returned v ∧ Rows.lexWritesSpec.post enc Tryd.prog Tryd.f5 false true false false W args v W' := by
  have hW' := hW
  obtain ⟨p, q, hA0, hV, rfl, hfz, hnd⟩ := hW
  have hA : DataW.TrodAll enc Tryd.prog W 0 (fun _ => true) true Tryd.f5.params.toList args.toList ds p := hA0
  rw [Tryd.params5] at hA hval
  obtain ⟨v0, vs0, d0, ds0, p0, q0, hargs, rfl, rfl, h0, r0⟩ := trodAll_cons hA
  obtain ⟨rfl, rfl, rfl⟩ := trodAll_nil r0
  obtain rfl : args = #[v0] := by cases args; simp_all
  obtain ⟨rfl, rfl⟩ := trodVars_none hV
  clear hA0
  simp only [List.append_nil] at hW'
  have hb := bulk1 hk
  obtain ⟨dl, hty, hr0⟩ := arg_repB bulk_ok hb plain22 (hval 0 22 v0 rfl rfl) h0 (base := W.heap.size)
  obtain ⟨l, rfl, hl⟩ := typed_toks (n := 0) hty
  have hcall := law_writes l hl W (There W) #[v0] (fun b h => h) (glob_of_laid hL) ⟨rfl, fun j v x hv hx => by
    match j, hv, hx with
    | 0, hv, hx => simp at hv hx; subst hv; subst hx; exact hr0
    | j + 1, hv, hx => simp at hv⟩
  refine hcall.mono fun e W' ⟨v, F', σ', he, hbel, _, hR, _⟩ => ?_
  have hv := hR.bool_inv
  subst hv
  subst he
  have hlt : ∀ x ∈ p0, x.block < W.heap.size := fun x hx => hW'.lt x (by simpa using hx)
  exact ⟨_, rfl, post_below hW' hbel (fun _ _ _ => (trodAll_cons_mk (shut_bool Tryd.underlying4 _) trodAll_mk0))
    (fun sp hsp => by
      have := trodAll_cons_mk (WideElems.Trod_stays laidOutD (by kernel_rfl) (of_decide_eq_true (by kernel_rfl)) h0 (fun x hx => hbel.same (hlt x hx)) (fun x hx => hsp x (by simpa using hx))) trodAll_mk0
      have this' : DataW.TrodAll enc Tryd.prog W' 0 sp true [22] [v0] [d0] p0 := by simpa using this
      exact this')
    (fun _ => rfl) (ok_one (by kernel_rfl) rfl (okWide_bool_mk Tryd.underlying4 _))⟩

def wargs : Array Value := #[.slice none 0 0]
theorem reads (os : Os) {H : Type} (enc : TypeId × Value → H) : ∃ places, DataW.whole enc Tryd.prog ((laidWorld os).forCall (fun _ _ => 0) ⟨#[], wargs, []⟩).memory Tryd.f5.params.toList Rows.lexWritesSpec.vars false wargs.toList 8 = some ([.nil], [], places) :=
  ⟨[], by kernel_rfl⟩

set_option maxRecDepth 100000 in
theorem liftedUpto (os : Os) (started : os.Started) (H : Type) (enc : TypeId × Value → H) (F : Stop.Interp) :
    ReturnsInHanded {} Tryd.checked os 5 .any ((Rows.OpenSpec.upto Rows.lexWritesSpec).preRow enc Tryd.prog Tryd.f5 Rows.lexWritesUptoRow.domain false Rows.lexWritesUptoRow.laid) (((Rows.OpenSpec.upto Rows.lexWritesSpec).at F).post enc Tryd.prog Tryd.f5 false true false false) := by
  obtain ⟨places, hx⟩ := reads os enc
  refine returnsInHanded_of_row (C := Tryd.checked) (s := Rows.OpenSpec.upto Rows.lexWritesSpec) ownD started (by kernel_rfl) Tryd.func5
    (witness_row_at (enc := enc) (C := Tryd.checked) false (laidWorld os) wargs rfl (by kernel_rfl) (by kernel_rfl) (by kernel_rfl)
      (OpenSpec.preRow_of_cond 8 hx (by kernel_rfl) (fun k hk => by cases hk; kernel_rfl) (by kernel_rfl) (laid_met os wargs))) ?_
  intro W base args ds gs before hval hW _ hcond _ hL _ _
  exact contract H enc W base args ds gs before hval hW (hcond _ rfl) hL

theorem saidUpto : Rows.LexWritesUptoSaid :=
  OpenClaim.holds_of_cond 5 Tryd.f5 rfl rfl rfl rfl rfl rfl rfl ⟨rfl, rfl, rfl, rfl, rfl⟩ rfl rfl rfl rfl rfl (by kernel_rfl) Tryd.func5 (by kernel_rfl)
    (of_decide_eq_true (by kernel_rfl)) (by unfold Func.isWrapper; first | (rw [if_pos (by decide +kernel)]; kernel_rfl) | (rw [if_neg (by decide +kernel)]; exact ⟨rfl, rfl⟩))
    (fun os started H enc _ F => by rw [OpenClaim.pre_eq_preRow]; exact liftedUpto os started H enc F)

theorem plain (f : FuncId) (fn : Func) (hf : Tryd.pinned.checked.prog.funcNamed "sloth/slothlaw01.LexWrites" = some f) (hfn : Tryd.pinned.checked.prog.funcs[f]? = some fn) :
    true = Tryd.pinned.checked.prog.looks [] ∧ ∀ (j : Nat) t, fn.params[j]? = some t → Tryd.pinned.checked.prog.wantsStandIn t = false := by
  obtain rfl : f = 5 := Option.some.inj ((show Tryd.prog.funcNamed "sloth/slothlaw01.LexWrites" = some 5 by kernel_rfl).symm.trans hf) |>.symm
  obtain rfl : fn = Tryd.f5 := (Option.some.inj (Tryd.func5.symm.trans hfn)).symm
  refine ⟨by kernel_rfl, fun j t ht => ?_⟩
  rw [Tryd.params5] at ht
  have h22 : Tryd.prog.wantsStandIn 22 = false := by kernel_rfl
  match j, ht with
  | 0, ht => simp at ht; subst ht; exact h22
  | j + 1, ht => simp at ht

theorem cardUpto : Rows.LexWritesUptoCardSaid :=
  Claim7.holds_tied_plain_at .later [] _ _ _ _ saidUpto (fun _ h => by cases h) (by kernel_rfl) (fun _ h => by cases h) lexWritesUpto_row_tie rfl ⟨rfl, rfl⟩ (by kernel_rfl) rfl plain (by kernel_rfl)
#print axioms cardUpto
end Go.Proofs.YtmmbgofnllcaeaaDoor.lexWrites
end
