/-
  LexSkips comes to true, whatever the input (of bulk at most 1048576); the input reads as it did.
  Conditions: the listed package-level tables read as the program's text lays them (tied by the card).
-/
import Derived.Test.YtmmbgofnllcaeaaDoorLexSkipsE
import Derived.Lib.LaidTab
import Derived.Below
import Derived.Test.YtmmbgofnllcaeaaDoorRows
import Derived.ProofKit
import Derived.OpenShut
import Derived.Deep.DeepHandedRow
import Derived.Lib.LaidIn
import Derived.ChangeMaps5
import Derived.Test.YtmmbgofnllcaeaaDoorCards
import Derived.Test.YtmmbgofnllcaeaaDoorTie
set_option linter.unusedVariables false
set_option linter.unusedSimpArgs false

section
namespace Go.Vm
set_option maxRecDepth 20000
/- 'sloth/slothlaw01.LexSkips' -/
def f6_L0 : C :=
 (.seq
  (.seq
   (.reg [⟨[], [(75, (.bin .lss (.sl 16) (.sl 2)))], [], none, [0, 1, 2, 3, 10, 12, 14, 15, 16], 3, [], [], []⟩])
   (.cond (.sl 75)
    .skip
    (.seq
     (.tidy 0 [0, 1, 3, 10, 12, 14, 15])
     (.exit 0))))
  (.seq
   (.block 1
    (.reg [⟨[], [(14, (.bin .add (.bin .add (.str [123, 45]) (.sl 14)) (.str [45, 125])))], [], none, [0, 1, 2, 3, 10, 12, 15, 16], 4, [], [], []⟩]))
   (.reg [⟨[], [(16, (.bin .add (.sl 16) (.int .i64 1)))], [], none, [0, 1, 2, 3, 10, 12, 14, 15], 3, [], [], []⟩])))
def f6_L1 : C :=
 (.seq
  (.seq
   (.reg [⟨[], [(84, (.bin .lss (.sl 17) (.len true (.sl 1))))], [], none, [0, 1, 3, 10, 12, 14, 15, 17], 4, [], [], []⟩])
   (.cond (.sl 84)
    .skip
    (.seq
     (.tidy 0 [0, 3, 10, 12, 14, 15])
     (.exit 2))))
  (.seq
   (.block 3
    (.seq
     (.reg [⟨[], [(90, (.bin .neq (.ix (.sl 1) (.sl 17)) (.int .u8 10)))], [], none, [0, 1, 3, 10, 12, 14, 15, 17], 4, [], [], []⟩])
     (.cond (.sl 90)
      (.reg [⟨[], [(15, (.bin .add (.bin .add (.sl 15) (.str [32])) (.cut true true true false 0 (.sl 1) (.sl 17) (.bin .add (.sl 17) (.int .i64 1)) .nil)))], [], none, [0, 1, 3, 10, 12, 14, 17], 9, [], [], []⟩])
      .skip)))
   (.reg [⟨[], [(17, (.bin .add (.sl 17) (.int .i64 1)))], [], none, [0, 1, 3, 10, 12, 14, 15], 3, [], [], []⟩])))
def f6 : Fun := ⟨
 (.seq
  (.reg [⟨[], [], [(.bool false)], none, [0, 1, 2, 3], 1, [], [], []⟩])
  (.seq
   (.reg [⟨[], [(9, (.call 9 .nil))], [], none, [0, 1, 2, 3], 2, [], [], []⟩])
   (.seq
    (.reg [⟨[], [(1, (.call 15 (.cons (.sl 1) .nil)))], [], none, [0, 2, 3, 9], 3, [], [], []⟩])
    (.seq
     (.seq
      (.reg [⟨[], [(30, (.bin .lss (.sl 2) (.int .i64 0)))], [], none, [0, 1, 2, 3, 9], 2, [], [], []⟩])
      (.cond (.sl 30)
       (.reg [⟨[], [(2, (.un .neg (.bin .add (.sl 2) (.int .i64 1))))], [], none, [0, 1, 3, 9], 4, [], [], []⟩])
       .skip))
     (.seq
      (.reg [⟨[], [(2, (.bin .add (.int .i64 1) (.bin .rem (.sl 2) (.int .i64 40))))], [], none, [0, 1, 3, 9], 4, [], [], []⟩])
      (.seq
       (.seq
        (.reg [⟨[], [(49, (.bin .gtr (.bin .add (.bin .add (.bin .add (.bin .add (.len true (.sl 0)) (.len true (.sl 3))) (.len true (.sl 1))) (.bin .mul (.int .i64 4) (.sl 2))) (.int .i64 10)) (.int .i64 20000)))], [], none, [0, 1, 2, 3, 9], 13, [], [], []⟩])
        (.cond (.sl 49)
         (.seq
          (.reg [⟨[], [(8, (.sl 9))], [], none, [], 2, [], [], []⟩])
          (.seq
           (.tidy 0 [8])
           .ret))
         .skip))
       (.seq
        (.reg [⟨[], [(10, (.ext 0 (.call 13 (.cons (.sl 0) .nil)))), (11, (.ext 1 (.call 13 (.cons (.sl 0) .nil))))], [], none, [0, 1, 2, 3, 9], 7, [], [], []⟩])
        (.seq
         (.reg [⟨[], [(12, (.ext 0 (.call 13 (.cons (.sl 3) .nil)))), (13, (.ext 1 (.call 13 (.cons (.sl 3) .nil))))], [], none, [0, 1, 2, 3, 9, 10, 11], 7, [], [], []⟩])
         (.seq
          (.seq
           (.reg [⟨[], [(70, (.or (.or (.un .not (.sl 9)) (.eqs true false [5] (.sl 11) .nilif)) (.eqs true false [5] (.sl 13) .nilif)))], [], none, [0, 1, 2, 3, 9, 10, 12], 10, [], [], []⟩])
           (.cond (.sl 70)
            (.seq
             (.reg [⟨[], [(8, (.sl 9))], [], none, [], 2, [], [], []⟩])
             (.seq
              (.tidy 0 [8])
              .ret))
            .skip))
          (.seq
           (.reg [⟨[], [(14, (.sl 1))], [], none, [0, 1, 2, 3, 10, 12], 2, [], [], []⟩])
           (.seq
            (.reg [⟨[], [(15, (.str [45, 45]))], [], none, [0, 1, 2, 3, 10, 12, 14], 1, [], [], []⟩])
            (.seq
             (.seq
              (.reg [⟨[], [(16, (.int .i64 0))], [], none, [0, 1, 2, 3, 10, 12, 14, 15], 1, [], [], []⟩])
              (.block 0
               (.seq (.tidy 0 [0, 1, 2, 3, 10, 12, 14, 15, 16]) (.loop (.seq (.tidy 0 [0, 1, 2, 3, 10, 12, 14, 15, 16]) f6_L0)))))
             (.seq
              (.seq
               (.reg [⟨[], [(17, (.int .i64 0))], [], none, [0, 1, 3, 10, 12, 14, 15], 1, [], [], []⟩])
               (.block 2
                (.seq (.tidy 0 [0, 1, 3, 10, 12, 14, 15, 17]) (.loop (.seq (.tidy 0 [0, 1, 3, 10, 12, 14, 15, 17]) f6_L1)))))
              (.seq
               (.reg [⟨[], [(18, (.ext 0 (.call 13 (.cons (.bin .add (.bin .add (.bin .add (.sl 0) (.str [10])) (.sl 14)) (.sl 3)) .nil)))), (19, (.ext 1 (.call 13 (.cons (.bin .add (.bin .add (.bin .add (.sl 0) (.str [10])) (.sl 14)) (.sl 3)) .nil))))], [], none, [0, 3, 10, 12, 14, 15], 12, [], [], []⟩])
               (.seq
                (.reg [⟨[], [(20, (.ext 0 (.call 13 (.cons (.bin .add (.bin .add (.bin .add (.bin .add (.sl 0) (.str [10])) (.sl 15)) (.str [10])) (.sl 3)) .nil)))), (21, (.ext 1 (.call 13 (.cons (.bin .add (.bin .add (.bin .add (.bin .add (.sl 0) (.str [10])) (.sl 15)) (.str [10])) (.sl 3)) .nil))))], [], none, [0, 10, 12, 14, 15, 18, 19], 13, [], [], []⟩])
                (.seq
                 (.reg [⟨[(121, .callo 16 (.cons (.sl 10) (.cons (.int .i64 0) .nil))), (129, .callo 16 (.cons (.sl 12) (.cons (.bin .add (.bin .add (.len true (.sl 0)) (.int .i64 1)) (.len true (.sl 14))) .nil)))], [], [], some (some 130, .app 4 (.sl 121) (.sl 129)), [0, 10, 12, 15, 18, 19, 20, 21], 11, [], [], []⟩, ⟨[], [(22, (.sl 130))], [], none, [0, 10, 12, 15, 18, 19, 20, 21], 1, [], [], []⟩])
                 (.seq
                  (.reg [⟨[(132, .callo 16 (.cons (.sl 10) (.cons (.int .i64 0) .nil))), (140, .callo 16 (.cons (.sl 12) (.cons (.bin .add (.bin .add (.len true (.sl 0)) (.int .i64 2)) (.len true (.sl 15))) .nil)))], [], [], some (some 141, .app 4 (.sl 132) (.sl 140)), [18, 19, 20, 21, 22], 11, [], [], []⟩, ⟨[], [(23, (.sl 141))], [], none, [18, 19, 20, 21, 22], 1, [], [], []⟩])
                  (.seq
                   (.reg [⟨[], [(24, (.call 12 (.cons (.sl 18) (.cons (.sl 22) .nil))))], [], none, [19, 20, 21, 23], 4, [], [], []⟩])
                   (.seq
                    (.reg [⟨[], [(25, (.call 12 (.cons (.sl 20) (.cons (.sl 23) .nil))))], [], none, [19, 21, 24], 4, [], [], []⟩])
                    (.seq
                     (.reg [⟨[], [(8, (.and (.and (.and (.eqs false false [5] (.sl 19) .nilif) (.eqs false false [5] (.sl 21) .nilif)) (.sl 24)) (.sl 25)))], [], none, [], 13, [], [], []⟩])
                     (.seq
                      (.tidy 0 [8])
                      .ret))))))))))))))))))))),
 [(.sl 8)], false⟩
theorem f6_ok : funOk Go.Proofs.Tryd.prog 6 0 4 f6 = true := by kernel_rfl


theorem fTokA (l m : List Tok) : l.map eTok ++ m.map eTok = (l ++ m).map eTok := by simp
theorem lex_at : ∀ (k : Nat) (r : BS), r.length = k → ∀ (i n : Nat) l, lexS r i n = .ok l → ∀ t ∈ l, (i : Int) ≤ t.at_ ∧ t.at_ < (i : Int) + r.length := by
  intro k
  induction k using Nat.strongRecOn with
  | ind k ih =>
    intro r hr i n l h t ht
    subst hr
    by_cases h0 : r = []
    · subst h0; rw [lexS_nil] at h; injection h with h; subst h; cases ht
    · obtain ⟨s1, s2⟩ := stepS_len h0
      have hl : 1 ≤ r.length := by cases r with | nil => exact absurd rfl h0 | cons a b => simp
      rw [lexS_cons h0] at h
      cases hs : stepS r with
      | bad e => rw [hs] at h; cases h
      | skip k =>
        rw [hs] at h
        obtain ⟨k1, k2⟩ := s1 k hs
        have := ih (r.drop k).length (by rw [List.length_drop]; omega) (r.drop k) rfl _ _ l h t ht
        rw [List.length_drop] at this
        omega
      | tok kd tx nm k =>
        rw [hs] at h
        obtain ⟨k1, k2⟩ := s2 kd tx nm k hs
        simp only at h
        split at h
        · cases h
        · cases hx : lexS (r.drop k) (i + k) (n + 1) with
          | bad e p => rw [hx] at h; cases h
          | ok l' =>
            rw [hx] at h
            injection h with h
            subst h
            rcases List.mem_cons.1 ht with rfl | ht
            · simp only; omega
            · have := ih (r.drop k).length (by rw [List.length_drop]; omega) (r.drop k) rfl _ _ l' hx t ht
              rw [List.length_drop] at this
              omega
theorem mv0 (l : List Tok) : l.map (mvT 0) = l := by
  have : ∀ t : Tok, mvT 0 t = t := by intro t; cases t; simp [mvT]
  induction l with
  | nil => rfl
  | cons a l ih => rw [List.map_cons, this, ih]

theorem skip_join {a b w : BS} {l m : List Tok} (h : a.length + b.length ≤ 20000) (ha : lexS a 0 0 = .ok l) (hb : lexS b 0 0 = .ok m) (hw : ∀ i k, lexS (w ++ b) i k = lexS b (i + w.length) k) :
    lexS (a ++ 10 :: (w ++ b)) 0 0 = .ok (l ++ m.map (mvT (a.length + 1 + w.length))) := by
  have hc := lex_count _ a rfl 0 0 l ha
  rw [lex_join (w ++ b) _ a rfl 0 0 l ha (by omega), hw]
  have e : 0 + a.length + 1 + w.length = 0 + (a.length + 1 + w.length) := by omega
  rw [e, lex_shift _ b rfl 0 (a.length + 1 + w.length) (0 + l.length) 0 (by omega) (by omega), hb]
  rfl

theorem sk_wrap (K : Cx) (a b c : BS) (la lb : List Tok) (d : Nat) (hd : d ≤ 40) (hc : c.length ≤ 2000000) : ∀ (k i : Nat), i + k = d →
    lp K 0 [0, 1, 2, 3, 10, 12, 14, 15, 16] f6_L0 ⟨[(0, vS a), (1, vS c), (2, vI d), (3, vS b), (10, .d true (.sl 4 (la.map eTok))), (12, .d true (.sl 4 (lb.map eTok))), (14, vS (wrapC c i)), (15, vS [45, 45]), (16, vI i)], [], 0, []⟩ =
      some (.exit 0, ⟨[(0, vS a), (1, vS c), (3, vS b), (10, .d true (.sl 4 (la.map eTok))), (12, .d true (.sl 4 (lb.map eTok))), (14, vS (wrapC c d)), (15, vS [45, 45])], [], 0, []⟩) := by
  intro k
  induction k with
  | zero =>
    intro i hi
    have : i = d := by omega
    subst this
    rw [lp_un f6_L0.eq_1]
    simp (disch := first | decide | omega | (simp only [LN]; omega) | (simp only [LN]; done) | fail) only [SV, Nat.reduceBEq, beq_self_eq_true, evBin, intBin, decide_false, if_true, V.refs, decide_true, Bool.and_self]
  | succ k ih =>
    intro i hi
    have hw := wrapC_len c i
    have ih := ih (i + 1) (by omega)
    rw [← ih]
    clear ih
    rw [lp_un f6_L0.eq_1]
    simp only [wrapC]
    generalize wrapC c i = w at hw ⊢
    simp (disch := first | decide | omega | (simp only [LN]; omega) | (simp only [LN]; done) | fail) only [SV, Nat.reduceBEq, beq_self_eq_true, evBin, intBin, decide_true, if_true, strBin, Nat.zero_add, Nat.reduceAdd, cast1, V.refs, Bool.and_self]
theorem sk_line (K : Cx) (a b c w : BS) (la lb : List Tok) (hc : c.length ≤ 2000000) : ∀ (r : BS) (k : Nat) (o : BS), c.drop k = r → k ≤ c.length → o.length ≤ 2 * k + 2 →
    lp K 0 [0, 1, 3, 10, 12, 14, 15, 17] f6_L1 ⟨[(0, vS a), (1, vS c), (3, vS b), (10, .d true (.sl 4 (la.map eTok))), (12, .d true (.sl 4 (lb.map eTok))), (14, vS w), (15, vS o), (17, vI k)], [], 0, []⟩ =
      some (.exit 2, ⟨[(0, vS a), (3, vS b), (10, .d true (.sl 4 (la.map eTok))), (12, .d true (.sl 4 (lb.map eTok))), (14, vS w), (15, vS (o ++ lineC r))], [], 0, []⟩) := by
  intro r
  induction r with
  | nil =>
    intro k o hd hk ho
    have hx := congrArg List.length hd
    rw [List.length_drop, List.length_nil] at hx
    simp only [lineC, List.append_nil]
    rw [lp_un f6_L1.eq_1]
    simp (disch := first | decide | omega | (simp only [LN]; omega) | (simp only [LN]; done) | fail) only [SV, Nat.reduceBEq, beq_self_eq_true, evLen, evBin, intBin, decide_false, if_true, V.refs, decide_true, Bool.and_self]
  | cons u r ih =>
    intro k o hd hk ho
    have hx := congrArg List.length hd
    rw [List.length_drop, List.length_cons] at hx
    have hn := nth_bAt (s := c) (i := k) (by omega)
    have hn2 : nth c (k : Int) = u := by rw [hn, hd]; rfl
    have hcut := fun H => cut_slh H c k (k + 1) (by omega) (by omega)
    have et : (c.drop k).take (k + 1 - k) = [u] := by
      rw [hd, show k + 1 - k = 1 from by omega]; rfl
    rw [et] at hcut
    simp only [lineC]
    by_cases g : u = 10
    · rw [if_pos g]
      have ih := ih (k + 1) o (by rw [dd, hd]; rfl) (by omega) (by omega)
      rw [← ih, lp_un f6_L1.eq_1]
      have g1 := u8y 10 rfl g
      clear ih g hn
      simp (disch := first | decide | omega | (simp only [LN]; omega) | (simp only [LN]; done) | fail) only [SV, Nat.reduceBEq, beq_self_eq_true, evLen, evBin, intBin, decide_true, if_true, hn2, cast1, V.refs, Bool.and_self]
    · rw [if_neg g]
      have ih := ih (k + 1) (o ++ [32] ++ [u]) (by rw [dd, hd]; rfl) (by omega) (by simp; omega)
      rw [show o ++ 32 :: u :: lineC r = o ++ [32] ++ [u] ++ lineC r from by simp, ← ih, lp_un f6_L1.eq_1]
      have g1 := u8n 10 rfl g
      clear ih g hn
      simp (disch := first | decide | omega | (simp only [LN]; omega) | (simp only [LN]; done) | fail) only [SV, Nat.reduceBEq, beq_self_eq_true, evLen, evBin, intBin, decide_true, if_true, hn2, strBin, Nat.zero_add, e_cut, cast1, o4_some, hcut, List.length_append, V.refs, Bool.and_self]

theorem lineC_len : ∀ p : BS, (lineC p).length ≤ 2 * p.length
  | [] => by simp [lineC]
  | u :: r => by
    have := lineC_len r
    simp only [lineC, List.length_cons]
    split
    · omega
    · simp only [List.length_cons]; omega
theorem lexV_bad {s : BS} (h : ∀ l : List Tok, lexV s ≠ .tup [.d true (.sl 4 (l.map eTok)), .d false .nilif]) : ∃ e i, lexV s = errD e i := by
  unfold lexV at h ⊢
  split
  · exact ⟨_, _, rfl⟩
  · rename_i g
    rw [if_neg g] at h
    cases hx : lexS s 0 0 with
    | bad e i => exact ⟨_, _, rfl⟩
    | ok l => rw [hx] at h; exact absurd rfl (h l)

set_option maxHeartbeats 2000000 in
theorem ev_LexSkips (K : Cx) (h9 : K9 K) (h15 : K15 K) (h13 : K13 K) (h16 : K16 K) (h12 : K12 K) (a c : BS) (deep : Int) (b : BS) (ha : a.length ≤ 1100000) (hc : c.length ≤ 1100000) (hb : b.length ≤ 1100000) (hd : -9223372036854775808 ≤ deep ∧ deep ≤ 9223372036854775807) :
    runFun K f6 [vS a, vS c, vI deep, vS b] [] = some (.d false (.bool true), [], []) := by
  have e9 : K.call 9 [] = some (.d false (.bool true), []) := h9
  have e15 := h15 c (by omega)
  have hcl : (c.filter plainB).length ≤ c.length := List.length_filter_le _ _
  have hpl : ∀ u ∈ c.filter plainB, plainB u = true := fun u hu => (List.mem_filter.1 hu).2
  generalize c.filter plainB = p at e15 hcl hpl
  obtain ⟨d1, d2⟩ := hd
  -- the number that is left
  obtain ⟨d0, hd0, hd00, hd01⟩ : ∃ d0 : Int, (if deep < 0 then 0 - (deep + 1) else deep) = d0 ∧ 0 ≤ d0 ∧ d0 ≤ 9223372036854775807 := ⟨_, rfl, by split <;> omega, by split <;> omega⟩
  have htm : d0.tmod 40 = d0 % 40 := Int.tmod_eq_emod_of_nonneg hd00
  obtain ⟨dn, hdn, hdn1, hdn2⟩ : ∃ dn : Nat, 1 + d0 % 40 = (dn : Int) ∧ 1 ≤ dn ∧ dn ≤ 40 := ⟨(1 + d0 % 40).toNat, by omega, by omega, by omega⟩
  have hr0 : 0 ≤ d0 % 40 ∧ d0 % 40 < 40 := by omega
  generalize d0 % 40 = rr at htm hdn hr0
  obtain ⟨r1, r2⟩ := hr0
  have key : ∀ (v : V), (∀ g : deep < 0, 0 - (deep + 1) = d0 → runFun K f6 [vS a, vS c, vI deep, vS b] [] = some (v, [], [])) → (∀ g : ¬ deep < 0, deep = d0 → runFun K f6 [vS a, vS c, vI deep, vS b] [] = some (v, [], [])) → runFun K f6 [vS a, vS c, vI deep, vS b] [] = some (v, [], []) := by
    intro v k1 k2
    by_cases g : deep < 0
    · rw [if_pos g] at hd0; exact k1 g hd0
    · rw [if_neg g] at hd0; exact k2 g hd0
  by_cases gb : (20000 : Int) < a.length + b.length + p.length + 4 * dn + 10
  · refine key _ (fun g e => ?_) (fun g e => ?_) <;> clear key hd0
    · simp (disch := first | decide | omega | (simp only [LN]; omega) | (simp only [LN]; done) | fail) only [SV, f6, Nat.zero_add, Nat.reduceAdd, Bool.and_self, beq_self_eq_true, Nat.reduceBEq, Bool.not_true, Bool.and_false, Bool.false_and, e9, V.new, V.new1, D.flat, Bool.or_true, Bool.false_eq_true, if_false, V.own, V.own1, Bool.or_self, V.flatV, V.flat1, view, viewD, e15, evBin, intBin, decide_true, if_true, evUn, e, Int.reduceEq, htm, hdn, evLen, V.refs, oneOr, finV, finA, finC]
    · simp (disch := first | decide | omega | (simp only [LN]; omega) | (simp only [LN]; done) | fail) only [SV, f6, e, Nat.zero_add, Nat.reduceAdd, Bool.and_self, beq_self_eq_true, Nat.reduceBEq, Bool.not_true, Bool.and_false, Bool.false_and, e9, V.new, V.new1, D.flat, Bool.or_true, Bool.false_eq_true, if_false, V.own, V.own1, Bool.or_self, V.flatV, V.flat1, view, viewD, e15, evBin, intBin, decide_false, if_true, Int.reduceEq, htm, hdn, evLen, decide_true, V.refs, oneOr, finV, finA, finC]
  · have a13 := h13 a (by omega)
    have b13 := h13 b (by omega)
    by_cases ga : ∃ l, lexV a = .tup [.d true (.sl 4 (List.map eTok l)), .d false .nilif]
    · by_cases gb2 : ∃ m, lexV b = .tup [.d true (.sl 4 (List.map eTok m)), .d false .nilif]
      · have sa : ∃ l, lexS a 0 0 = .ok l := by
          cases hx : lexS a 0 0 with
          | ok l => exact ⟨l, rfl⟩
          | bad e i =>
            obtain ⟨l, hl⟩ := ga
            unfold lexV at hl
            rw [if_neg (by omega), hx] at hl
            simp [errD] at hl
        have sb : ∃ l, lexS b 0 0 = .ok l := by
          cases hx : lexS b 0 0 with
          | ok l => exact ⟨l, rfl⟩
          | bad e i =>
            obtain ⟨l, hl⟩ := gb2
            unfold lexV at hl
            rw [if_neg (by omega), hx] at hl
            simp [errD] at hl
        obtain ⟨l, hl⟩ := sa
        obtain ⟨m, hm⟩ := sb
        clear ga gb2
        rw [lexV_ok (by omega) hl] at a13
        rw [lexV_ok (by omega) hm] at b13
        have w1 := sk_wrap K a b p l m dn hdn2 (by omega) dn 0 (by omega)
        have w2 := sk_line K a b p (wrapC p dn) l m (by omega) p 0 [45, 45] rfl (by omega) (by simp)
        rw [Int.natCast_zero] at w1 w2
        simp only [wrapC] at w1
        have hwl := wrapC_len p dn
        have hll := lineC_len p
        obtain ⟨d', hd'⟩ : ∃ d', dn = d' + 1 := ⟨dn - 1, by omega⟩
        have s1 := skip_join (w := wrapC p dn) (by omega) hl hm (by rw [hd']; exact comment_skip hpl d' b)
        have s2 := skip_join (w := 45 :: 45 :: lineC p ++ [10]) (by omega) hl hm (by
          intro i k
          have := line_skip p b i k
          simp only [List.length_append, List.length_cons, List.length_nil, List.append_assoc, List.cons_append, List.nil_append] at this ⊢
          rw [this]
          congr 1)
        have x1 := h13 (a ++ [10] ++ wrapC p dn ++ b) (by simp only [List.length_append, List.length_singleton]; omega)
        rw [lexV_ok (l := l ++ m.map (mvT (a.length + 1 + (wrapC p dn).length))) (by simp only [List.length_append, List.length_singleton]; omega) (by rw [← s1]; simp)] at x1
        have x2 := h13 (a ++ [10] ++ ([45, 45] ++ lineC p) ++ [10] ++ b) (by simp only [List.length_append, List.length_cons, List.length_nil]; omega)
        have t2 : lexS (a ++ [10] ++ ([45, 45] ++ lineC p) ++ [10] ++ b) 0 0 = .ok (l ++ m.map (mvT (a.length + 2 + ([45, 45] ++ lineC p).length))) := by
          have e1 : a ++ [10] ++ ([45, 45] ++ lineC p) ++ [10] ++ b = a ++ 10 :: (45 :: 45 :: lineC p ++ [10] ++ b) := by simp
          have e2 : a.length + 1 + (45 :: 45 :: lineC p ++ [10]).length = a.length + 2 + ([45, 45] ++ lineC p).length := by simp only [List.length_append, List.length_cons, List.length_nil]; omega
          rw [e1, s2, e2]
        rw [lexV_ok (by simp only [List.length_append, List.length_cons, List.length_nil]; omega) t2] at x2
        clear t2
        have hln : ([45, 45] ++ lineC p).length = (lineC p).length + 2 := by simp only [List.length_append, List.length_cons, List.length_nil]; omega
        generalize [45, 45] ++ lineC p = ln at w2 x2 hln
        generalize wrapC p dn = w at w1 w2 hwl x1 s1
        clear s1 s2
        have la := lex_at _ a rfl 0 0 l hl
        have lb := lex_at _ b rfl 0 0 m hm
        have lca := lex_count _ a rfl 0 0 l hl
        have lcb := lex_count _ b rfl 0 0 m hm
        have la' : ∀ t ∈ l, 0 ≤ t.at_ ∧ t.at_ ≤ 2000000 := fun t ht => by have := la t ht; omega
        have lb' : ∀ t ∈ m, 0 ≤ t.at_ ∧ t.at_ ≤ 2000000 := fun t ht => by have := lb t ht; omega
        have y0 := h16 l 0 (by omega) (by omega) la'
        rw [mv0, Int.natCast_zero] at y0
        have y1 := h16 m (a.length + 1 + w.length) (by omega) (by omega) lb'
        have y2 := h16 m (a.length + 2 + ln.length) (by omega) (by omega) lb'
        rw [show ((a.length + 1 + w.length : Nat) : Int) = (a.length : Int) + 1 + (w.length : Int) from by omega] at y1
        rw [show ((a.length + 2 + ln.length : Nat) : Int) = (a.length : Int) + 2 + (ln.length : Int) from by omega] at y2
        have v1 := h12 (l ++ m.map (mvT (a.length + 1 + w.length))) (l ++ m.map (mvT (a.length + 1 + w.length))) (by simp; omega) (by simp; omega)
        have v2 := h12 (l ++ m.map (mvT (a.length + 2 + ln.length))) (l ++ m.map (mvT (a.length + 2 + ln.length))) (by simp; omega) (by simp; omega)
        simp only [decide_true] at v1 v2
        have ml1 : (m.map (mvT (a.length + 1 + w.length))).length = m.length := by simp
        have ml2 : (m.map (mvT (a.length + 2 + ln.length))).length = m.length := by simp
        clear la lb la' lb' hl hm hpl h9 h15 h13 h16 h12
        by_cases gl : l = []
        · by_cases gm : m = []
          · subst gl gm
            simp only [slT, List.map_nil, outN, newsN, List.append_nil, List.nil_append] at *
            refine key _ (fun g e => ?_) (fun g e => ?_) <;> clear key hd0
            · simp (disch := first | decide | omega | (simp only [LN]; omega) | (simp only [LN]; done) | fail) only [SV, f6, Nat.zero_add, Nat.reduceAdd, Bool.and_self, beq_self_eq_true, Nat.reduceBEq, Bool.not_true, Bool.and_false, Bool.false_and, e9, V.new, V.new1, D.flat, Bool.or_true, Bool.false_eq_true, if_false, V.own, V.own1, Bool.or_self, V.flatV, V.flat1, view, viewD, e15, evBin, intBin, decide_true, if_true, evUn, e, Int.reduceEq, htm, hdn, evLen, decide_false, a13, Bool.or_false, evExt, List.getElem?_cons_zero, List.getElem?_cons_succ, b13, e_nilif, evEqs, cellsEq, cellEq, V.isNilI, V.refs, w1, w2, strBin, List.length_append, x1, x2, y0, Bool.not_false, V.new2, V.newR, V.shift, Nat.add_zero, y1, rows_fs0, lose, y2, Bool.and_true, Nat.le_refl, v1, oneOr, finV, finA, finC]
            · simp (disch := first | decide | omega | (simp only [LN]; omega) | (simp only [LN]; done) | fail) only [SV, f6, e, Nat.zero_add, Nat.reduceAdd, Bool.and_self, beq_self_eq_true, Nat.reduceBEq, Bool.not_true, Bool.and_false, Bool.false_and, e9, V.new, V.new1, D.flat, Bool.or_true, Bool.false_eq_true, if_false, V.own, V.own1, Bool.or_self, V.flatV, V.flat1, view, viewD, e15, evBin, intBin, decide_false, if_true, Int.reduceEq, htm, hdn, evLen, a13, Bool.or_false, evExt, List.getElem?_cons_zero, List.getElem?_cons_succ, b13, evUn, e_nilif, evEqs, cellsEq, cellEq, V.isNilI, V.refs, decide_true, w1, w2, strBin, List.length_append, x1, x2, y0, Bool.not_false, V.new2, V.newR, V.shift, Nat.add_zero, y1, rows_fs0, lose, y2, Bool.and_true, Nat.le_refl, v1, oneOr, finV, finA, finC]
          · subst gl
            have n1 : m.map (mvT (a.length + 1 + w.length)) ≠ [] := by simpa using gm
            have n2 : m.map (mvT (a.length + 2 + ln.length)) ≠ [] := by simpa using gm
            rw [(outN_ne n1).1, (outN_ne n1).2] at y1
            rw [(outN_ne n2).1, (outN_ne n2).2] at y2
            generalize m.map (mvT (a.length + 1 + w.length)) = m1 at *
            generalize m.map (mvT (a.length + 2 + ln.length)) = m2 at *
            simp only [slT, List.map_nil, outN, newsN, List.append_nil, List.nil_append] at *
            clear n1 n2 gm
            refine key _ (fun g e => ?_) (fun g e => ?_) <;> clear key hd0
            · simp (disch := first | decide | omega | (simp only [LN]; omega) | (simp only [LN]; done) | fail) only [SV, f6, Nat.zero_add, Nat.reduceAdd, Bool.and_self, beq_self_eq_true, Nat.reduceBEq, Bool.not_true, Bool.and_false, Bool.false_and, e9, V.new, V.new1, D.flat, Bool.or_true, Bool.false_eq_true, if_false, V.own, V.own1, Bool.or_self, V.flatV, V.flat1, view, viewD, e15, evBin, intBin, decide_true, if_true, evUn, e, Int.reduceEq, htm, hdn, evLen, decide_false, a13, Bool.or_false, evExt, List.getElem?_cons_zero, List.getElem?_cons_succ, b13, e_nilif, evEqs, cellsEq, cellEq, V.isNilI, V.refs, w1, w2, strBin, List.length_append, x1, x2, y0, Bool.not_false, V.new2, V.newR, V.shift, Nat.add_zero, y1, Nat.le_refl, Bool.true_or, lose, y2, Bool.and_true, v1, v2, oneOr, finV, finA, finC]
            · simp (disch := first | decide | omega | (simp only [LN]; omega) | (simp only [LN]; done) | fail) only [SV, f6, e, Nat.zero_add, Nat.reduceAdd, Bool.and_self, beq_self_eq_true, Nat.reduceBEq, Bool.not_true, Bool.and_false, Bool.false_and, e9, V.new, V.new1, D.flat, Bool.or_true, Bool.false_eq_true, if_false, V.own, V.own1, Bool.or_self, V.flatV, V.flat1, view, viewD, e15, evBin, intBin, decide_false, if_true, Int.reduceEq, htm, hdn, evLen, a13, Bool.or_false, evExt, List.getElem?_cons_zero, List.getElem?_cons_succ, b13, evUn, e_nilif, evEqs, cellsEq, cellEq, V.isNilI, V.refs, decide_true, w1, w2, strBin, List.length_append, x1, x2, y0, Bool.not_false, V.new2, V.newR, V.shift, Nat.add_zero, y1, Nat.le_refl, Bool.true_or, lose, y2, Bool.and_true, v1, v2, oneOr, finV, finA, finC]
        · rw [(outN_ne gl).1, (outN_ne gl).2] at y0
          by_cases gm : m = []
          · subst gm
            simp only [slT, List.map_nil, outN, newsN, List.append_nil, List.nil_append] at *
            clear gl
            refine key _ (fun g e => ?_) (fun g e => ?_) <;> clear key hd0
            · simp (disch := first | decide | omega | (simp only [LN]; omega) | (simp only [LN]; done) | fail) only [SV, f6, Nat.zero_add, Nat.reduceAdd, Bool.and_self, beq_self_eq_true, Nat.reduceBEq, Bool.not_true, Bool.and_false, Bool.false_and, e9, V.new, V.new1, D.flat, Bool.or_true, Bool.false_eq_true, if_false, V.own, V.own1, Bool.or_self, V.flatV, V.flat1, view, viewD, e15, evBin, intBin, decide_true, if_true, evUn, e, Int.reduceEq, htm, hdn, evLen, decide_false, a13, Bool.or_false, evExt, List.getElem?_cons_zero, List.getElem?_cons_succ, b13, e_nilif, evEqs, cellsEq, cellEq, V.isNilI, V.refs, w1, w2, strBin, List.length_append, x1, x2, y0, Bool.not_false, V.new2, V.newR, V.shift, Nat.add_zero, y1, rows_fs0, lose, V.forget, V.drop1, beq_iff_eq, V.ref0, y2, reduceCtorEq, Bool.and_true, Nat.le_refl, v1, oneOr, finV, finA, finC]
            · simp (disch := first | decide | omega | (simp only [LN]; omega) | (simp only [LN]; done) | fail) only [SV, f6, e, Nat.zero_add, Nat.reduceAdd, Bool.and_self, beq_self_eq_true, Nat.reduceBEq, Bool.not_true, Bool.and_false, Bool.false_and, e9, V.new, V.new1, D.flat, Bool.or_true, Bool.false_eq_true, if_false, V.own, V.own1, Bool.or_self, V.flatV, V.flat1, view, viewD, e15, evBin, intBin, decide_false, if_true, Int.reduceEq, htm, hdn, evLen, a13, Bool.or_false, evExt, List.getElem?_cons_zero, List.getElem?_cons_succ, b13, evUn, e_nilif, evEqs, cellsEq, cellEq, V.isNilI, V.refs, decide_true, w1, w2, strBin, List.length_append, x1, x2, y0, Bool.not_false, V.new2, V.newR, V.shift, Nat.add_zero, y1, rows_fs0, lose, V.forget, V.drop1, beq_iff_eq, V.ref0, y2, reduceCtorEq, Bool.and_true, Nat.le_refl, v1, oneOr, finV, finA, finC]
          · have n1 : m.map (mvT (a.length + 1 + w.length)) ≠ [] := by simpa using gm
            have n2 : m.map (mvT (a.length + 2 + ln.length)) ≠ [] := by simpa using gm
            rw [(outN_ne n1).1, (outN_ne n1).2] at y1
            rw [(outN_ne n2).1, (outN_ne n2).2] at y2
            generalize m.map (mvT (a.length + 1 + w.length)) = m1 at *
            generalize m.map (mvT (a.length + 2 + ln.length)) = m2 at *
            clear n1 n2 gm gl
            refine key _ (fun g e => ?_) (fun g e => ?_) <;> clear key hd0
            · simp (disch := first | decide | omega | (simp only [LN]; omega) | (simp only [LN]; done) | fail) only [SV, f6, Nat.zero_add, Nat.reduceAdd, Bool.and_self, beq_self_eq_true, Nat.reduceBEq, Bool.not_true, Bool.and_false, Bool.false_and, e9, V.new, V.new1, D.flat, Bool.or_true, Bool.false_eq_true, if_false, V.own, V.own1, Bool.or_self, V.flatV, V.flat1, view, viewD, e15, evBin, intBin, decide_true, if_true, evUn, e, Int.reduceEq, htm, hdn, evLen, decide_false, a13, Bool.or_false, evExt, List.getElem?_cons_zero, List.getElem?_cons_succ, b13, e_nilif, evEqs, cellsEq, cellEq, V.isNilI, V.refs, w1, w2, strBin, List.length_append, x1, x2, y0, Bool.not_false, V.new2, V.newR, V.shift, Nat.add_zero, y1, Nat.le_refl, Bool.true_or, fTokA, lose, V.forget, V.drop1, beq_iff_eq, V.ref0, y2, reduceCtorEq, Bool.and_true, v1, v2, oneOr, finV, finA, finC]
            · simp (disch := first | decide | omega | (simp only [LN]; omega) | (simp only [LN]; done) | fail) only [SV, f6, e, Nat.zero_add, Nat.reduceAdd, Bool.and_self, beq_self_eq_true, Nat.reduceBEq, Bool.not_true, Bool.and_false, Bool.false_and, e9, V.new, V.new1, D.flat, Bool.or_true, Bool.false_eq_true, if_false, V.own, V.own1, Bool.or_self, V.flatV, V.flat1, view, viewD, e15, evBin, intBin, decide_false, if_true, Int.reduceEq, htm, hdn, evLen, a13, Bool.or_false, evExt, List.getElem?_cons_zero, List.getElem?_cons_succ, b13, evUn, e_nilif, evEqs, cellsEq, cellEq, V.isNilI, V.refs, decide_true, w1, w2, strBin, List.length_append, x1, x2, y0, Bool.not_false, V.new2, V.newR, V.shift, Nat.add_zero, y1, Nat.le_refl, Bool.true_or, fTokA, lose, V.forget, V.drop1, beq_iff_eq, V.ref0, y2, reduceCtorEq, Bool.and_true, v1, v2, oneOr, finV, finA, finC]
      · obtain ⟨e1, e2, hbad⟩ := lexV_bad (fun l h => gb2 ⟨l, h⟩)
        obtain ⟨l, hl⟩ := ga
        rw [hbad] at b13
        rw [hl] at a13
        unfold errD at b13
        clear gb2 hpl
        refine key _ (fun g e => ?_) (fun g e => ?_) <;> clear key hd0
        · simp (disch := first | decide | omega | (simp only [LN]; omega) | (simp only [LN]; done) | fail) only [SV, f6, Nat.zero_add, Nat.reduceAdd, Bool.and_self, beq_self_eq_true, Nat.reduceBEq, Bool.not_true, Bool.and_false, Bool.false_and, e9, V.new, V.new1, D.flat, Bool.or_true, Bool.false_eq_true, if_false, V.own, V.own1, Bool.or_self, V.flatV, V.flat1, view, viewD, e15, evBin, intBin, decide_true, if_true, evUn, e, Int.reduceEq, htm, hdn, evLen, decide_false, a13, Bool.or_false, evExt, List.getElem?_cons_zero, List.getElem?_cons_succ, b13, Bool.and_true, Bool.not_false, e_nilif, evEqs, cellsEq, cellEq, V.isNilI, V.refs, oneOr, finV, finA, finC]
        · simp (disch := first | decide | omega | (simp only [LN]; omega) | (simp only [LN]; done) | fail) only [SV, f6, e, Nat.zero_add, Nat.reduceAdd, Bool.and_self, beq_self_eq_true, Nat.reduceBEq, Bool.not_true, Bool.and_false, Bool.false_and, e9, V.new, V.new1, D.flat, Bool.or_true, Bool.false_eq_true, if_false, V.own, V.own1, Bool.or_self, V.flatV, V.flat1, view, viewD, e15, evBin, intBin, decide_false, if_true, Int.reduceEq, htm, hdn, evLen, a13, Bool.or_false, evExt, List.getElem?_cons_zero, List.getElem?_cons_succ, b13, Bool.and_true, Bool.not_false, evUn, e_nilif, evEqs, cellsEq, cellEq, V.isNilI, V.refs, decide_true, oneOr, finV, finA, finC]
    · obtain ⟨e1, e2, hbad⟩ := lexV_bad (fun l h => ga ⟨l, h⟩)
      rw [hbad] at a13
      unfold errD at a13
      clear ga hpl
      cases hzb : lexV b with
      | tup vs =>
        have : (∃ l : List Tok, lexV b = .tup [.d true (.sl 4 (l.map eTok)), .d false .nilif]) ∨ (∃ e1 e2, lexV b = errD e1 e2) := by
          by_cases h : ∃ l : List Tok, lexV b = .tup [.d true (.sl 4 (l.map eTok)), .d false .nilif]
          · exact Or.inl h
          · exact Or.inr (lexV_bad (fun l h' => h ⟨l, h'⟩))
        rcases this with ⟨m, hm⟩ | ⟨e3, e4, hm⟩
        · rw [hm] at b13
          clear hzb hm
          refine key _ (fun g e => ?_) (fun g e => ?_) <;> clear key hd0
          · simp (disch := first | decide | omega | (simp only [LN]; omega) | (simp only [LN]; done) | fail) only [SV, f6, Nat.zero_add, Nat.reduceAdd, Bool.and_self, beq_self_eq_true, Nat.reduceBEq, Bool.not_true, Bool.and_false, Bool.false_and, e9, V.new, V.new1, D.flat, Bool.or_true, Bool.false_eq_true, if_false, V.own, V.own1, Bool.or_self, V.flatV, V.flat1, view, viewD, e15, evBin, intBin, decide_true, if_true, evUn, e, Int.reduceEq, htm, hdn, evLen, decide_false, a13, Bool.or_false, Bool.and_true, Bool.not_false, evExt, List.getElem?_cons_zero, List.getElem?_cons_succ, b13, e_nilif, evEqs, cellsEq, cellEq, V.isNilI, V.refs, oneOr, finV, finA, finC]
          · simp (disch := first | decide | omega | (simp only [LN]; omega) | (simp only [LN]; done) | fail) only [SV, f6, e, Nat.zero_add, Nat.reduceAdd, Bool.and_self, beq_self_eq_true, Nat.reduceBEq, Bool.not_true, Bool.and_false, Bool.false_and, e9, V.new, V.new1, D.flat, Bool.or_true, Bool.false_eq_true, if_false, V.own, V.own1, Bool.or_self, V.flatV, V.flat1, view, viewD, e15, evBin, intBin, decide_false, if_true, Int.reduceEq, htm, hdn, evLen, a13, Bool.or_false, Bool.and_true, Bool.not_false, evExt, List.getElem?_cons_zero, List.getElem?_cons_succ, b13, evUn, e_nilif, evEqs, cellsEq, cellEq, V.isNilI, V.refs, decide_true, oneOr, finV, finA, finC]
        · rw [hm] at b13
          unfold errD at b13
          clear hzb hm
          refine key _ (fun g e => ?_) (fun g e => ?_) <;> clear key hd0
          · simp (disch := first | decide | omega | (simp only [LN]; omega) | (simp only [LN]; done) | fail) only [SV, f6, Nat.zero_add, Nat.reduceAdd, Bool.and_self, beq_self_eq_true, Nat.reduceBEq, Bool.not_true, Bool.and_false, Bool.false_and, e9, V.new, V.new1, D.flat, Bool.or_true, Bool.false_eq_true, if_false, V.own, V.own1, Bool.or_self, V.flatV, V.flat1, view, viewD, e15, evBin, intBin, decide_true, if_true, evUn, e, Int.reduceEq, htm, hdn, evLen, decide_false, a13, Bool.or_false, Bool.and_true, Bool.not_false, evExt, List.getElem?_cons_zero, List.getElem?_cons_succ, b13, e_nilif, evEqs, cellsEq, cellEq, V.isNilI, V.refs, oneOr, finV, finA, finC]
          · simp (disch := first | decide | omega | (simp only [LN]; omega) | (simp only [LN]; done) | fail) only [SV, f6, e, Nat.zero_add, Nat.reduceAdd, Bool.and_self, beq_self_eq_true, Nat.reduceBEq, Bool.not_true, Bool.and_false, Bool.false_and, e9, V.new, V.new1, D.flat, Bool.or_true, Bool.false_eq_true, if_false, V.own, V.own1, Bool.or_self, V.flatV, V.flat1, view, viewD, e15, evBin, intBin, decide_false, if_true, Int.reduceEq, htm, hdn, evLen, a13, Bool.or_false, Bool.and_true, Bool.not_false, evExt, List.getElem?_cons_zero, List.getElem?_cons_succ, b13, evUn, e_nilif, evEqs, cellsEq, cellEq, V.isNilI, V.refs, decide_true, oneOr, finV, finA, finC]
      | _ =>
        exfalso
        unfold lexV errD at hzb
        split at hzb
        · cases hzb
        · split at hzb <;> cases hzb
end Go.Vm
end

section
namespace Go.Vm
open Go.RowKit Go.Shelf Go.Proofs Go.Sort

def GT : Nat → Option (List D)
  | 0 => some (clTab.map fun n => .int .u8 (n : Nat))
  | 2 => some (Lib.pow10Tab.map fun z => .int .u64 z)
  | _ => none

theorem gP10 : Tryd.prog.globalNamed "internal/strconv.uint64pow10" = some 2 := by kernel_rfl

theorem repD_int {w : World} {F : Nat → Prop} {v : Value} {k : IntKind} {n : Int} (h : RepD w F v (.int k n)) : v = .int k n := by
  cases h with | int k n => rfl

theorem tab_of_glob {w : World} {F : Nat → Prop} (h : GlobRel w F GT) : Lib.TabIs Tryd.prog w "internal/strconv.uint64pow10" .u64 Lib.pow10Tab := by
  obtain ⟨h1, cs, t, fz, h2, h3⟩ := h 2 _ rfl
  unfold Lib.TabIs World.var?
  rw [gP10]
  show (match w.heap[2]? with | some (.cells cs _ _) => some cs | _ => none) = _
  rw [h2]
  show some cs = _
  congr 1
  apply Array.ext
  · rw [h3]; simp
  · intro j hj1 hj2
    cases h1 with
    | ptr b o cells g hf hc hr =>
      have hj : j < Lib.pow10Tab.length := by simpa using hj2
      have e : (Lib.pow10Tab.map fun z => D.int .u64 z)[j]? = some (.int .u64 Lib.pow10Tab[j]) := by simp [hj]
      have hv := hr j _ e
      have hg := repD_int hv
      have hcell := hc j _ e
      rw [hg, Nat.zero_add] at hcell
      have : w.cell? ⟨2, j, none⟩ = some cs[j] := by
        rw [Lib.cell_of_heap h2]
        simp [hj1]
      rw [this] at hcell
      simpa using Option.some.inj hcell

theorem nothing_new {w : World} {F : Nat → Prop} {base : Nat} (hF : ∀ b, F b → b < w.heap.size) : HeapRel w F (fun _ _ => False) base (fun _ => none) 0 (indexed []) :=
  ⟨fun b blk h => absurd (show look [] b = some blk from h) (by simp [look]), fun b b' l l' h => (by cases h), fun b l h => (by cases h), hF⟩

def hexd : BS := [48, 49, 50, 51, 52, 53, 54, 55, 56, 57, 97, 98, 99, 100, 101, 102]
theorem ix_hex : ∀ c : UInt8, Lib.indexByte hexd c = hexB c := u8all (by decide +kernel)

theorem pure_index (c : UInt8) : PureCall Tryd.prog GT 85 [vS hexd, .d false (.int .u8 c.toNat)] (vI (hexB c)) [] := by
  intro w F vals hF hG hR
  obtain ⟨hsz, hval⟩ := hR
  obtain ⟨l⟩ := vals
  match l, hsz, hval with
  | [v0, v1], hsz, hval =>
    obtain ⟨t, e0, e0'⟩ := (hval 0 v0 (vS hexd) rfl rfl).str_inv
    have e1 := (hval 1 v1 (.d false (.int .u8 c.toNat)) rfl rfl).int_inv
    subst e0; subst e1
    refine (Tryd.strings_IndexByte t c.toNat w).mono ?_
    rintro e w' ⟨rfl, rfl⟩
    refine ⟨_, F, fun _ => none, rfl, .refl _ _, fun b h => .inl h, ?_, nothing_new hF⟩
    have : (c.toNat : Int).toNat.toUInt8 = c := by simp
    rw [← e0', this, ix_hex]
    exact .d _ _ _ (.int _ _)
  | [], hsz, _ => simp at hsz
  | [_], hsz, _ => simp at hsz
  | _ :: _ :: _ :: _, hsz, _ => simp at hsz

theorem pure_itoa (n : Int) (h0 : -9223372036854775808 ≤ n) (h1 : n ≤ 9223372036854775807) : PureCall Tryd.prog GT 38 [vI n] (vS (Lib.itoa n)) [] := by
  intro w F vals hF hG hR
  obtain ⟨hsz, hval⟩ := hR
  obtain ⟨l⟩ := vals
  match l, hsz, hval with
  | [v0], hsz, hval =>
    have e0 := (hval 0 v0 (vI n) rfl rfl).int_inv
    subst e0
    refine (Tryd.strconv_Itoa n h0 h1 w (tab_of_glob hG)).mono ?_
    rintro e w' ⟨rfl, k, os, rfl⟩
    have hsz : (grow (w.drewN k) os).heap.size = w.heap.size + os.size := by
      show ((w.drewN k).heap ++ os).size = _
      simp
    refine ⟨_, F, fun _ => none, rfl, ⟨rfl, rfl, rfl, by rw [hsz]; omega, fun j hj => ?_⟩, fun b h => .inl h, ?_, nothing_new (fun b h => by rw [hsz]; have := hF b h; omega)⟩
    · show ((w.drewN k).heap ++ os)[j]? = _
      rw [Array.getElem?_append_left (by simpa using hj)]
      simp
    · exact .d _ _ _ (.str ⟨(Lib.itoa n).toArray⟩)
  | [], hsz, _ => simp at hsz
  | _ :: _ :: _, hsz, _ => simp at hsz
end Go.Vm
end

section
namespace Go.Vm
open Go.Shelf Go.Proofs

theorem eTok_inj (a b : Tok) (h : eTok a = eTok b) : a = b := by
  cases a; cases b
  simp only [eTok, List.cons.injEq, D.int.injEq, D.str.injEq, true_and, and_true] at h
  simp only [Tok.mk.injEq]
  exact h
theorem mapT_inj : ∀ l l' : List Tok, l.map eTok = l'.map eTok → l = l'
  | [], [], _ => rfl
  | [], _ :: _, h => by simp at h
  | _ :: _, [], h => by simp at h
  | a :: l, b :: l', h => by
    simp only [List.map_cons, List.cons.injEq] at h
    rw [eTok_inj a b h.1, mapT_inj l l' h.2]
theorem mT (l l' : List Tok) : l.map eTok = l'.map eTok ↔ l = l' := ⟨mapT_inj l l', fun h => by rw [h]⟩
theorem vT_inj (t u : Tok) : vT t = vT u ↔ t = u := by
  constructor
  · intro h
    cases t; cases u
    simp only [vT, V.agg.injEq, List.cons.injEq, V.d.injEq, D.int.injEq, D.str.injEq, true_and, and_true] at h
    simp only [Tok.mk.injEq]
    exact h
  · intro h; rw [h]
theorem lexV_ease (s : BS) : (lexV0 s).ease = lexV s := by
  unfold lexV0 lexV
  split
  · rfl
  · split
    · rename_i h; rw [h]; rfl
    · rename_i h; rw [h]; rfl
    · rename_i h; rw [h]; rfl

noncomputable def z85 : Sp where
  α := UInt8
  f := 85
  ok := fun c => True
  args := fun c => [vS hexd, .d false (.int .u8 (c : UInt8).toNat)]
  res := fun c => (vI (hexB c), [])
  inj := by
    rintro c c' _ _ h
    simp only [vS, vI, slT, vT_inj, List.cons.injEq, V.agg.injEq, V.d.injEq, D.sl.injEq, D.int.injEq, D.str.injEq, D.ptr.injEq, Int.natCast_inj, UInt8.toNat_inj, mT, true_and, and_true] at h
    rw [h]
noncomputable def z38 : Sp where
  α := Int
  f := 38
  ok := fun n => (-9223372036854775808 ≤ n) ∧ (n ≤ 9223372036854775807)
  args := fun n => [vI n]
  res := fun n => (vS (Lib.itoa n), [])
  inj := by
    rintro n n' _ _ h
    simp only [vS, vI, slT, vT_inj, List.cons.injEq, V.agg.injEq, V.d.injEq, D.sl.injEq, D.int.injEq, D.str.injEq, D.ptr.injEq, Int.natCast_inj, UInt8.toNat_inj, mT, true_and, and_true] at h
    rw [h]
noncomputable def z27 : Sp where
  α := BS × Nat
  f := 27
  ok := fun (s, i) => (i ≤ s.length)
  args := fun (s, i) => [vS s, vI i]
  res := fun (s, i) => (.d false (.int .u8 (cls (s.drop i))), [])
  inj := by
    rintro ⟨s, i⟩ ⟨s', i'⟩ _ _ h
    simp only [vS, vI, slT, vT_inj, List.cons.injEq, V.agg.injEq, V.d.injEq, D.sl.injEq, D.int.injEq, D.str.injEq, D.ptr.injEq, Int.natCast_inj, UInt8.toNat_inj, mT, true_and, and_true] at h
    simp only [h]
noncomputable def z30 : Sp where
  α := BS × Nat × Nat
  f := 30
  ok := fun (s, i, k) => (i ≤ s.length) ∧ (s.length ≤ 2000000) ∧ (k ≠ 0)
  args := fun (s, i, k) => [vS s, vI i, .d false (.int .u8 k)]
  res := fun (s, i, k) => (vI ((i + runL k (s.drop i) : Nat)), [])
  inj := by
    rintro ⟨s, i, k⟩ ⟨s', i', k'⟩ _ _ h
    simp only [vS, vI, slT, vT_inj, List.cons.injEq, V.agg.injEq, V.d.injEq, D.sl.injEq, D.int.injEq, D.str.injEq, D.ptr.injEq, Int.natCast_inj, UInt8.toNat_inj, mT, true_and, and_true] at h
    simp only [h]
noncomputable def z48 : Sp where
  α := BS × Nat
  f := 48
  ok := fun (s, i) => (i ≤ s.length)
  args := fun (s, i) => [vS s, vI i]
  res := fun (s, i) => (.d false (.bool (inNm (s.drop i))), [])
  inj := by
    rintro ⟨s, i⟩ ⟨s', i'⟩ _ _ h
    simp only [vS, vI, slT, vT_inj, List.cons.injEq, V.agg.injEq, V.d.injEq, D.sl.injEq, D.int.injEq, D.str.injEq, D.ptr.injEq, Int.natCast_inj, UInt8.toNat_inj, mT, true_and, and_true] at h
    simp only [h]
noncomputable def z42 : Sp where
  α := BS × Nat
  f := 42
  ok := fun (s, i) => (i ≤ s.length) ∧ (s.length ≤ 2000000)
  args := fun (s, i) => [vS s, vI i]
  res := fun (s, i) => (vI ((i + nameL (s.drop i) : Nat)), [])
  inj := by
    rintro ⟨s, i⟩ ⟨s', i'⟩ _ _ h
    simp only [vS, vI, slT, vT_inj, List.cons.injEq, V.agg.injEq, V.d.injEq, D.sl.injEq, D.int.injEq, D.str.injEq, D.ptr.injEq, Int.natCast_inj, UInt8.toNat_inj, mT, true_and, and_true] at h
    simp only [h]
noncomputable def z40 : Sp where
  α := BS × BS
  f := 40
  ok := fun (p, s) => (s.length ≤ 2000000) ∧ (p.length ≤ 2000000)
  args := fun (p, s) => [vS s, vS p]
  res := fun (p, s) => (.d false (.bool (pre p s)), [])
  inj := by
    rintro ⟨p, s⟩ ⟨p', s'⟩ _ _ h
    simp only [vS, vI, slT, vT_inj, List.cons.injEq, V.agg.injEq, V.d.injEq, D.sl.injEq, D.int.injEq, D.str.injEq, D.ptr.injEq, Int.natCast_inj, UInt8.toNat_inj, mT, true_and, and_true] at h
    simp only [h]
noncomputable def z28 : Sp where
  α := BS × BS
  f := 28
  ok := fun (p, s) => (s.length ≤ 2000000) ∧ (p.length ≤ 2000000)
  args := fun (p, s) => [vS s, vS p]
  res := fun (p, s) => (.d false (.bool (pre p s)), [])
  inj := by
    rintro ⟨p, s⟩ ⟨p', s'⟩ _ _ h
    simp only [vS, vI, slT, vT_inj, List.cons.injEq, V.agg.injEq, V.d.injEq, D.sl.injEq, D.int.injEq, D.str.injEq, D.ptr.injEq, Int.natCast_inj, UInt8.toNat_inj, mT, true_and, and_true] at h
    simp only [h]
noncomputable def z43 : Sp where
  α := BS
  f := 43
  ok := fun s => True
  args := fun s => [vS s]
  res := fun s => (.d false (.bool (resv s)), [])
  inj := by
    rintro s s' _ _ h
    simp only [vS, vI, slT, vT_inj, List.cons.injEq, V.agg.injEq, V.d.injEq, D.sl.injEq, D.int.injEq, D.str.injEq, D.ptr.injEq, Int.natCast_inj, UInt8.toNat_inj, mT, true_and, and_true] at h
    rw [h]
noncomputable def z46 : Sp where
  α := BS
  f := 46
  ok := fun s => True
  args := fun s => [vS s]
  res := fun s => (.d false (.bool (isSg s)), [])
  inj := by
    rintro s s' _ _ h
    simp only [vS, vI, slT, vT_inj, List.cons.injEq, V.agg.injEq, V.d.injEq, D.sl.injEq, D.int.injEq, D.str.injEq, D.ptr.injEq, Int.natCast_inj, UInt8.toNat_inj, mT, true_and, and_true] at h
    rw [h]
noncomputable def z61 : Sp where
  α := BS × UInt8
  f := 61
  ok := fun (s, c) => (s.length ≤ 2000000)
  args := fun (s, c) => [vS s, .d false (.int .u8 (c : UInt8).toNat)]
  res := fun (s, c) => (vS (trL c s), [])
  inj := by
    rintro ⟨s, c⟩ ⟨s', c'⟩ _ _ h
    simp only [vS, vI, slT, vT_inj, List.cons.injEq, V.agg.injEq, V.d.injEq, D.sl.injEq, D.int.injEq, D.str.injEq, D.ptr.injEq, Int.natCast_inj, UInt8.toNat_inj, mT, true_and, and_true] at h
    simp only [h]
noncomputable def z62 : Sp where
  α := BS × UInt8
  f := 62
  ok := fun (s, c) => (s.length ≤ 2000000)
  args := fun (s, c) => [vS s, .d false (.int .u8 (c : UInt8).toNat)]
  res := fun (s, c) => (vS (trR c s), [])
  inj := by
    rintro ⟨s, c⟩ ⟨s', c'⟩ _ _ h
    simp only [vS, vI, slT, vT_inj, List.cons.injEq, V.agg.injEq, V.d.injEq, D.sl.injEq, D.int.injEq, D.str.injEq, D.ptr.injEq, Int.natCast_inj, UInt8.toNat_inj, mT, true_and, and_true] at h
    simp only [h]
noncomputable def z41 : Sp where
  α := BS
  f := 41
  ok := fun s => (s ≠ []) ∧ (s.length ≤ 2000000)
  args := fun s => [vS s, vS [45]]
  res := fun s => (vS (trL 45 (trR 45 s)), [])
  inj := by
    rintro s s' _ _ h
    simp only [vS, vI, slT, vT_inj, List.cons.injEq, V.agg.injEq, V.d.injEq, D.sl.injEq, D.int.injEq, D.str.injEq, D.ptr.injEq, Int.natCast_inj, UInt8.toNat_inj, mT, true_and, and_true] at h
    rw [h]
noncomputable def z31 : Sp where
  α := BS
  f := 31
  ok := fun s => (s.length ≤ 2000000)
  args := fun s => [vS s]
  res := fun s => (.d false (.bool (dsh s)), [])
  inj := by
    rintro s s' _ _ h
    simp only [vS, vI, slT, vT_inj, List.cons.injEq, V.agg.injEq, V.d.injEq, D.sl.injEq, D.int.injEq, D.str.injEq, D.ptr.injEq, Int.natCast_inj, UInt8.toNat_inj, mT, true_and, and_true] at h
    rw [h]
noncomputable def z29 : Sp where
  α := BS × Nat
  f := 29
  ok := fun (s, i) => (i ≤ s.length) ∧ (s.length ≤ 2000000)
  args := fun (s, i) => [vS s, vI i]
  res := fun (s, i) => (vI (match comL 0 (s.drop i) with | some n => ((i + n : Nat) : Int) | none => -1), [])
  inj := by
    rintro ⟨s, i⟩ ⟨s', i'⟩ _ _ h
    simp only [vS, vI, slT, vT_inj, List.cons.injEq, V.agg.injEq, V.d.injEq, D.sl.injEq, D.int.injEq, D.str.injEq, D.ptr.injEq, Int.natCast_inj, UInt8.toNat_inj, mT, true_and, and_true] at h
    simp only [h]
noncomputable def z68 : Sp where
  α := BS × Nat
  f := 68
  ok := fun (s, i) => (s.length ≤ 2000000)
  args := fun (s, i) => [vS s, vI i]
  res := fun (s, i) => (.d false (.int .u8 (bAt (s.drop i)).toNat), [])
  inj := by
    rintro ⟨s, i⟩ ⟨s', i'⟩ _ _ h
    simp only [vS, vI, slT, vT_inj, List.cons.injEq, V.agg.injEq, V.d.injEq, D.sl.injEq, D.int.injEq, D.str.injEq, D.ptr.injEq, Int.natCast_inj, UInt8.toNat_inj, mT, true_and, and_true] at h
    simp only [h]
noncomputable def z69 : Sp where
  α := BS × Nat
  f := 69
  ok := fun (s, i) => (s.length ≤ 2000000)
  args := fun (s, i) => [vS s, vI i]
  res := fun (s, i) => (vI (hexL (s.drop i)), [])
  inj := by
    rintro ⟨s, i⟩ ⟨s', i'⟩ _ _ h
    simp only [vS, vI, slT, vT_inj, List.cons.injEq, V.agg.injEq, V.d.injEq, D.sl.injEq, D.int.injEq, D.str.injEq, D.ptr.injEq, Int.natCast_inj, UInt8.toNat_inj, mT, true_and, and_true] at h
    simp only [h]
noncomputable def z44 : Sp where
  α := BS × Nat
  f := 44
  ok := fun (s, i) => (i ≤ s.length) ∧ (s.length ≤ 2000000)
  args := fun (s, i) => [vS s, vI i]
  res := fun (s, i) => (.tup [vI (upS (s.drop i)).1, vI ((i + (upS (s.drop i)).2 : Nat))], [])
  inj := by
    rintro ⟨s, i⟩ ⟨s', i'⟩ _ _ h
    simp only [vS, vI, slT, vT_inj, List.cons.injEq, V.agg.injEq, V.d.injEq, D.sl.injEq, D.int.injEq, D.str.injEq, D.ptr.injEq, Int.natCast_inj, UInt8.toNat_inj, mT, true_and, and_true] at h
    simp only [h]
noncomputable def z70 : Sp where
  α := BS × Nat × UInt8
  f := 70
  ok := fun (s, i, q) => (s.length ≤ 2000000) ∧ (i ≤ s.length)
  args := fun (s, i, q) => [vS s, vI i, .d false (.int .u8 (q : UInt8).toNat)]
  res := fun (s, i, q) => (vSound i (soundS (s.drop i) q), [])
  inj := by
    rintro ⟨s, i, q⟩ ⟨s', i', q'⟩ _ _ h
    simp only [vS, vI, slT, vT_inj, List.cons.injEq, V.agg.injEq, V.d.injEq, D.sl.injEq, D.int.injEq, D.str.injEq, D.ptr.injEq, Int.natCast_inj, UInt8.toNat_inj, mT, true_and, and_true] at h
    simp only [h]
noncomputable def z45 : Sp where
  α := BS × Nat
  f := 45
  ok := fun (s, i) => (i < s.length) ∧ (s.length ≤ 2000000)
  args := fun (s, i) => [vS s, vI i]
  res := fun (s, i) => (stV i (numS (s.drop i)), [])
  inj := by
    rintro ⟨s, i⟩ ⟨s', i'⟩ _ _ h
    simp only [vS, vI, slT, vT_inj, List.cons.injEq, V.agg.injEq, V.d.injEq, D.sl.injEq, D.int.injEq, D.str.injEq, D.ptr.injEq, Int.natCast_inj, UInt8.toNat_inj, mT, true_and, and_true] at h
    simp only [h]
noncomputable def z47 : Sp where
  α := BS × Nat
  f := 47
  ok := fun (s, i) => (i < s.length) ∧ (s.length ≤ 2000000) ∧ ((bAt (s.drop i) = 34 ∨ bAt (s.drop i) = 39))
  args := fun (s, i) => [vS s, vI i]
  res := fun (s, i) => (stV i (quotS (s.drop i)), [])
  inj := by
    rintro ⟨s, i⟩ ⟨s', i'⟩ _ _ h
    simp only [vS, vI, slT, vT_inj, List.cons.injEq, V.agg.injEq, V.d.injEq, D.sl.injEq, D.int.injEq, D.str.injEq, D.ptr.injEq, Int.natCast_inj, UInt8.toNat_inj, mT, true_and, and_true] at h
    simp only [h]
noncomputable def z32 : Sp where
  α := BS × Nat
  f := 32
  ok := fun (s, i) => (i < s.length) ∧ (s.length ≤ 2000000)
  args := fun (s, i) => [vS s, vI i]
  res := fun (s, i) => (stV i (tokS (s.drop i)), [])
  inj := by
    rintro ⟨s, i⟩ ⟨s', i'⟩ _ _ h
    simp only [vS, vI, slT, vT_inj, List.cons.injEq, V.agg.injEq, V.d.injEq, D.sl.injEq, D.int.injEq, D.str.injEq, D.ptr.injEq, Int.natCast_inj, UInt8.toNat_inj, mT, true_and, and_true] at h
    simp only [h]
noncomputable def z13 : Sp where
  α := BS
  f := 13
  ok := fun s => (s.length ≤ 2000000)
  args := fun s => [vS s]
  res := fun s => (lexV s, [])
  inj := by
    rintro s s' _ _ h
    simp only [vS, vI, slT, vT_inj, List.cons.injEq, V.agg.injEq, V.d.injEq, D.sl.injEq, D.int.injEq, D.str.injEq, D.ptr.injEq, Int.natCast_inj, UInt8.toNat_inj, mT, true_and, and_true] at h
    rw [h]
noncomputable def z39 : Sp where
  α := BS × UInt8
  f := 39
  ok := fun (s, q) => (s.length ≤ 2000000) ∧ ((q = 39 ∨ q = 34))
  args := fun (s, q) => [vS s, .d false (.int .u8 (q : UInt8).toNat)]
  res := fun (s, q) => (vS (escS s q), [])
  inj := by
    rintro ⟨s, q⟩ ⟨s', q'⟩ _ _ h
    simp only [vS, vI, slT, vT_inj, List.cons.injEq, V.agg.injEq, V.d.injEq, D.sl.injEq, D.int.injEq, D.str.injEq, D.ptr.injEq, Int.natCast_inj, UInt8.toNat_inj, mT, true_and, and_true] at h
    simp only [h]
noncomputable def z25 : Sp where
  α := Tok
  f := 25
  ok := fun t => (TokI t)
  args := fun t => [vT t]
  res := fun t => (vS (writS t), [])
  inj := by
    rintro t t' _ _ h
    simp only [vS, vI, slT, vT_inj, List.cons.injEq, V.agg.injEq, V.d.injEq, D.sl.injEq, D.int.injEq, D.str.injEq, D.ptr.injEq, Int.natCast_inj, UInt8.toNat_inj, mT, true_and, and_true] at h
    rw [h]
noncomputable def z21 : Sp where
  α := Tok
  f := 21
  ok := fun t => (TokI t)
  args := fun t => [vT t]
  res := fun t => (.d false (.bool (escTokS t)), [])
  inj := by
    rintro t t' _ _ h
    simp only [vS, vI, slT, vT_inj, List.cons.injEq, V.agg.injEq, V.d.injEq, D.sl.injEq, D.int.injEq, D.str.injEq, D.ptr.injEq, Int.natCast_inj, UInt8.toNat_inj, mT, true_and, and_true] at h
    rw [h]
noncomputable def z11 : Sp where
  α := List Tok
  f := 11
  ok := fun l => (TokL l)
  args := fun l => [slT l]
  res := fun l => (printV l, [])
  inj := by
    rintro l l' _ _ h
    simp only [vS, vI, slT, vT_inj, List.cons.injEq, V.agg.injEq, V.d.injEq, D.sl.injEq, D.int.injEq, D.str.injEq, D.ptr.injEq, Int.natCast_inj, UInt8.toNat_inj, mT, true_and, and_true] at h
    rw [h]
noncomputable def z12 : Sp where
  α := List Tok × List Tok
  f := 12
  ok := fun (a, b) => (a.length ≤ 4611686018427387903) ∧ (b.length ≤ 4611686018427387903)
  args := fun (a, b) => [slT a, slT b]
  res := fun (a, b) => (.d false (.bool (decide (a = b))), [])
  inj := by
    rintro ⟨a, b⟩ ⟨a', b'⟩ _ _ h
    simp only [vS, vI, slT, vT_inj, List.cons.injEq, V.agg.injEq, V.d.injEq, D.sl.injEq, D.int.injEq, D.str.injEq, D.ptr.injEq, Int.natCast_inj, UInt8.toNat_inj, mT, true_and, and_true] at h
    simp only [h]
noncomputable def z14 : Sp where
  α := List Tok × List Tok
  f := 14
  ok := fun (a, b) => (a.length ≤ 4611686018427387903) ∧ (b.length ≤ 4611686018427387903)
  args := fun (a, b) => [slT a, slT b]
  res := fun (a, b) => (.d false (.bool (likeL a b)), [])
  inj := by
    rintro ⟨a, b⟩ ⟨a', b'⟩ _ _ h
    simp only [vS, vI, slT, vT_inj, List.cons.injEq, V.agg.injEq, V.d.injEq, D.sl.injEq, D.int.injEq, D.str.injEq, D.ptr.injEq, Int.natCast_inj, UInt8.toNat_inj, mT, true_and, and_true] at h
    simp only [h]
noncomputable def z15 : Sp where
  α := BS
  f := 15
  ok := fun c => (c.length ≤ 2000000)
  args := fun c => [vS c]
  res := fun c => (vS (c.filter plainB), [])
  inj := by
    rintro c c' _ _ h
    simp only [vS, vI, slT, vT_inj, List.cons.injEq, V.agg.injEq, V.d.injEq, D.sl.injEq, D.int.injEq, D.str.injEq, D.ptr.injEq, Int.natCast_inj, UInt8.toNat_inj, mT, true_and, and_true] at h
    rw [h]
noncomputable def z16 : Sp where
  α := List Tok × Nat
  f := 16
  ok := fun (l, j) => (l.length ≤ 2000000) ∧ (j ≤ 2000000) ∧ ((∀ t ∈ l, 0 ≤ t.at_ ∧ t.at_ ≤ 2000000))
  args := fun (l, j) => [slT l, vI j]
  res := fun (l, j) => (outN (l.map (mvT j)), newsN (l.map (mvT j)))
  inj := by
    rintro ⟨l, j⟩ ⟨l', j'⟩ _ _ h
    simp only [vS, vI, slT, vT_inj, List.cons.injEq, V.agg.injEq, V.d.injEq, D.sl.injEq, D.int.injEq, D.str.injEq, D.ptr.injEq, Int.natCast_inj, UInt8.toNat_inj, mT, true_and, and_true] at h
    simp only [h]
noncomputable def z9 : Sp where
  α := Unit
  f := 9
  ok := fun u => True
  args := fun u => []
  res := fun u => (.d false (.bool true), [])
  inj := by
    rintro u u' _ _ h
    rfl
noncomputable def y22 : Se where
  α := BS × UInt8
  f := 22
  ok := fun (b, c) => b.length ≤ 100000000
  args := fun (b, c) => [.ptr 0 0 0, .d false (.int .u8 (c : UInt8).toNat)]
  blks := fun (b, c) => [bldB 50 1 b.length, bufB 5 b]
  res := fun (b, c) => (.d false .nilif, [bldB 50 1 (b ++ [c]).length, bufB 5 (b ++ [c])], [1])
  inj := by
    rintro ⟨b, c⟩ ⟨b', c'⟩ _ _ h g
    simp only [vS, vI, bldB, bufB, List.cons.injEq, V.d.injEq, D.int.injEq, D.str.injEq, Blk.map.injEq, Prod.mk.injEq, Int.natCast_inj, UInt8.toNat_inj, true_and, and_true] at h g
    simp only [h, g]
noncomputable def y24 : Se where
  α := BS × BS
  f := 24
  ok := fun (b, s) => b.length ≤ 100000000 ∧ s.length ≤ 100000000
  args := fun (b, s) => [.ptr 0 0 0, vS s]
  blks := fun (b, s) => [bldB 50 1 b.length, bufB 5 b]
  res := fun (b, s) => (.tup [vI s.length, .d false .nilif], [bldB 50 1 (b ++ s).length, bufB 5 (b ++ s)], [1])
  inj := by
    rintro ⟨b, s⟩ ⟨b', s'⟩ _ _ h g
    simp only [vS, vI, bldB, bufB, List.cons.injEq, V.d.injEq, D.int.injEq, D.str.injEq, Blk.map.injEq, Prod.mk.injEq, Int.natCast_inj, UInt8.toNat_inj, true_and, and_true] at h g
    simp only [h, g]
noncomputable def y23 : Se where
  α := BS
  f := 23
  ok := fun b => True
  args := fun b => [.ptr 0 0 0]
  blks := fun b => [bldB 50 1 b.length, bufB 5 b]
  res := fun b => (vI b.length, [bldB 50 1 b.length, bufB 5 b], [])
  inj := by
    rintro b b' _ _ h g
    simp only [vS, vI, bldB, bufB, List.cons.injEq, V.d.injEq, D.int.injEq, D.str.injEq, Blk.map.injEq, Prod.mk.injEq, Int.natCast_inj, UInt8.toNat_inj, true_and, and_true] at h g
    simp only [g]
noncomputable def y26 : Se where
  α := BS
  f := 26
  ok := fun b => True
  args := fun b => [.ptr 0 0 0]
  blks := fun b => [bldB 50 1 b.length, bufB 5 b]
  res := fun b => (vS b, [bldB 50 1 b.length, bufB 5 b], [1])
  inj := by
    rintro b b' _ _ h g
    simp only [vS, vI, bldB, bufB, List.cons.injEq, V.d.injEq, D.int.injEq, D.str.injEq, Blk.map.injEq, Prod.mk.injEq, Int.natCast_inj, UInt8.toNat_inj, true_and, and_true] at h g
    simp only [g]
theorem e22_of {L E} (h : HasE E y22) : E22 (cx GT L E) := fun b c h1 => h (b, c) h1
theorem e24_of {L E} (h : HasE E y24) : E24 (cx GT L E) := fun b s h1 h2 => h (b, s) ⟨h1, h2⟩
theorem e23_of {L E} (h : HasE E y23) : E23 (cx GT L E) := fun b => h b trivial
theorem e26_of {L E} (h : HasE E y26) : E26 (cx GT L E) := fun b => h b trivial
theorem k85_of {L E} (h : Has L z85) : K85 (cx GT L E) := fun c => h c trivial
theorem k38_of {L E} (h : Has L z38) : K38 (cx GT L E) := fun n h1 h2 => h n ⟨h1, h2⟩
theorem k27_of {L E} (h : Has L z27) : K27 (cx GT L E) := fun s i h1 => h (s, i) h1
theorem k30_of {L E} (h : Has L z30) : K30 (cx GT L E) := fun s i k h1 h2 h3 => h (s, i, k) ⟨h1, h2, h3⟩
theorem k48_of {L E} (h : Has L z48) : K48 (cx GT L E) := fun s i h1 => h (s, i) h1
theorem k42_of {L E} (h : Has L z42) : K42 (cx GT L E) := fun s i h1 h2 => h (s, i) ⟨h1, h2⟩
theorem k40_of {L E} (h : Has L z40) : K40 (cx GT L E) := fun p s h1 h2 => h (p, s) ⟨h1, h2⟩
theorem k28_of {L E} (h : Has L z28) : K28 (cx GT L E) := fun p s h1 h2 => h (p, s) ⟨h1, h2⟩
theorem k43_of {L E} (h : Has L z43) : K43 (cx GT L E) := fun s => h s trivial
theorem k46_of {L E} (h : Has L z46) : K46 (cx GT L E) := fun s => h s trivial
theorem k61_of {L E} (h : Has L z61) : K61 (cx GT L E) := fun s c h1 => h (s, c) h1
theorem k62_of {L E} (h : Has L z62) : K62 (cx GT L E) := fun s c h1 => h (s, c) h1
theorem k41_of {L E} (h : Has L z41) : K41 (cx GT L E) := fun s h1 h2 => h s ⟨h1, h2⟩
theorem k31_of {L E} (h : Has L z31) : K31 (cx GT L E) := fun s h1 => h s h1
theorem k29_of {L E} (h : Has L z29) : K29 (cx GT L E) := fun s i h1 h2 => h (s, i) ⟨h1, h2⟩
theorem k68_of {L E} (h : Has L z68) : K68 (cx GT L E) := fun s i h1 => h (s, i) h1
theorem k69_of {L E} (h : Has L z69) : K69 (cx GT L E) := fun s i h1 => h (s, i) h1
theorem k44_of {L E} (h : Has L z44) : K44 (cx GT L E) := fun s i h1 h2 => h (s, i) ⟨h1, h2⟩
theorem k70_of {L E} (h : Has L z70) : K70 (cx GT L E) := fun s i q h1 h2 => h (s, i, q) ⟨h1, h2⟩
theorem k45_of {L E} (h : Has L z45) : K45 (cx GT L E) := fun s i h1 h2 => h (s, i) ⟨h1, h2⟩
theorem k47_of {L E} (h : Has L z47) : K47 (cx GT L E) := fun s i h1 h2 h3 => h (s, i) ⟨h1, h2, h3⟩
theorem k32_of {L E} (h : Has L z32) : K32 (cx GT L E) := fun s i h1 h2 => h (s, i) ⟨h1, h2⟩
theorem k13_of {L E} (h : Has L z13) : K13 (cx GT L E) := fun s h1 => h s h1
theorem k39_of {L E} (h : Has L z39) : K39 (cx GT L E) := fun s q h1 h2 => h (s, q) ⟨h1, h2⟩
theorem k25_of {L E} (h : Has L z25) : K25 (cx GT L E) := fun t h1 => h t h1
theorem k21_of {L E} (h : Has L z21) : K21 (cx GT L E) := fun t h1 => h t h1
theorem k11_of {L E} (h : Has L z11) : K11 (cx GT L E) := fun l h1 => h l h1
theorem k12_of {L E} (h : Has L z12) : K12 (cx GT L E) := fun a b h1 h2 => h (a, b) ⟨h1, h2⟩
theorem k14_of {L E} (h : Has L z14) : K14 (cx GT L E) := fun a b h1 h2 => h (a, b) ⟨h1, h2⟩
theorem k15_of {L E} (h : Has L z15) : K15 (cx GT L E) := fun c h1 => h c h1
theorem k16_of {L E} (h : Has L z16) : K16 (cx GT L E) := fun l j h1 h2 h3 => h (l, j) ⟨h1, h2, h3⟩
theorem k9_of {L E} (h : Has L z9) : K9 (cx GT L E) := h () trivial
theorem mixedD : Tryd.prog.follows .mixedOrders = true := by kernel_rfl
noncomputable def EE : List Se := [y22, y23, y24, y26]
theorem he22 : HasE EE y22 := hasE_head _ _
theorem he23 : HasE EE y23 := hasE_tail (hasE_head _ _) (by decide)
theorem he24 : HasE EE y24 := hasE_tail (hasE_tail (hasE_head _ _) (by decide)) (by decide)
theorem he26 : HasE EE y26 := hasE_tail (hasE_tail (hasE_tail (hasE_head _ _) (by decide)) (by decide)) (by decide)
theorem y22h : y22.Holds Tryd.prog GT := fun ⟨b, c⟩ h => ⟨by kernel_rfl, eff_WriteByte tB_wb b c (by have h : b.length ≤ 100000000 := h; omega)⟩
theorem y24h : y24.Holds Tryd.prog GT := fun ⟨b, s⟩ h => ⟨by kernel_rfl, eff_WriteString tB_ws b s (by have h : b.length ≤ 100000000 ∧ s.length ≤ 100000000 := h; omega)⟩
theorem y23h : y23.Holds Tryd.prog GT := fun b _ => ⟨by kernel_rfl, eff_Len Tryd.lays170 b⟩
theorem y26h : y26.Holds Tryd.prog GT := fun b _ => ⟨by kernel_rfl, eff_String Tryd.lays169 Tryd.Builder_Extra_169 b⟩
noncomputable def N0 : List Sp := []
theorem zn0 : Known Tryd.prog GT N0 EE := (((Known.nil.putE y26h).putE y24h).putE y23h).putE y22h
noncomputable def N1 : List Sp := z85 :: N0
theorem zn1 : Known Tryd.prog GT N1 EE := by
  exact zn0.put (fun c _ => ⟨by kernel_rfl, pure_index c⟩)
noncomputable def N2 : List Sp := z38 :: N1
theorem zn2 : Known Tryd.prog GT N2 EE := by
  exact zn1.put (fun n ⟨h1, h2⟩ => ⟨by kernel_rfl, pure_itoa n h1 h2⟩)
noncomputable def N3 : List Sp := z27 :: N2
theorem zn3 : Known Tryd.prog GT N3 EE := by
  exact zn2.add mixedD (fun ⟨s, i⟩ _ => f27_ok) (fun ⟨s, i⟩ h1 => ⟨_, ev_class (cx GT N2 EE) (show (cx GT N2 EE).glob 0 = _ from rfl) s i h1⟩)
noncomputable def N4 : List Sp := z30 :: N3
theorem zn4 : Known Tryd.prog GT N4 EE := by
  have k27 := k27_of (E := EE) (show Has N3 z27 by repeat (first | exact has_head _ _ | refine has_tail ?_ (by decide)))
  exact zn3.add mixedD (fun ⟨s, i, k⟩ _ => f30_ok) (fun ⟨s, i, k⟩ ⟨h1, h2, h3⟩ => ⟨_, ev_run _ k27 s i k h1 h2 h3⟩)
noncomputable def N5 : List Sp := z48 :: N4
theorem zn5 : Known Tryd.prog GT N5 EE := by
  have k27 := k27_of (E := EE) (show Has N4 z27 by repeat (first | exact has_head _ _ | refine has_tail ?_ (by decide)))
  exact zn4.add mixedD (fun ⟨s, i⟩ _ => f48_ok) (fun ⟨s, i⟩ h1 => ⟨_, ev_inName _ k27 s i h1⟩)
noncomputable def N6 : List Sp := z42 :: N5
theorem zn6 : Known Tryd.prog GT N6 EE := by
  have k48 := k48_of (E := EE) (show Has N5 z48 by repeat (first | exact has_head _ _ | refine has_tail ?_ (by decide)))
  exact zn5.add mixedD (fun ⟨s, i⟩ _ => f42_ok) (fun ⟨s, i⟩ ⟨h1, h2⟩ => ⟨_, ev_name _ k48 s i h1 h2⟩)
noncomputable def N7 : List Sp := z40 :: N6
theorem zn7 : Known Tryd.prog GT N7 EE := by
  exact zn6.add mixedD (fun ⟨p, s⟩ _ => f40_ok) (fun ⟨p, s⟩ ⟨h1, h2⟩ => ⟨_, ev_pre _ p s h1 h2⟩)
noncomputable def N8 : List Sp := z28 :: N7
theorem zn8 : Known Tryd.prog GT N8 EE := by
  have k40 := k40_of (E := EE) (show Has N7 z40 by repeat (first | exact has_head _ _ | refine has_tail ?_ (by decide)))
  exact zn7.add mixedD (fun ⟨p, s⟩ _ => f28_ok) (fun ⟨p, s⟩ ⟨h1, h2⟩ => ⟨_, ev_hasPrefix _ k40 p s h1 h2⟩)
noncomputable def N9 : List Sp := z43 :: N8
theorem zn9 : Known Tryd.prog GT N9 EE := by
  exact zn8.add mixedD (fun s _ => f43_ok) (fun s _ => ⟨_, ev_reserved _ s⟩)
noncomputable def N10 : List Sp := z46 :: N9
theorem zn10 : Known Tryd.prog GT N10 EE := by
  exact zn9.add mixedD (fun s _ => f46_ok) (fun s _ => ⟨_, ev_isSign _ s⟩)
noncomputable def N11 : List Sp := z61 :: N10
theorem zn11 : Known Tryd.prog GT N11 EE := by
  exact zn10.add mixedD (fun ⟨s, c⟩ _ => f61_ok) (fun ⟨s, c⟩ h1 => ⟨_, ev_trimLeft _ s c h1⟩)
noncomputable def N12 : List Sp := z62 :: N11
theorem zn12 : Known Tryd.prog GT N12 EE := by
  exact zn11.add mixedD (fun ⟨s, c⟩ _ => f62_ok) (fun ⟨s, c⟩ h1 => ⟨_, ev_trimRight _ s c h1⟩)
noncomputable def N13 : List Sp := z41 :: N12
theorem zn13 : Known Tryd.prog GT N13 EE := by
  have k61 := k61_of (E := EE) (show Has N12 z61 by repeat (first | exact has_head _ _ | refine has_tail ?_ (by decide)))
  have k62 := k62_of (E := EE) (show Has N12 z62 by repeat (first | exact has_head _ _ | refine has_tail ?_ (by decide)))
  exact zn12.add mixedD (fun s _ => f41_ok) (fun s ⟨h1, h2⟩ => ⟨_, ev_trim _ k61 k62 s h1 h2⟩)
noncomputable def N14 : List Sp := z31 :: N13
theorem zn14 : Known Tryd.prog GT N14 EE := by
  have k41 := k41_of (E := EE) (show Has N13 z41 by repeat (first | exact has_head _ _ | refine has_tail ?_ (by decide)))
  exact zn13.add mixedD (fun s _ => f31_ok) (fun s h1 => ⟨_, ev_dashes _ k41 s h1⟩)
noncomputable def N15 : List Sp := z29 :: N14
theorem zn15 : Known Tryd.prog GT N15 EE := by
  exact zn14.add mixedD (fun ⟨s, i⟩ _ => f29_ok) (fun ⟨s, i⟩ ⟨h1, h2⟩ => ⟨_, ev_comment _ s i h1 h2⟩)
noncomputable def N16 : List Sp := z68 :: N15
theorem zn16 : Known Tryd.prog GT N16 EE := by
  exact zn15.add mixedD (fun ⟨s, i⟩ _ => f68_ok) (fun ⟨s, i⟩ h1 => ⟨_, ev_byteAt _ s i h1⟩)
noncomputable def N17 : List Sp := z69 :: N16
theorem zn17 : Known Tryd.prog GT N17 EE := by
  have k68 := k68_of (E := EE) (show Has N16 z68 by repeat (first | exact has_head _ _ | refine has_tail ?_ (by decide)))
  have k85 := k85_of (E := EE) (show Has N16 z85 by repeat (first | exact has_head _ _ | refine has_tail ?_ (by decide)))
  exact zn16.add mixedD (fun ⟨s, i⟩ _ => f69_ok) (fun ⟨s, i⟩ h1 => ⟨_, ev_hex _ k68 k85 s i h1⟩)
noncomputable def N18 : List Sp := z44 :: N17
theorem zn18 : Known Tryd.prog GT N18 EE := by
  have k42 := k42_of (E := EE) (show Has N17 z42 by repeat (first | exact has_head _ _ | refine has_tail ?_ (by decide)))
  have k27 := k27_of (E := EE) (show Has N17 z27 by repeat (first | exact has_head _ _ | refine has_tail ?_ (by decide)))
  have k43 := k43_of (E := EE) (show Has N17 z43 by repeat (first | exact has_head _ _ | refine has_tail ?_ (by decide)))
  exact zn17.add mixedD (fun ⟨s, i⟩ _ => f44_ok) (fun ⟨s, i⟩ ⟨h1, h2⟩ => ⟨_, ev_upper _ k42 k27 k43 s i h1 h2⟩)
noncomputable def N19 : List Sp := z70 :: N18
theorem zn19 : Known Tryd.prog GT N19 EE := by
  have k68 := k68_of (E := EE) (show Has N18 z68 by repeat (first | exact has_head _ _ | refine has_tail ?_ (by decide)))
  have k27 := k27_of (E := EE) (show Has N18 z27 by repeat (first | exact has_head _ _ | refine has_tail ?_ (by decide)))
  exact zn18.add mixedD (fun ⟨s, i, q⟩ _ => f70_ok) (fun ⟨s, i, q⟩ ⟨h1, h2⟩ => ⟨_, ev_sound _ k68 k27 s i q h1 h2⟩)
noncomputable def N20 : List Sp := z45 :: N19
theorem zn20 : Known Tryd.prog GT N20 EE := by
  have k68 := k68_of (E := EE) (show Has N19 z68 by repeat (first | exact has_head _ _ | refine has_tail ?_ (by decide)))
  have k69 := k69_of (E := EE) (show Has N19 z69 by repeat (first | exact has_head _ _ | refine has_tail ?_ (by decide)))
  have k48 := k48_of (E := EE) (show Has N19 z48 by repeat (first | exact has_head _ _ | refine has_tail ?_ (by decide)))
  exact zn19.add mixedD (fun ⟨s, i⟩ _ => f45_ok) (fun ⟨s, i⟩ ⟨h1, h2⟩ => ⟨_, ev_number _ k68 k69 k48 s i h1 h2⟩)
noncomputable def N21 : List Sp := z47 :: N20
theorem zn21 : Known Tryd.prog GT N21 EE := by
  have k68 := k68_of (E := EE) (show Has N20 z68 by repeat (first | exact has_head _ _ | refine has_tail ?_ (by decide)))
  have k70 := k70_of (E := EE) (show Has N20 z70 by repeat (first | exact has_head _ _ | refine has_tail ?_ (by decide)))
  exact zn20.add mixedD (fun ⟨s, i⟩ _ => f47_ok) (fun ⟨s, i⟩ ⟨h1, h2, h3⟩ => ⟨_, ev_quoted _ k68 k70 s i h1 h2 h3⟩)
noncomputable def N22 : List Sp := z32 :: N21
theorem zn22 : Known Tryd.prog GT N22 EE := by
  have k27 := k27_of (E := EE) (show Has N21 z27 by repeat (first | exact has_head _ _ | refine has_tail ?_ (by decide)))
  have k42 := k42_of (E := EE) (show Has N21 z42 by repeat (first | exact has_head _ _ | refine has_tail ?_ (by decide)))
  have k43 := k43_of (E := EE) (show Has N21 z43 by repeat (first | exact has_head _ _ | refine has_tail ?_ (by decide)))
  have k44 := k44_of (E := EE) (show Has N21 z44 by repeat (first | exact has_head _ _ | refine has_tail ?_ (by decide)))
  have k45 := k45_of (E := EE) (show Has N21 z45 by repeat (first | exact has_head _ _ | refine has_tail ?_ (by decide)))
  have k30 := k30_of (E := EE) (show Has N21 z30 by repeat (first | exact has_head _ _ | refine has_tail ?_ (by decide)))
  have k46 := k46_of (E := EE) (show Has N21 z46 by repeat (first | exact has_head _ _ | refine has_tail ?_ (by decide)))
  have k47 := k47_of (E := EE) (show Has N21 z47 by repeat (first | exact has_head _ _ | refine has_tail ?_ (by decide)))
  have k48 := k48_of (E := EE) (show Has N21 z48 by repeat (first | exact has_head _ _ | refine has_tail ?_ (by decide)))
  exact zn21.add mixedD (fun ⟨s, i⟩ _ => f32_ok) (fun ⟨s, i⟩ ⟨h1, h2⟩ => ⟨_, ev_token _ k27 k42 k43 k44 k45 k30 k46 k47 k48 s i h1 h2⟩)
noncomputable def N23 : List Sp := z13 :: N22
theorem zn23 : Known Tryd.prog GT N23 EE := by
  have k27 := k27_of (E := EE) (show Has N22 z27 by repeat (first | exact has_head _ _ | refine has_tail ?_ (by decide)))
  have k28 := k28_of (E := EE) (show Has N22 z28 by repeat (first | exact has_head _ _ | refine has_tail ?_ (by decide)))
  have k29 := k29_of (E := EE) (show Has N22 z29 by repeat (first | exact has_head _ _ | refine has_tail ?_ (by decide)))
  have k30 := k30_of (E := EE) (show Has N22 z30 by repeat (first | exact has_head _ _ | refine has_tail ?_ (by decide)))
  have k31 := k31_of (E := EE) (show Has N22 z31 by repeat (first | exact has_head _ _ | refine has_tail ?_ (by decide)))
  have k32 := k32_of (E := EE) (show Has N22 z32 by repeat (first | exact has_head _ _ | refine has_tail ?_ (by decide)))
  exact zn22.addEase mixedD (fun s _ => f13_ok) (fun s h1 => ⟨_, _, ev_Lex _ k27 k28 k29 k30 k31 k32 s h1, lexV_ease s⟩)
noncomputable def N24 : List Sp := z39 :: N23
theorem zn24 : Known Tryd.prog GT N24 EE := by
  have k38 := k38_of (E := EE) (show Has N23 z38 by repeat (first | exact has_head _ _ | refine has_tail ?_ (by decide)))
  have e22 := e22_of (L := N23) he22
  have e24 := e24_of (L := N23) he24
  have e26 := e26_of (L := N23) he26
  exact zn23.add mixedD (fun ⟨s, q⟩ _ => f39_ok) (fun ⟨s, q⟩ ⟨h1, h2⟩ => ⟨_, ev_escaped _ e22 e24 e26 k38 s h1 q h2⟩)
noncomputable def N25 : List Sp := z25 :: N24
theorem zn25 : Known Tryd.prog GT N25 EE := by
  have k38 := k38_of (E := EE) (show Has N24 z38 by repeat (first | exact has_head _ _ | refine has_tail ?_ (by decide)))
  have k39 := k39_of (E := EE) (show Has N24 z39 by repeat (first | exact has_head _ _ | refine has_tail ?_ (by decide)))
  exact zn24.add mixedD (fun t _ => f25_ok) (fun t h1 => ⟨_, ev_written _ k38 k39 t h1⟩)
noncomputable def N26 : List Sp := z21 :: N25
theorem zn26 : Known Tryd.prog GT N26 EE := by
  have k27 := k27_of (E := EE) (show Has N25 z27 by repeat (first | exact has_head _ _ | refine has_tail ?_ (by decide)))
  have k31 := k31_of (E := EE) (show Has N25 z31 by repeat (first | exact has_head _ _ | refine has_tail ?_ (by decide)))
  have k32 := k32_of (E := EE) (show Has N25 z32 by repeat (first | exact has_head _ _ | refine has_tail ?_ (by decide)))
  exact zn25.add mixedD (fun t _ => f21_ok) (fun t h1 => ⟨_, ev_isToken _ k27 k31 k32 t h1⟩)
noncomputable def N27 : List Sp := z11 :: N26
theorem zn27 : Known Tryd.prog GT N27 EE := by
  have k21 := k21_of (E := EE) (show Has N26 z21 by repeat (first | exact has_head _ _ | refine has_tail ?_ (by decide)))
  have k25 := k25_of (E := EE) (show Has N26 z25 by repeat (first | exact has_head _ _ | refine has_tail ?_ (by decide)))
  have e22 := e22_of (L := N26) he22
  have e23 := e23_of (L := N26) he23
  have e24 := e24_of (L := N26) he24
  have e26 := e26_of (L := N26) he26
  exact zn26.add mixedD (fun l _ => f11_ok) (fun l h1 => ⟨_, ev_Print _ k21 e22 e23 e24 k25 e26 l h1⟩)
noncomputable def N28 : List Sp := z12 :: N27
theorem zn28 : Known Tryd.prog GT N28 EE := by
  exact zn27.add mixedD (fun ⟨a, b⟩ _ => f12_ok) (fun ⟨a, b⟩ ⟨h1, h2⟩ => ⟨_, ev_same _ a b h1 h2⟩)
noncomputable def N29 : List Sp := z14 :: N28
theorem zn29 : Known Tryd.prog GT N29 EE := by
  exact zn28.add mixedD (fun ⟨a, b⟩ _ => f14_ok) (fun ⟨a, b⟩ ⟨h1, h2⟩ => ⟨_, ev_alike _ a b h1 h2⟩)
noncomputable def N30 : List Sp := z15 :: N29
theorem zn30 : Known Tryd.prog GT N30 EE := by
  exact zn29.add mixedD (fun c _ => f15_ok) (fun c h1 => ⟨_, ev_plain _ c h1⟩)
noncomputable def N31 : List Sp := z16 :: N30
theorem zn31 : Known Tryd.prog GT N31 EE := by
  exact zn30.add mixedD (fun ⟨l, j⟩ _ => f16_ok) (fun ⟨l, j⟩ ⟨h1, h2, h3⟩ => ⟨_, ev_moved _ l j h1 h2 h3⟩)
noncomputable def N32 : List Sp := z9 :: N31
theorem zn32 : Known Tryd.prog GT N32 EE := by
  have k13 := k13_of (E := EE) (show Has N31 z13 by repeat (first | exact has_head _ _ | refine has_tail ?_ (by decide)))
  have k12 := k12_of (E := EE) (show Has N31 z12 by repeat (first | exact has_head _ _ | refine has_tail ?_ (by decide)))
  have k11 := k11_of (E := EE) (show Has N31 z11 by repeat (first | exact has_head _ _ | refine has_tail ?_ (by decide)))
  exact zn31.add mixedD (fun u _ => f9_ok) (fun u _ => ⟨_, ev_awake _ k13 k12 k11⟩)

theorem law_skips (a c : BS) (deep : Int) (b : BS) (ha : a.length ≤ 1100000) (hc : c.length ≤ 1100000) (hb : b.length ≤ 1100000) (hd : -9223372036854775808 ≤ deep ∧ deep ≤ 9223372036854775807) :
    PureCall Tryd.prog GT 6 [vS a, vS c, vI deep, vS b] (.d false (.bool true)) [] := by
  have k9 := k9_of (E := EE) (show Has N32 z9 by repeat (first | exact has_head _ _ | refine has_tail ?_ (by decide)))
  have k15 := k15_of (E := EE) (show Has N32 z15 by repeat (first | exact has_head _ _ | refine has_tail ?_ (by decide)))
  have k13 := k13_of (E := EE) (show Has N32 z13 by repeat (first | exact has_head _ _ | refine has_tail ?_ (by decide)))
  have k16 := k16_of (E := EE) (show Has N32 z16 by repeat (first | exact has_head _ _ | refine has_tail ?_ (by decide)))
  have k12 := k12_of (E := EE) (show Has N32 z12 by repeat (first | exact has_head _ _ | refine has_tail ?_ (by decide)))
  exact (pure_sound (args := [vS a, vS c, vI deep, vS b]) mixedD zn32.sound f6_ok (ev_LexSkips _ k9 k15 k13 k16 k12 a c deep b ha hc hb hd)).2
end Go.Vm
end

section
namespace Go.Vm
open Go.ChangeShapes Go.WideShapes Go.ChangeAt Go.RowKit Go.Proofs Go.Proofs.YtmmbgofnllcaeaaDoor
set_option linter.unusedVariables false

theorem ownD : ownKnob Tryd.prog.godebug = none := by kernel_rfl
theorem laidOutD : laidOutB Tryd.prog = true := by kernel_rfl
theorem gCls : Tryd.prog.globalNamed "sloth/lex.classes" = some 0 := by kernel_rfl
theorem gClsT : (Tryd.prog.globals[0]?).map (·.type) = some 71 := by kernel_rfl
theorem gP10T : (Tryd.prog.globals[2]?).map (·.type) = some 130 := by kernel_rfl

def laidL : List (String × DataW Unit) := [("math/bits.deBruijn32tab", Rows.laid_math_bits_deBruijn32tab), ("math/bits.deBruijn64tab", Rows.laid_math_bits_deBruijn64tab), ("internal/strconv.uint64pow10", Rows.laid_internal_strconv_uint64pow10), ("unicode/utf8.acceptRanges", Rows.laid_unicode_utf8_acceptRanges), ("sloth/lex.classes", Rows.laid_sloth_lex_classes), ("unicode/utf8.first", Rows.laid_unicode_utf8_first)]

def Reads (P : Program) (w : World) (n : String) (d : DataW Unit) : Prop :=
  ∃ g t cs fuel p, P.globalNamed n = some g ∧ (P.globals[g]?).map (·.type) = some t ∧ w.var? P n = some cs ∧ DataW.trod (fun _ => ()) P w 0 (fun _ => true) false fuel t cs.toList = some (d, p)
theorem reads_of {P : Program} {w : World} : ∀ {l : List (String × DataW Unit)} {ps : List MemPlace}, DataW.LaidVars P w l ps → ∀ n d, (n, d) ∈ l → Reads P w n d
  | [], _, _, _, _, hm => by cases hm
  | (n', d') :: r, ps, h, n, d, hm => by
    obtain ⟨g, t, cs, fuel, p, q, h1, h2, h3, h4, h5, _⟩ := h
    rcases List.mem_cons.1 hm with e | e
    · cases e
      exact ⟨g, t, cs, fuel, p, h1, h2, h3, h4⟩
    · exact reads_of h5 n d e
theorem tab_of_reads {P : Program} {W : World} {name : String} {k : IntKind} {zs : List Int} {g : Nat} {t e : TypeId} {n : Nat}
    (hg : P.globalNamed name = some g) (hty : (P.globals[g]?).map (·.type) = some t) (ht : P.underlying t = some (.array n e)) (he : P.underlying e = some (.int k)) (hce : P.cellsOf e = 1) (hct : P.cellsOf t = n)
    (h : Reads P W name (Lib.tabData k zs)) : Lib.TabIs P W name k zs := by
  obtain ⟨g', t', cs, fuel, p, hg', ht', hvar, hd⟩ := h
  obtain rfl := Option.some.inj (hg.symm.trans hg')
  obtain rfl := Option.some.inj (hty.symm.trans ht')
  unfold Lib.TabIs
  rw [hvar, ← Lib.cells_of_tab ht he hce hct hd]

theorem clsData : (Rows.laid_sloth_lex_classes : DataW Unit) = Lib.tabData .u8 (clTab.map fun n => ((n : Nat) : Int)) := by kernel_rfl
theorem p10Data : (Rows.laid_internal_strconv_uint64pow10 : DataW Unit) = Lib.tabData .u64 Lib.pow10Tab := by kernel_rfl

theorem glob_of_tab {W : World} {name : String} {k : IntKind} {zs : List Int} {g : Nat} (h : Lib.TabIs Tryd.prog W name k zs) (hg : Tryd.prog.globalNamed name = some g) :
    RepD W (There W) (.pointer (some ⟨g, 0, none⟩)) (.ptr (zs.map fun z => .int k z)) ∧ ∃ cs t fz, W.heap[g]? = some (.cells cs t fz) ∧ cs.size = (zs.map fun z => D.int k z).length := by
  have hb : ∃ cs t fz, W.heap[g]? = some (.cells cs t fz) ∧ cs.size = (zs.map fun z => D.int k z).length := by
    unfold Lib.TabIs World.var? at h
    rw [hg] at h
    replace h : (match W.heap[g]? with | some (.cells cs _ _) => some cs | _ => none) = some (zs.map fun z => Value.int k z).toArray := h
    split at h
    · rename_i cs t fz hh
      obtain rfl := Option.some.inj h
      exact ⟨_, t, fz, hh, by simp⟩
    · cases h
  refine ⟨?_, hb⟩
  obtain ⟨cs, t, fz, hh, hsz⟩ := hb
  refine .ptr g 0 _ (fun j => .int k (zs.getD j 0)) ?_ (fun j d hd => ?_) (fun j d hd => ?_)
  · show g < W.heap.size
    rcases Nat.lt_or_ge g W.heap.size with h' | h'
    · exact h'
    · simp [Array.getElem?_eq_none h'] at hh
  · have hj : j < zs.length := by
      rcases Nat.lt_or_ge j zs.length with h' | h'
      · exact h'
      · rw [List.getElem?_eq_none (by simpa using h')] at hd; cases hd
    rw [Nat.zero_add]
    exact h.cell hg j hj
  · rw [List.getElem?_map, Option.map_eq_some_iff] at hd
    obtain ⟨z, hz, rfl⟩ := hd
    have : zs.getD j 0 = z := by rw [List.getD_eq_getElem?_getD, hz]; rfl
    rw [this]
    exact .int k z

theorem glob_of_laid {W : World} (h : laidMetH Tryd.prog laidL W) : GlobRel W (There W) GT := by
  obtain ⟨ps, hv, _⟩ : laidMet Tryd.prog laidL W := h
  have h0 := reads_of hv "sloth/lex.classes" Rows.laid_sloth_lex_classes (by simp [laidL])
  have h2 := reads_of hv "internal/strconv.uint64pow10" Rows.laid_internal_strconv_uint64pow10 (by simp [laidL])
  rw [clsData] at h0
  rw [p10Data] at h2
  have t0 := tab_of_reads gCls gClsT Tryd.underlying71 Tryd.underlying5 (by kernel_rfl) (by kernel_rfl) h0
  have t2 := tab_of_reads gP10 gP10T Tryd.underlying130 Tryd.underlying122 (by kernel_rfl) (by kernel_rfl) h2
  intro g cells hg
  match g, hg with
  | 0, hg =>
    obtain rfl := Option.some.inj hg
    have := glob_of_tab t0 gCls
    rw [List.map_map] at this
    exact this
  | 2, hg =>
    obtain rfl := Option.some.inj hg
    exact glob_of_tab t2 gP10
  | 1, hg => cases hg
  | n + 3, hg => cases hg

def flatN : Nat → DataW Unit → List Value
  | _, .lit (.int k n) => [.int k n]
  | n + 1, .agg ps => ps.flatMap (flatN n)
  | _, _ => []
def lay (g : Nat) (d : DataW Unit) (h : Array Obj) : Array Obj := h.modify g fun
  | .cells _ t frozen => .cells (flatN 3 d).toArray t frozen
  | o => o
noncomputable def laidWorld (os : Os) : World :=
  { World.holding Tryd.prog os ⟨#[], #[], []⟩ with heap := lay 7 Rows.laid_math_bits_deBruijn64tab (lay 6 Rows.laid_math_bits_deBruijn32tab (lay 4 Rows.laid_unicode_utf8_acceptRanges (lay 3 Rows.laid_unicode_utf8_first (lay 2 Rows.laid_internal_strconv_uint64pow10 (lay 0 Rows.laid_sloth_lex_classes (World.holding Tryd.prog os ⟨#[], #[], []⟩).heap))))) }
set_option maxRecDepth 100000 in
theorem laid_met (os : Os) (args : Array Value) : laidMet Tryd.prog laidL ((laidWorld os).forCall (fun _ _ => 0) ⟨#[], args, []⟩).memory :=
  (LaidIn.of_run [0, 2, 3, 4, 6, 7] 8 (by kernel_rfl) (by kernel_rfl) (by kernel_rfl) (by kernel_rfl)).met
end Go.Vm
end

section
namespace Go.Proofs.YtmmbgofnllcaeaaDoor.lexSkips
open Go.ChangeShapes Go.WideShapes Go.ChangeAt Go.RowKit Go.Vm Go.ChangeMaps
set_option linter.unusedVariables false

theorem post_below {H : Type} {enc : TypeId × Value → H} {P : Program} {f : Func} {s : ChangeSpec} {apart fresh handsOn again : Bool} {W W' : World} {args : Array Value} {v : Value} {ds gs : List (DataW H)} {before : List MemPlace}
    (hW : DataW.Whole enc P f.params.toList s.vars apart W args.toList ds gs before) (hb : Below W.heap.size W W')
    (hres : ∀ (b : Nat) (sp : Nat → Bool) (hd : Bool), DataW.TrodAll enc P W' b sp hd f.resultTypes.toList (v.resultList f.resultTypes.size) (s.fn H (ds ++ gs)).results [])
    (hargs : ∀ sp : Nat → Bool, (∀ p ∈ before, sp p.block = true) → DataW.TrodAll enc P W' 0 sp true f.params.toList args.toList (s.fn H (ds ++ gs)).args before)
    (hvars : ∀ sp : Nat → Bool, DataW.TrodVars enc P W' sp s.vars (s.fn H (ds ++ gs)).vars [])
    (hok : ∀ (j : Nat) (t : TypeId) (r : Value), f.resultTypes[j]? = some t → (v.resultList f.resultTypes.size)[j]? = some r → Value.okWide P W' .any 0 t r) :
    s.post enc P f apart fresh handsOn again W args v W' := by
  have hlt := hW.lt
  have hsp : ∀ p ∈ before, (fun b => decide (b < W.heap.size)) p.block = true := fun p hp => decide_eq_true (hlt p hp)
  have all := trodAll_append (hargs (fun _ => true) (fun _ _ => rfl)) (hres 0 (fun _ => true) true)
  rw [List.nil_append] at all
  obtain ⟨_, _, _, _, _, hz, hn⟩ := id hW
  refine ⟨ds, gs, before, [], before, [], hW, hres _ _ _, hargs _ hsp, hvars _, hb.frame _, fun _ => ⟨hok, _, _, before, ⟨before, [], all, hvars _, by simp, fun b off hp => ?_, hn⟩, fun p hp _ => hp⟩⟩
  rw [hb.frozen (hlt _ hp)]
  exact hz b off hp

theorem bulk4 {H : Type} {a b c d : DataW H} (h : Rows.uptoSmall H ([a, b, c, d] ++ []) = true) : Rows.uptoBulk a + (Rows.uptoBulk b + (Rows.uptoBulk c + Rows.uptoBulk d)) ≤ 1048576 := by
  have h := of_decide_eq_true h
  simpa only [List.append_nil, Rows.uptoBulkAll, Nat.add_zero] using h
theorem bulk_str {H : Type} (l : List UInt8) : Rows.uptoBulk (DataW.lit (H := H) (.string l)) = l.length + 1 := by simp only [Rows.uptoBulk]

theorem i64_wf {n : Int} (h : (Lit.int .i64 n).wf = true) : -9223372036854775808 ≤ n ∧ n ≤ 9223372036854775807 := by
  simp only [Lit.wf, Bool.and_eq_true, decide_eq_true_eq] at h
  have e1 : IntKind.i64.min = -9223372036854775808 := by decide
  have e2 : IntKind.i64.max = 9223372036854775807 := by decide
  rw [e1, e2] at h
  exact h

set_option maxRecDepth 100000 in
theorem contract (H : Type) (enc : TypeId × Value → H) (W : World) (base : Nat) (args : Array Value) (ds gs : List (DataW H)) (before : List MemPlace)
    (hval : ∀ (j : Nat) t v, Tryd.f6.params[j]? = some t → args[j]? = some v → Value.okWide Tryd.prog W .any base t v)
    (hW : DataW.Whole enc Tryd.prog Tryd.f6.params.toList Rows.lexSkipsSpec.vars false W args.toList ds gs before) (hk : Rows.uptoSmall H (ds ++ gs) = true) (hL : laidMetH Tryd.prog laidL W) :
    Calls Tryd.prog 6 args W fun e W' => ∃ v, e = .returned v ∧ Rows.lexSkipsSpec.post enc Tryd.prog Tryd.f6 false true false false W args v W' := by
  have hW' := hW
  obtain ⟨p, q, hA0, hV, rfl, hfz, hnd⟩ := hW
  have hA : DataW.TrodAll enc Tryd.prog W 0 (fun _ => true) true Tryd.f6.params.toList args.toList ds p := hA0
  rw [Tryd.params6] at hA hval
  obtain ⟨v0, vs0, d0, ds0, p0, q0, hargs, rfl, rfl, h0, r0⟩ := trodAll_cons hA
  obtain ⟨v1, vs1, d1, ds1, p1, q1, rfl, rfl, rfl, h1, r1⟩ := trodAll_cons r0
  obtain ⟨v2, vs2, d2, ds2, p2, q2, rfl, rfl, rfl, h2, r2⟩ := trodAll_cons r1
  obtain ⟨v3, vs3, d3, ds3, p3, q3, rfl, rfl, rfl, h3, r3⟩ := trodAll_cons r2
  obtain ⟨rfl, rfl, rfl⟩ := trodAll_nil r3
  obtain rfl : args = #[v0, v1, v2, v3] := by cases args; simp_all
  obtain ⟨rfl, rfl⟩ := trodVars_none hV
  obtain ⟨t0, rfl, rfl, rfl, m0⟩ := open_string Tryd.underlying9 (hval 0 9 v0 rfl rfl) h0
  obtain ⟨t1, rfl, rfl, rfl, m1⟩ := open_string Tryd.underlying9 (hval 1 9 v1 rfl rfl) h1
  obtain ⟨n, rfl, rfl, rfl, wn⟩ := open_int Tryd.underlying3 (hval 2 3 v2 rfl rfl) h2
  obtain ⟨t3, rfl, rfl, rfl, m3⟩ := open_string Tryd.underlying9 (hval 3 9 v3 rfl rfl) h3
  clear hA0
  simp only [List.append_nil] at hW'
  have hb := bulk4 hk
  rw [bulk_str, bulk_str, bulk_str] at hb
  have hcall := law_skips t0.data.toList t1.data.toList n t3.data.toList (by omega) (by omega) (by omega) (i64_wf wn) W (There W) #[.string t0, .string t1, .int .i64 n, .string t3] (fun b h => h) (glob_of_laid hL) ⟨rfl, fun j v x hv hx => by
    match j, hv, hx with
    | 0, hv, hx => simp at hv hx; subst hv; subst hx; exact .d _ _ _ (.str t0)
    | 1, hv, hx => simp at hv hx; subst hv; subst hx; exact .d _ _ _ (.str t1)
    | 2, hv, hx => simp at hv hx; subst hv; subst hx; exact .d _ _ _ (.int _ _)
    | 3, hv, hx => simp at hv hx; subst hv; subst hx; exact .d _ _ _ (.str t3)
    | j + 4, hv, hx => simp at hv⟩
  refine hcall.mono fun e W' ⟨v, F', σ', he, hbel, _, hR, _⟩ => ?_
  have hv := hR.bool_inv
  subst hv
  subst he
  have hs : ∀ t : ByteArray, t.size ≤ maxLen → t.size ≤ maxLen := fun _ h => h
  exact ⟨_, rfl, post_below hW' hbel (fun _ _ _ => (trodAll_cons_mk (shut_bool Tryd.underlying4 _) trodAll_mk0))
    (fun sp _ => trodAll_cons_mk (shut_string Tryd.underlying9 m0) (trodAll_cons_mk (shut_string Tryd.underlying9 m1) (trodAll_cons_mk (shut_int Tryd.underlying3 wn) (trodAll_cons_mk (shut_string Tryd.underlying9 m3) trodAll_mk0))))
    (fun _ => rfl) (ok_one (by kernel_rfl) rfl (okWide_bool_mk Tryd.underlying4 _))⟩

def wargs : Array Value := #[.string ⟨#[]⟩, .string ⟨#[]⟩, .int .i64 0, .string ⟨#[]⟩]
theorem reads (os : Os) {H : Type} (enc : TypeId × Value → H) : ∃ places, DataW.whole enc Tryd.prog ((laidWorld os).forCall (fun _ _ => 0) ⟨#[], wargs, []⟩).memory Tryd.f6.params.toList Rows.lexSkipsSpec.vars false wargs.toList 8 = some ([.lit (.string []), .lit (.string []), .lit (.int .i64 0), .lit (.string [])], [], places) :=
  ⟨[], by kernel_rfl⟩

set_option maxRecDepth 100000 in
theorem liftedUpto (os : Os) (started : os.Started) (H : Type) (enc : TypeId × Value → H) (F : Stop.Interp) :
    ReturnsInHanded {} Tryd.checked os 6 .any ((Rows.OpenSpec.upto Rows.lexSkipsSpec).preRow enc Tryd.prog Tryd.f6 Rows.lexSkipsUptoRow.domain false Rows.lexSkipsUptoRow.laid) (((Rows.OpenSpec.upto Rows.lexSkipsSpec).at F).post enc Tryd.prog Tryd.f6 false true false false) := by
  obtain ⟨places, hx⟩ := reads os enc
  refine returnsInHanded_of_row (C := Tryd.checked) (s := Rows.OpenSpec.upto Rows.lexSkipsSpec) ownD started (by kernel_rfl) Tryd.func6
    (witness_row_at (enc := enc) (C := Tryd.checked) false (laidWorld os) wargs rfl (by kernel_rfl) (by kernel_rfl) (by kernel_rfl)
      (OpenSpec.preRow_of_cond 8 hx (by kernel_rfl) (fun k hk => by cases hk; kernel_rfl) (by kernel_rfl) (laid_met os wargs))) ?_
  intro W base args ds gs before hval hW _ hcond _ hL _ _
  exact contract H enc W base args ds gs before hval hW (hcond _ rfl) hL

theorem saidUpto : Rows.LexSkipsUptoSaid :=
  OpenClaim.holds_of_cond 6 Tryd.f6 rfl rfl rfl rfl rfl rfl rfl ⟨rfl, rfl, rfl, rfl, rfl⟩ rfl rfl rfl rfl rfl (by kernel_rfl) Tryd.func6 (by kernel_rfl)
    (of_decide_eq_true (by kernel_rfl)) (by unfold Func.isWrapper; first | (rw [if_pos (by decide +kernel)]; kernel_rfl) | (rw [if_neg (by decide +kernel)]; exact ⟨rfl, rfl⟩))
    (fun os started H enc _ F => by rw [OpenClaim.pre_eq_preRow]; exact liftedUpto os started H enc F)

theorem plain (f : FuncId) (fn : Func) (hf : Tryd.pinned.checked.prog.funcNamed "sloth/slothlaw01.LexSkips" = some f) (hfn : Tryd.pinned.checked.prog.funcs[f]? = some fn) :
    true = Tryd.pinned.checked.prog.looks [] ∧ ∀ (j : Nat) t, fn.params[j]? = some t → Tryd.pinned.checked.prog.wantsStandIn t = false := by
  obtain rfl : f = 6 := Option.some.inj ((show Tryd.prog.funcNamed "sloth/slothlaw01.LexSkips" = some 6 by kernel_rfl).symm.trans hf) |>.symm
  obtain rfl : fn = Tryd.f6 := (Option.some.inj (Tryd.func6.symm.trans hfn)).symm
  refine ⟨by kernel_rfl, fun j t ht => ?_⟩
  rw [Tryd.params6] at ht
  have h9 : Tryd.prog.wantsStandIn 9 = false := by kernel_rfl
  have h3 : Tryd.prog.wantsStandIn 3 = false := by kernel_rfl
  match j, ht with
  | 0, ht => simp at ht; subst ht; exact h9
  | 1, ht => simp at ht; subst ht; exact h9
  | 2, ht => simp at ht; subst ht; exact h3
  | 3, ht => simp at ht; subst ht; exact h9
  | j + 4, ht => simp at ht

theorem cardUpto : Rows.LexSkipsUptoCardSaid :=
  Claim7.holds_tied_plain_at .later [] _ _ _ _ saidUpto (fun _ h => by cases h) (by kernel_rfl) (fun _ h => by cases h) lexSkipsUpto_row_tie rfl ⟨rfl, rfl⟩ (by kernel_rfl) rfl plain (by kernel_rfl)
#print axioms cardUpto
end Go.Proofs.YtmmbgofnllcaeaaDoor.lexSkips
end
