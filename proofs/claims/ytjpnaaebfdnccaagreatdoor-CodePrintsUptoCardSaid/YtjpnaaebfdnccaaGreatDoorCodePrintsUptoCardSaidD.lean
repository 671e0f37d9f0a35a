/-
  Parts of the proof: The document's writer of codes: an instruction's text. A table's blocks handed on: what comes out of a function, what is handed to one. The marks behind a table's lists stand. A table that was lent is turned: numbers. The machine by reckoning: with so many rounds at the most. What is known of functions over package-level tables, put together of what each one answers. Package strings' Builder: its methods, with all that they leave alone. Package strings' Builder: WriteByte, WriteString, Len, String. Package strings' Builder: String. What the machine knows of a Builder's methods. Package strings' Builder at this program: copyCheck, WriteByte, WriteString. Library functions at this program, told to the reckoning: IndexByte, Count, Itoa, Atoi, strings.Builder. The machine by reckoning: functions whose text goes with any number of blocks. What slothlaw17.awake runs through, as the machine's text; what is known of the library. Are two tables the same? A table that was lent: how it reads, and what a call leaves of it. The document's words on one instruction, and the program's. What code.Check comes to: plain definitions. code.Check. Functions of package code: what they come to. The document's Check: names, sizes, heads. code.checkCode. Conditions: none.
-/
import Derived.Test.YtjpnaaebfdnccaaGreatDoorCodePrintsUptoCardSaidC
import Derived.Shelf.Strings.BuilderK
import Derived.Test.YtjpnaaebfdnccaaGreatDoorChecked
import Derived.Lib.LaidTab
import Derived.Lib.SmallJoins
import Derived.Below
import Derived.KernelRfl
set_option linter.unusedVariables false
set_option linter.unusedSimpArgs false

section
namespace Go.Vm
set_option maxRecDepth 20000
open Go.Proofs
/- 'sloth/slothref17.instr' -/
def f46_L0 : C :=
 (.seq
  (.seq
   (.reg [⟨[], [(30, (.bin .lss (.sl 10) (.len true (.sl 7))))], [], none, [2, 6, 7, 8, 9, 10], 4, [], [], []⟩])
   (.cond (.sl 30)
    .skip
    (.seq
     (.tidy 0 [8])
     (.exit 0))))
  (.seq
   (.block 1
    (.seq
     (.reg [⟨[], [], [(.str [])], none, [2, 6, 7, 8, 9, 10], 1, [], [], []⟩])
     (.seq
      (.seq
       (.reg [⟨[], [(35, (.ix (.sl 7) (.sl 10)))], [], none, [2, 6, 7, 8, 9, 10], 3, [], [], []⟩])
       (.block 2
        (.seq
         (.reg [⟨[], [(43, (.bin .eql (.sl 35) (.int .u8 110)))], [], none, [2, 6, 7, 8, 9, 10, 35], 2, [], [], []⟩])
         (.cond (.sl 43)
          (.reg [⟨[], [(11, (.call 45 (.cons (.ld 1 false (.ia 1 (.sl 9) (.sl 10))) .nil)))], [], none, [2, 6, 7, 8, 9, 10], 6, [], [], []⟩])
          (.seq
           (.reg [⟨[], [(50, (.bin .eql (.sl 35) (.int .u8 103)))], [], none, [2, 6, 7, 8, 9, 10, 35], 2, [], [], []⟩])
           (.cond (.sl 50)
            (.reg [⟨[], [(11, (.call 44 (.cons (.ld 1 false (.fa 0 (.ia 3 (.ld 1 false (.fa 1 (.sl 2))) (.ld 1 false (.ia 1 (.sl 9) (.sl 10)))))) .nil)))], [], none, [2, 6, 7, 8, 9, 10], 11, [[], [0], [], [], [3, 2], [2, 3, 4], [4, 3, 2, 5, 0, 1], [1, 0, 5, 2, 3, 4, 6], [6, 4, 3, 2, 5, 0, 1, 7], [7, 1, 0, 5, 2, 3, 4, 6, 8], [8, 6, 4, 3, 2, 5, 0, 1, 7, 9]], [], []⟩])
            (.seq
             (.reg [⟨[], [(62, (.bin .eql (.sl 35) (.int .u8 99)))], [], none, [2, 6, 7, 8, 9, 10], 2, [], [], []⟩])
             (.cond (.sl 62)
              (.reg [⟨[], [(11, (.call 44 (.cons (.ld 1 false (.fa 0 (.ia 2 (.ld 1 false (.fa 0 (.sl 2))) (.ld 1 false (.ia 1 (.sl 9) (.sl 10)))))) .nil)))], [], none, [2, 6, 7, 8, 9, 10], 11, [[], [0], [], [], [3, 2], [2, 3, 4], [4, 3, 2, 5, 0, 1], [1, 0, 5, 2, 3, 4, 6], [6, 4, 3, 2, 5, 0, 1, 7], [7, 1, 0, 5, 2, 3, 4, 6, 8], [8, 6, 4, 3, 2, 5, 0, 1, 7, 9]], [], []⟩])
              (.reg [⟨[], [(11, (.ld 1 false (.ia 1 (.sl 6) (.ld 1 false (.ia 1 (.sl 9) (.sl 10))))))], [], none, [2, 6, 7, 8, 9, 10], 8, [], [], []⟩])))))))))
      (.reg [⟨[], [(8, (.bin .add (.bin .add (.sl 8) (.str [32])) (.sl 11)))], [], none, [2, 6, 7, 9, 10], 5, [], [], []⟩]))))
   (.reg [⟨[], [(10, (.bin .add (.sl 10) (.int .i64 1)))], [], none, [2, 6, 7, 8, 9], 3, [], [], []⟩])))
def f46 : Fun := ⟨
 (.seq
  (.reg [⟨[(2, .box (.sl 0)), (3, .box (.sl 1))], [], [(.str [])], none, [2, 3], 3, [], [], []⟩])
  (.seq
   (.reg [⟨[], [(5, (.call 85 .nil))], [], none, [2, 3], 2, [], [], []⟩])
   (.seq
    (.reg [⟨[], [(6, (.call 86 .nil))], [], none, [2, 3, 5], 2, [], [], []⟩])
    (.seq
     (.reg [⟨[], [(7, (.call 65 (.cons (.ld 1 false (.fa 0 (.sl 3))) .nil)))], [], none, [2, 3, 5, 6], 4, [], [], []⟩])
     (.seq
      (.reg [⟨[], [(8, (.ld 1 false (.ia 1 (.sl 5) (.ld 1 false (.fa 0 (.sl 3))))))], [], none, [2, 3, 6, 7], 6, [], [], []⟩])
      (.seq
       (.reg [⟨[(26, .lits 1 (.cons (.ld 1 false (.fa 1 (.sl 3))) (.cons (.ld 1 false (.fa 2 (.sl 3))) .nil)))], [(9, (.sl 26))], [], none, [2, 6, 7, 8], 6, [], [], []⟩])
       (.seq
        (.seq
         (.reg [⟨[], [(10, (.int .i64 0))], [], none, [2, 6, 7, 8, 9], 1, [], [], []⟩])
         (.block 0
          (.seq (.tidy 0 [2, 6, 7, 8, 9, 10]) (.loop (.seq (.tidy 0 [2, 6, 7, 8, 9, 10]) f46_L0)))))
        (.seq
         (.reg [⟨[], [(4, (.sl 8))], [], none, [], 2, [], [], []⟩])
         (.seq
          (.tidy 0 [4])
          .ret))))))))),
 [(.sl 4)], false⟩
theorem f46_ok : q0J Go.Proofs.Tryz.prog 46 0 2 f46 = true := by kernel_rfl

/- 'sloth/slothref17.form' -/
def f65 : Fun := ⟨
 (.seq
  (.reg [⟨[], [], [(.str [])], none, [0], 1, [], [], []⟩])
  (.seq
   (.seq
    (.reg [⟨[], [(3, (.sl 0))], [], none, [], 1, [], [], []⟩])
    (.block 0
     (.seq
      (.seq
       (.reg [⟨[], [(4, (.bin .eql (.sl 3) (.int .i64 6)))], [], none, [3], 2, [], [], []⟩])
       (.cond (.sl 4)
        .skip
        (.seq
         (.reg [⟨[], [(4, (.bin .eql (.sl 3) (.int .i64 11)))], [], none, [3], 2, [], [], []⟩])
         (.cond (.sl 4)
          .skip
          (.reg [⟨[], [(4, (.bin .eql (.sl 3) (.int .i64 17)))], [], none, [3], 2, [], [], []⟩])))))
      (.cond (.sl 4)
       (.seq
        (.reg [⟨[], [(2, (.str []))], [], none, [], 1, [], [], []⟩])
        (.seq
         (.tidy 0 [2])
         .ret))
       (.seq
        (.reg [⟨[], [(8, (.bin .eql (.sl 3) (.int .i64 2)))], [], none, [3], 2, [], [], []⟩])
        (.cond (.sl 8)
         (.seq
          (.reg [⟨[], [(2, (.str [103]))], [], none, [], 1, [], [], []⟩])
          (.seq
           (.tidy 0 [2])
           .ret))
         (.seq
          (.seq
           (.reg [⟨[], [(10, (.bin .eql (.sl 3) (.int .i64 9)))], [], none, [3], 2, [], [], []⟩])
           (.cond (.sl 10)
            .skip
            (.reg [⟨[], [(10, (.bin .eql (.sl 3) (.int .i64 10)))], [], none, [3], 2, [], [], []⟩])))
          (.cond (.sl 10)
           (.seq
            (.reg [⟨[], [(2, (.str [99]))], [], none, [], 1, [], [], []⟩])
            (.seq
             (.tidy 0 [2])
             .ret))
           (.seq
            (.reg [⟨[], [(13, (.bin .eql (.sl 3) (.int .i64 12)))], [], none, [3], 2, [], [], []⟩])
            (.cond (.sl 13)
             (.seq
              (.reg [⟨[], [(2, (.str [111]))], [], none, [], 1, [], [], []⟩])
              (.seq
               (.tidy 0 [2])
               .ret))
             (.seq
              (.reg [⟨[], [(15, (.bin .eql (.sl 3) (.int .i64 14)))], [], none, [3], 2, [], [], []⟩])
              (.cond (.sl 15)
               (.seq
                (.reg [⟨[], [(2, (.str [99, 110]))], [], none, [], 1, [], [], []⟩])
                (.seq
                 (.tidy 0 [2])
                 .ret))
               (.seq
                (.reg [⟨[], [(17, (.bin .eql (.sl 3) (.int .i64 15)))], [], none, [], 2, [], [], []⟩])
                (.cond (.sl 17)
                 (.seq
                  (.reg [⟨[], [(2, (.str [110, 110]))], [], none, [], 1, [], [], []⟩])
                  (.seq
                   (.tidy 0 [2])
                   .ret))
                 .skip))))))))))))))
   (.seq
    (.reg [⟨[], [(2, (.str [110]))], [], none, [], 1, [], [], []⟩])
    (.seq
     (.tidy 0 [2])
     .ret)))),
 [(.sl 2)], false⟩
theorem f65_ok : q0J Go.Proofs.Tryz.prog 65 0 1 f65 = true := by kernel_rfl

/- 'sloth/slothref17.words' -/
def f85 : Fun := ⟨
 (.seq
  (.reg [⟨[], [], [(.nilsl 1)], none, [], 1, [], [], []⟩])
  (.seq
   (.reg [⟨[(1, .lits 1 (.cons (.str []) (.cons (.str [112, 117, 115, 104]) (.cons (.str [103, 108, 111, 98]) (.cons (.str [105, 110, 116]) (.cons (.str [112, 111, 112]) (.cons (.str [115, 108, 105, 100, 101]) (.cons (.str [97, 112, 112, 108, 121]) (.cons (.str [117, 112, 100, 97, 116, 101]) (.cons (.str [97, 108, 108, 111, 99]) (.cons (.str [112, 97, 99, 107]) (.cons (.str [115, 112, 108, 105, 116]) (.cons (.str [101, 118, 97, 108]) (.cons (.str [97, 114, 105, 116, 104]) (.cons (.str [106, 117, 109, 112]) (.cons (.str [116, 101, 115, 116, 99, 111, 110]) (.cons (.str [116, 101, 115, 116, 105, 110, 116]) (.cons (.str [102, 97, 105, 108]) (.cons (.str [117, 110, 119, 105, 110, 100]) .nil)))))))))))))))))))], [(0, (.sl 1))], [], none, [], 2, [], [], []⟩])
   (.seq
    (.tidy 0 [0])
    .ret))),
 [(.sl 0)], false⟩
theorem f85_ok : q0J Go.Proofs.Tryz.prog 85 0 0 f85 = true := by kernel_rfl

/- 'sloth/slothref17.operators' -/
def f86 : Fun := ⟨
 (.seq
  (.reg [⟨[], [], [(.nilsl 1)], none, [], 1, [], [], []⟩])
  (.seq
   (.reg [⟨[(1, .lits 1 (.cons (.str []) (.cons (.str [43]) (.cons (.str [45]) (.cons (.str [42]) (.cons (.str [47]) (.cons (.str [37]) (.cons (.str [61, 61]) (.cons (.str [47, 61]) (.cons (.str [60]) (.cons (.str [60, 61]) (.cons (.str [62]) (.cons (.str [62, 61]) .nil)))))))))))))], [(0, (.sl 1))], [], none, [], 2, [], [], []⟩])
   (.seq
    (.tidy 0 [0])
    .ret))),
 [(.sl 0)], false⟩
theorem f86_ok : q0J Go.Proofs.Tryz.prog 86 0 0 f86 = true := by kernel_rfl

def wordsL : List Bs := [[], [112, 117, 115, 104], [103, 108, 111, 98], [105, 110, 116], [112, 111, 112], [115, 108, 105, 100, 101], [97, 112, 112, 108, 121], [117, 112, 100, 97, 116, 101], [97, 108, 108, 111, 99], [112, 97, 99, 107], [115, 112, 108, 105, 116], [101, 118, 97, 108], [97, 114, 105, 116, 104], [106, 117, 109, 112], [116, 101, 115, 116, 99, 111, 110], [116, 101, 115, 116, 105, 110, 116], [102, 97, 105, 108], [117, 110, 119, 105, 110, 100]]
def opsL : List Bs := [[], [43], [45], [42], [47], [37], [61, 61], [47, 61], [60], [60, 61], [62], [62, 61]]
def eStr (s : Bs) : List D := [.str s]
theorem eStr_eq (s) : eStr s = [.str s] := rfl
theorem ev_wordsR (K : Cx) : q0o K f85 [] [] = some (.d true (.sl 1 (wordsL.map eStr)), [], []) := by
  simp (disch := first|decide|omega|(simp only [LN];first|done|omega)) only [SV, SW, f85, Nat.reduceAdd, q0b, hNew, V.forget, V.drop1, V.ref0, V.newR, q0d, wordsL, eStr_eq]
theorem ev_opsR (K : Cx) : q0o K f86 [] [] = some (.d true (.sl 1 (opsL.map eStr)), [], []) := by
  simp (disch := first|decide|omega|(simp only [LN];first|done|omega)) only [SV, SW, f86, Nat.reduceAdd, q0b, hNew, V.forget, V.drop1, V.ref0, V.newR, q0d, opsL, eStr_eq]
def formR (op : Int) : Bs := if op = 6 ∨ op = 11 ∨ op = 17 then [] else if op = 2 then [103] else if op = 9 ∨ op = 10 then [99] else if op = 12 then [111] else if op = 14 then [99, 110] else if op = 15 then [110, 110] else [110]
theorem ev_formR (K : Cx) (op : Int) : q0o K f65 [.d false (.int .i64 op)] [] = some (.d false (.str (formR op)), [], []) := by
  unfold formR
  by_cases h1 : op = 6
  · subst h1; simp (disch := first|decide|omega|(simp only [LN];first|done|omega)) only [SV, SW, f65, q0b, Int.reduceEq]
  by_cases h2 : op = 11
  · subst h2; simp (disch := first|decide|omega|(simp only [LN];first|done|omega)) only [SV, SW, f65, Nat.reduceBEq, q0b, Int.reduceEq]
  by_cases h3 : op = 17
  · subst h3; simp (disch := first|decide|omega|(simp only [LN];first|done|omega)) only [SV, SW, f65, Nat.reduceBEq, q0b, Int.reduceEq]
  by_cases h4 : op = 2
  · subst h4; simp (disch := first|decide|omega|(simp only [LN];first|done|omega)) only [SV, SW, f65, Nat.reduceBEq, q0b, Int.reduceEq]
  by_cases h5 : op = 9
  · subst h5; simp (disch := first|decide|omega|(simp only [LN];first|done|omega)) only [SV, SW, f65, Nat.reduceBEq, q0b, Int.reduceEq]
  by_cases h6 : op = 10
  · subst h6; simp (disch := first|decide|omega|(simp only [LN];first|done|omega)) only [SV, SW, f65, Nat.reduceBEq, q0b, Int.reduceEq]
  by_cases h7 : op = 12
  · subst h7; simp (disch := first|decide|omega|(simp only [LN];first|done|omega)) only [SV, SW, f65, Nat.reduceBEq, q0b, Int.reduceEq]
  by_cases h8 : op = 14
  · subst h8; simp (disch := first|decide|omega|(simp only [LN];first|done|omega)) only [SV, SW, f65, Nat.reduceBEq, q0b, Int.reduceEq]
  by_cases h9 : op = 15
  · subst h9; simp (disch := first|decide|omega|(simp only [LN];first|done|omega)) only [SV, SW, f65, Nat.reduceBEq, q0b, Int.reduceEq]
  rw [if_neg (by omega), if_neg h4, if_neg (by omega), if_neg h7, if_neg h8, if_neg h9]
  have g1 : (op == 6) = false := by simpa using h1
  have g2 : (op == 11) = false := by simpa using h2
  have g3 : (op == 17) = false := by simpa using h3
  have g4 : (op == 2) = false := by simpa using h4
  have g5 : (op == 9) = false := by simpa using h5
  have g6 : (op == 10) = false := by simpa using h6
  have g7 : (op == 12) = false := by simpa using h7
  have g8 : (op == 14) = false := by simpa using h8
  have g9 : (op == 15) = false := by simpa using h9
  clear h1 h2 h3 h4 h5 h6 h7 h8 h9
  simp (disch := first|decide|omega|(simp only [LN];first|done|omega)) only [SV, SW, f65, g1, Nat.reduceBEq, g2, g3, g4, g5, g6, g7, g8, g9, q0b]

def pieceR (t : Table) (l : UInt8) (n : Int) : Bs := if l = 110 then Lib.itoa n else if l = 103 then quoteS (nth t.globals n).name else if l = 99 then quoteS (nth t.shapes n).name else nth opsL n
def textR (t : Table) (x : Instr) : Bs := nth wordsL x.op ++ (match formR x.op with
  | [] => []
  | [l] => 32 :: pieceR t l x.a
  | l :: m :: _ => (32 :: pieceR t l x.a) ++ (32 :: pieceR t m x.b))
def PieOk (t : Table) (l : UInt8) (n : Int) : Prop := (l = 110 ∧ -9223372036854775807 ≤ n ∧ n ≤ 9223372036854775807) ∨ (l = 103 ∧ 0 ≤ n ∧ n < t.globals.length) ∨ (l = 99 ∧ 0 ≤ n ∧ n < t.shapes.length) ∨ (l = 111 ∧ 1 ≤ n ∧ n ≤ 11)
theorem itoa_len (n : Int) (h0 : -9223372036854775807 ≤ n) (h1 : n ≤ 9223372036854775807) : (Lib.itoa n).length ≤ 20 := by
  unfold Lib.itoa
  split
  · have := decDigits_len n.natAbs (by omega); simp only [List.length_cons]; omega
  · have := decDigits_len n.toNat (by omega); omega
theorem ops_len : ∀ n : Int, 1 ≤ n → n ≤ 11 → (nth opsL n).length ≤ 2 := by
  intro n h0 h1
  have : n = 1 ∨ n = 2 ∨ n = 3 ∨ n = 4 ∨ n = 5 ∨ n = 6 ∨ n = 7 ∨ n = 8 ∨ n = 9 ∨ n = 10 ∨ n = 11 := by omega
  rcases this with rfl | rfl | rfl | rfl | rfl | rfl | rfl | rfl | rfl | rfl | rfl <;> decide
structure Nm (t : Table) : Prop where
  sn : ∀ s ∈ t.shapes, s.name.length ≤ 4096
  gn : ∀ g ∈ t.globals, g.name.length ≤ 4096
theorem quote_len (s : Bs) : (quoteS s).length ≤ 2 * s.length + 2 := by
  have := escQ_len s
  simp only [quoteS, List.length_cons, List.length_append, List.length_nil]; omega
theorem nth_in {α : Type} [Inhabited α] {l : List α} {n : Int} (h0 : 0 ≤ n) (h1 : n < l.length) : nth l n ∈ l := by
  obtain ⟨k, rfl⟩ := Int.eq_ofNat_of_zero_le h0
  exact List.mem_of_getElem? (q0U (by omega))
theorem piece_len {t : Table} (ht : Nm t) {l : UInt8} {n : Int} (h : PieOk t l n) : (pieceR t l n).length ≤ 8200 := by
  unfold pieceR
  rcases h with ⟨rfl, h0, h1⟩ | ⟨rfl, h0, h1⟩ | ⟨rfl, h0, h1⟩ | ⟨rfl, h0, h1⟩
  · rw [if_pos rfl]; have := itoa_len n h0 h1; omega
  · rw [if_neg (by decide), if_pos rfl]; have := quote_len (nth t.globals n).name; have := ht.gn _ (nth_in h0 h1); omega
  · rw [if_neg (by decide), if_neg (by decide), if_pos rfl]; have := quote_len (nth t.shapes n).name; have := ht.sn _ (nth_in h0 h1); omega
  · rw [if_neg (by decide), if_neg (by decide), if_neg (by decide)]; have := ops_len n h0 h1; omega
def M44 (K : Cx) : Prop := ∀ s : Bs, s.length ≤ 100000000 → K.call 44 [.d false (.str s)] = some (.d false (.str (quoteS s)), [])
def M45 (K : Cx) : Prop := ∀ n : Int, -9223372036854775807 ≤ n → n ≤ 9223372036854775807 → K.call 45 [.d false (.int .i64 n)] = some (.d false (.str (Lib.itoa n)), [])
def stI (t : Table) (f s : Bs) (a b i : Int) : S := ⟨[(2, .ptr 0 0 0), (6, .d true (.sl 1 (opsL.map eStr))), (7, .d false (.str f)), (8, .d false (.str s)), (9, .bsl 1 0 2), (10, .d false (.int .i64 i))], [(0, .mix 2 [tabV t]), (1, .dat true 1 [[.int .i64 a], [.int .i64 b]])], 2, []⟩
set_option maxHeartbeats 2000000 in
theorem instr_0 (K : Cx) (h44 : M44 K) (h45 : M45 K) (t : Table) (ht : Nm t) (f s : Bs) (hf : f.length ≤ 2) (h0 : 0 < f.length) (hs : s.length ≤ 10000000) (a b : Int) (hp : PieOk t (nth f 0) a) :
    lp K 0 [2, 6, 7, 8, 9, 10] f46_L0 (stI t f s a b 0) = lp K 0 [2, 6, 7, 8, 9, 10] f46_L0 (stI t f (s ++ [32] ++ pieceR t (nth f 0) a) a b 1) := by
  have hl := piece_len ht hp
  have hil : (f.length : Int) ≤ 2 := by omega
  have hop : opsL.length = 12 := rfl
  unfold pieceR at hl ⊢
  rcases hp with ⟨e, b0, b1⟩ | ⟨e, b0, b1⟩ | ⟨e, b0, b1⟩ | ⟨e, b0, b1⟩
  · rw [e] at hl ⊢
    rw [if_pos rfl] at hl ⊢
    have c := h45 a b0 b1
    have e' : ((nth f 0).toNat : Int) = 110 := by rw [e]; rfl
    clear e
    rw [q0I f46_L0.eq_1]
    simp only [stI, tabV]
    simp (disch := first|decide|omega|(simp only [LN];first|done|omega)) only [SV, SW, Nat.reduceBEq, e', Int.toNat_zero, z3R, q0d, c, Int.reduceAdd, reduceCtorEq, Nat.reduceAdd]
  · rw [e] at hl ⊢
    rw [if_neg (by decide), if_pos rfl] at hl ⊢
    have c := h44 (nth t.globals a).name (by have := ht.gn _ (nth_in b0 b1); omega)
    have e' : ((nth f 0).toNat : Int) = 103 := by rw [e]; rfl
    clear e
    rw [q0I f46_L0.eq_1]
    simp only [stI, tabV]
    simp (disch := first|decide|omega|(simp only [LN];first|done|omega)) only [SV, SW, Nat.reduceBEq, e', Int.toNat_zero, z3R, q0k, q0d, c, Int.reduceAdd, reduceCtorEq, Nat.reduceAdd]
  · rw [e] at hl ⊢
    rw [if_neg (by decide), if_neg (by decide), if_pos rfl] at hl ⊢
    have c := h44 (nth t.shapes a).name (by have := ht.sn _ (nth_in b0 b1); omega)
    have e' : ((nth f 0).toNat : Int) = 99 := by rw [e]; rfl
    clear e
    rw [q0I f46_L0.eq_1]
    simp only [stI, tabV]
    simp (disch := first|decide|omega|(simp only [LN];first|done|omega)) only [SV, SW, Nat.reduceBEq, e', Int.toNat_zero, z3R, q0g, q0d, c, Int.reduceAdd, reduceCtorEq, Nat.reduceAdd]
  · rw [e] at hl ⊢
    rw [if_neg (by decide), if_neg (by decide), if_neg (by decide)] at hl ⊢
    have e' : ((nth f 0).toNat : Int) = 111 := by rw [e]; rfl
    clear e
    rw [q0I f46_L0.eq_1]
    simp only [stI, tabV]
    simp (disch := first|decide|omega|(simp only [LN];first|done|omega)) only [SV, SW, Nat.reduceBEq, e', Int.toNat_zero, z3R, eStr_eq, Int.reduceAdd, reduceCtorEq, Nat.reduceAdd]
set_option maxHeartbeats 2000000 in
theorem instr_1 (K : Cx) (h44 : M44 K) (h45 : M45 K) (t : Table) (ht : Nm t) (f s : Bs) (hf : f.length ≤ 2) (h0 : 1 < f.length) (hs : s.length ≤ 10000000) (a b : Int) (hp : PieOk t (nth f 1) b) :
    lp K 0 [2, 6, 7, 8, 9, 10] f46_L0 (stI t f s a b 1) = lp K 0 [2, 6, 7, 8, 9, 10] f46_L0 (stI t f (s ++ [32] ++ pieceR t (nth f 1) b) a b 2) := by
  have hl := piece_len ht hp
  have hil : (f.length : Int) ≤ 2 := by omega
  have hop : opsL.length = 12 := rfl
  unfold pieceR at hl ⊢
  rcases hp with ⟨e, b0, b1⟩ | ⟨e, b0, b1⟩ | ⟨e, b0, b1⟩ | ⟨e, b0, b1⟩
  · rw [e] at hl ⊢
    rw [if_pos rfl] at hl ⊢
    have c := h45 b b0 b1
    have e' : ((nth f 1).toNat : Int) = 110 := by rw [e]; rfl
    clear e
    rw [q0I f46_L0.eq_1]
    simp only [stI, tabV]
    simp (disch := first|decide|omega|(simp only [LN];first|done|omega)) only [SV, SW, Nat.reduceBEq, e', Int.reduceToNat, z3R, q0d, c, Int.reduceAdd, reduceCtorEq, Nat.reduceAdd]
  · rw [e] at hl ⊢
    rw [if_neg (by decide), if_pos rfl] at hl ⊢
    have c := h44 (nth t.globals b).name (by have := ht.gn _ (nth_in b0 b1); omega)
    have e' : ((nth f 1).toNat : Int) = 103 := by rw [e]; rfl
    clear e
    rw [q0I f46_L0.eq_1]
    simp only [stI, tabV]
    simp (disch := first|decide|omega|(simp only [LN];first|done|omega)) only [SV, SW, Nat.reduceBEq, e', Int.reduceToNat, z3R, q0k, q0d, c, Int.reduceAdd, reduceCtorEq, Nat.reduceAdd]
  · rw [e] at hl ⊢
    rw [if_neg (by decide), if_neg (by decide), if_pos rfl] at hl ⊢
    have c := h44 (nth t.shapes b).name (by have := ht.sn _ (nth_in b0 b1); omega)
    have e' : ((nth f 1).toNat : Int) = 99 := by rw [e]; rfl
    clear e
    rw [q0I f46_L0.eq_1]
    simp only [stI, tabV]
    simp (disch := first|decide|omega|(simp only [LN];first|done|omega)) only [SV, SW, Nat.reduceBEq, e', Int.reduceToNat, z3R, q0g, q0d, c, Int.reduceAdd, reduceCtorEq, Nat.reduceAdd]
  · rw [e] at hl ⊢
    rw [if_neg (by decide), if_neg (by decide), if_neg (by decide)] at hl ⊢
    have e' : ((nth f 1).toNat : Int) = 111 := by rw [e]; rfl
    clear e
    rw [q0I f46_L0.eq_1]
    simp only [stI, tabV]
    simp (disch := first|decide|omega|(simp only [LN];first|done|omega)) only [SV, SW, Nat.reduceBEq, e', Int.reduceToNat, z3R, eStr_eq, Int.reduceAdd, reduceCtorEq, Nat.reduceAdd]
theorem instr_end (K : Cx) (t : Table) (f s : Bs) (hf : f.length ≤ 2) (a b : Int) : lp K 0 [2, 6, 7, 8, 9, 10] f46_L0 (stI t f s a b f.length) = some (.exit 0, ⟨[(8, .d false (.str s))], [], 0, []⟩) := by
  rw [q0I f46_L0.eq_1]
  simp only [stI, tabV]
  simp (disch := first|decide|omega|(simp only [LN];first|done|omega)) only [SV, SW, Nat.reduceBEq]
structure InsOk (t : Table) (x : Instr) : Prop where
  op : 1 ≤ x.op ∧ x.op < 18
  a : 0 < (formR x.op).length → PieOk t (nth (formR x.op) 0) x.a
  b : 1 < (formR x.op).length → PieOk t (nth (formR x.op) 1) x.b
theorem words_len : ∀ n : Int, 1 ≤ n → n < 18 → (nth wordsL n).length ≤ 10 := by
  intro n h0 h1
  have : n = 1 ∨ n = 2 ∨ n = 3 ∨ n = 4 ∨ n = 5 ∨ n = 6 ∨ n = 7 ∨ n = 8 ∨ n = 9 ∨ n = 10 ∨ n = 11 ∨ n = 12 ∨ n = 13 ∨ n = 14 ∨ n = 15 ∨ n = 16 ∨ n = 17 := by omega
  rcases this with rfl | rfl | rfl | rfl | rfl | rfl | rfl | rfl | rfl | rfl | rfl | rfl | rfl | rfl | rfl | rfl | rfl <;> decide
theorem formR_len (op : Int) : (formR op).length ≤ 2 := by unfold formR; repeat' split
                                                           all_goals decide
theorem instr_all (K : Cx) (h44 : M44 K) (h45 : M45 K) (t : Table) (ht : Nm t) (x : Instr) (hx : InsOk t x) :
    lp K 0 [2, 6, 7, 8, 9, 10] f46_L0 (stI t (formR x.op) (nth wordsL x.op) x.a x.b 0) = some (.exit 0, ⟨[(8, .d false (.str (textR t x)))], [], 0, []⟩) ∧ (textR t x).length ≤ 16500 := by
  have hw := words_len x.op hx.op.1 hx.op.2
  have hf := formR_len x.op
  have ha := hx.a
  have hb := hx.b
  unfold textR
  generalize formR x.op = f at *
  match f, hf with
  | [], hf => exact ⟨by simpa using instr_end K t [] (nth wordsL x.op) hf x.a x.b, by simp; omega⟩
  | [l], hf =>
    have pa := ha (by simp)
    have la := piece_len ht pa
    have e1 := instr_0 K h44 h45 t ht [l] (nth wordsL x.op) hf (by simp) (by omega) x.a x.b pa
    have e2 := instr_end K t [l] (nth wordsL x.op ++ [32] ++ pieceR t (nth [l] 0) x.a) hf x.a x.b
    have hn : nth [l] 0 = l := rfl
    rw [hn] at e1 e2 la
    refine ⟨?_, by simp only [List.length_append, List.length_cons]; omega⟩
    rw [e1]
    simp only [List.length_singleton, Int.natCast_one] at e2
    rw [e2]; simp
  | [l, m], hf =>
    have pa := ha (by simp)
    have pb := hb (by simp)
    have la := piece_len ht pa
    have lb := piece_len ht pb
    have hn : nth [l, m] 0 = l := rfl
    have hn1 : nth [l, m] 1 = m := rfl
    rw [hn] at la
    rw [hn1] at lb
    have e1 := instr_0 K h44 h45 t ht [l, m] (nth wordsL x.op) hf (by simp) (by omega) x.a x.b pa
    have e2 := instr_1 K h44 h45 t ht [l, m] (nth wordsL x.op ++ [32] ++ pieceR t l x.a) hf (by simp) (by simp only [List.length_append, List.length_cons, List.length_nil]; omega) x.a x.b pb
    have e3 := instr_end K t [l, m] (nth wordsL x.op ++ [32] ++ pieceR t l x.a ++ [32] ++ pieceR t m x.b) hf x.a x.b
    rw [hn] at e1
    rw [hn1] at e2
    refine ⟨?_, by simp only [List.length_append, List.length_cons]; omega⟩
    rw [e1, e2]
    rw [show (([l, m] : Bs).length : Int) = 2 from rfl] at e3
    rw [e3]; simp
  | _ :: _ :: _ :: _, hf => simp at hf
theorem text_len {t : Table} (ht : Nm t) {x : Instr} (hx : InsOk t x) : (textR t x).length ≤ 16500 := by
  have hw := words_len x.op hx.op.1 hx.op.2
  have hf := formR_len x.op
  have ha := hx.a
  have hb := hx.b
  unfold textR
  generalize formR x.op = f at *
  match f, hf with
  | [], hf => simp; omega
  | [l], hf =>
    have la := piece_len ht (ha (by simp))
    have hn : nth [l] 0 = l := rfl
    rw [hn] at la
    simp only [List.length_append, List.length_cons]; omega
  | [l, m], hf =>
    have la := piece_len ht (ha (by simp))
    have lb := piece_len ht (hb (by simp))
    have hn : nth [l, m] 0 = l := rfl
    have hn1 : nth [l, m] 1 = m := rfl
    rw [hn] at la
    rw [hn1] at lb
    simp only [List.length_append, List.length_cons]; omega
  | _ :: _ :: _ :: _, hf => simp at hf
def M46 (K : Cx) : Prop := K.call 85 [] = some (.d true (.sl 1 (wordsL.map eStr)), []) ∧ K.call 86 [] = some (.d true (.sl 1 (opsL.map eStr)), []) ∧ ∀ op : Int, K.call 65 [.d false (.int .i64 op)] = some (.d false (.str (formR op)), [])
set_option maxHeartbeats 1000000 in
theorem ev_instr (K : Cx) (h44 : M44 K) (h45 : M45 K) (h46 : M46 K) (t : Table) (ht : Nm t) (x : Instr) (hx : InsOk t x) :
    q0o K f46 [.agg (tabV t), .agg [.d false (.int .i64 x.op), .d false (.int .i64 x.a), .d false (.int .i64 x.b)]] [] = some (.d false (.str (textR t x)), [], []) := by
  obtain ⟨l0, hl⟩ := instr_all K h44 h45 t ht x hx
  obtain ⟨c1, c2, c3⟩ := h46
  have c3 := c3 x.op
  obtain ⟨o1, o2⟩ := hx.op
  have hw : wordsL.length = 18 := rfl
  simp only [stI, tabV] at l0
  clear h44 h45 ht hx
  simp only [tabV]
  simp (disch := first|decide|omega|(simp only [LN];first|done|omega)) only [SV, SW, f46, Nat.reduceAdd, Nat.reduceBEq, c1, c2, q0d, c3, eStr_eq, reduceCtorEq, l0, q0b]
end Go.Vm
end

section
namespace Go.Vm
set_option maxRecDepth 20000
open Go.Proofs
theorem q6u{α β:Type}{f:α→Option β}:∀ {l:List α}{r:List β},r.length=l.length→(∀(j:Nat)(x:α),l[j]? = some x→f x=r[j]?)→mapO f l=some r
 |[],[],_,_=>rfl
 |[],_ :: _,h,_=>by simp at h
 |_ :: _,[],h,_=>by simp at h
 |a :: l,b :: r,h,hf=>by
  have h0:=hf 0 a rfl
  have ih:=q6u (f:=f) (l:=l) (r:=r) (by simpa using h) (fun j x hx=>hf (j+1) x hx)
  simp only[List.getElem?_cons_zero] at h0
  simp only[mapO,h0,ih]
theorem q1w(p m b:Nat):(List.range' p m).contains b=decide (p≤b∧b<p+m):=by
 rw[Bool.eq_iff_iff]
 simp only[List.contains_eq_mem,decide_eq_true_eq,List.mem_range'_1]
theorem q98{p m j:Nat}(h:j<m):(List.range' p m).idxOf (p+j)=j:=by
 have h1:(List.range' p m)[j]? = some (p+j):=by simp [h]
 exact z4j (List.nodup_range' (step:=1)) h1
theorem z8U(p m j b:Nat)(h:(List.range' p m)[j]? = some b):j<m∧b=p+j:=by
 obtain⟨h1,h2⟩:=List.getElem?_eq_some_iff.1 h
 simp only[List.length_range'] at h1
 refine⟨h1,?_⟩
 rw[←h2]
 simp
theorem q6t{α β:Type}{f:α→Option β}{t t':List α}{t2:List β}(h:mapO f t=some t2):∀ {l:List α}{l2:List β},mapO f l=some l2→mapO f (l++t)=some (l2++t2)
 |[],l2,h1=>by cases h1;simpa using h
 |a :: l,l2,h1=>by
  simp only[mapO] at h1
  cases ha:f a with
  |none=>simp [ha] at h1
  |some b=>
   cases hl:mapO f l with
   |none=>simp [ha,hl] at h1
   |some bs=>
    simp only[ha,hl,Option.some.injEq] at h1
    subst h1
    have:=q6t (t':=t) h hl
    simp only[List.cons_append,mapO,ha,this]
theorem z4Y{zz:Bool}{bs:List Nat}{H:List (Nat×Blk)}{q q':Nat}{g:Glob}(h1:bs.contains q=true)(h2:bs.idxOf q=q'):mapO (finC zz bs H) (rowG (q,g))=some (rowG (q',g)):=by
 have e:finC zz bs H (.bsx q 0 g.code.length)=some (.bsx q' 0 g.code.length):=by simp only[finC,h1,h2,if_true]
 simp only[rowG,mapO,finC,h1,h2,if_true]
theorem z1b{zz:Bool}{bs:List Nat}{H:List (Nat×Blk)}:∀(gs:List Glob)(q q':Nat),(∀ i,i<gs.length→bs.contains (q+i)=true∧bs.idxOf (q+i)=q'+i)→mapO (mapO (finC zz bs H)) ((numG q gs).map rowG)=some ((numG q' gs).map rowG)
 |[],_,_,_=>rfl
 |g :: r,q,q',h=>by
  have h0:=h 0 (by simp)
  have ih:=z1b (zz:=zz) (bs:=bs) (H:=H) r (q+1) (q'+1) fun i hi=>by
   have:=h (i+1) (by simp;omega)
   rw[show q+1+i=q+(i+1) by omega,show q'+1+i=q'+(i+1) by omega];exact this
  simp only[Nat.add_zero] at h0
  simp only[numG,List.map_cons,mapO,z4Y h0.1 h0.2,ih]
theorem TB.fin{H:List (Nat×Blk)}{p:Nat}{z zz:Bool}{t:Table}(h:TB H p z t):mapO (finB zz (List.range' p (t.globals.length+2)) H) (List.range' p (t.globals.length+2))=some (tblk z 2 t):=by
 refine q6u (by simp [q1O]) fun j b hb=>?_
 obtain⟨hj,rfl⟩:=z8U _ _ _ _ hb
 match j,hj with
 |0,_=>simp only[finB,Nat.add_zero,h.s];rfl
 |1,_=>
  show finB _ _ _ _=some (gB z 2 t.globals)
  simp only[finB,h.g]
  by_cases hg:t.globals=[]
  ·simp only[gB,if_pos hg]
  ·simp only[gB,if_neg hg]
   rw[q6t (t':=[]) (t2:=[behG z,behG z]) rfl (z1b t.globals (p+2) 2 fun i hi=>⟨by rw[q1w,decide_eq_true_eq];omega,by rw[show p+2+i=p+(2+i) by omega];exact q98 (by omega)⟩)]
   rfl
 |j+2,hj=>
  rw[show p+(j+2)=p+2+j by omega]
  simp only[finB,h.c j (by omega),cB]
  simp only[tblk,List.getElem?_cons_succ,List.getElem?_map,q0U (show j<t.globals.length by omega),Option.map_some,cB]
theorem z61(K:Cx)(t:Table)(ht:Sm t):q0o K f12 [.agg (tabV t)] []=some (.agg [.bsx 0 0 t.shapes.length,.bsx 1 0 t.globals.length],tblk true 2 t,[]):=by
 obtain⟨H,e,h1,h2,h3,h4⟩:=z4C K t ht
 have hT:TB H 2 true t:=⟨h2,h3,h4⟩
 have hr:=hT.reach
 have hf:=hT.fin (zz:=true)
 have hv:mapO (ev K ⟨[(2,.ptr 1 0 0)],H,4+t.globals.length,[]⟩) f12.res=some [.agg [.bsx 2 0 t.shapes.length,.bsx 3 0 t.globals.length]]:=by
  simp(disch:=first|decide|omega|(simp only[LN];first|done|omega)) only[SV,SW,f12,h1,Nat.reduceAdd]
 unfold q0o
 rw[e]
 simp only[hv]
 unfold finish
 have e1:f12.own=true:=rfl
 have e2:List.range ([]:List Blk).length++(q0b [V.agg [.bsx 2 0 t.shapes.length,.bsx 3 0 t.globals.length]]).refs=[2,3]:=rfl
 rw[e1,if_pos rfl,e2,hr]
 have c2:(List.range' 2 (t.globals.length+2)).contains 2=true:=by rw[q1w,decide_eq_true_eq];omega
 have c3:(List.range' 2 (t.globals.length+2)).contains 3=true:=by rw[q1w,decide_eq_true_eq];omega
 have i2:(List.range' 2 (t.globals.length+2)).idxOf 2=0:=q98 (j:=0) (by omega)
 have i3:(List.range' 2 (t.globals.length+2)).idxOf 3=1:=q98 (j:=1) (by omega)
 have hfv:finV true (List.range' 2 (t.globals.length+2)) H (q0b [V.agg [.bsx 2 0 t.shapes.length,.bsx 3 0 t.globals.length]])=some (.agg [.bsx 0 0 t.shapes.length,.bsx 1 0 t.globals.length]):=by
  simp only[q0b,finV,finA,mapO,finC,c2,c3,i2,i3,if_true,Option.map_some]
 have hnd:(List.range' 2 (t.globals.length+2)).Nodup:=List.nodup_range' (step:=1)
 simp only[List.length_nil,hnd,decide_true,List.take_zero,List.range_zero,Bool.and_self,if_true,beq_self_eq_true,hfv,hf,List.filter_nil]
end Go.Vm
end

section
namespace Go.Vm
set_option maxRecDepth 20000
open Go.Proofs
/- 'sloth/slothlaw17.kept' -/
def f16_L0:C:= (.seq (.seq (.reg [⟨[],[(60,(.bin .lss (.sl 7) (.sl 5)))],[],none,[1,5,7],3,[],[],[]⟩]) (.cond (.sl 60) .skip (.seq (.keep []) (.exit 0)))) (.seq (.block 1 (.seq (.reg [⟨[],[(8,(.len false (.ld 1 false (.fa 2 (.ia 3 (.ld 1 false (.fa 1 (.sl 1))) (.sl 7))))))],[],none,[1,5,7],8,[],[],[]⟩]) (.seq (.reg [⟨[],[(9,(.cut false false true false 3 (.ld 1 false (.fa 2 (.ia 3 (.ld 1 false (.fa 1 (.sl 1))) (.sl 7)))) .nil (.bin .add (.sl 8) (.int .i64 2)) .nil))],[],none,[1,5,7,8],10,[],[],[]⟩]) (.seq (.reg [⟨[],[(93,(.or (.bin .neq (.ld 1 false (.fa 0 (.ia 3 (.sl 9) (.sl 8)))) (.int .i64 (-77))) (.bin .neq (.ld 1 false (.fa 0 (.ia 3 (.sl 9) (.bin .add (.sl 8) (.int .i64 1))))) (.int .i64 (-77)))))],[],none,[1,5,7],15,[],[],[]⟩]) (.cond (.sl 93) (.seq (.reg [⟨[],[(2,(.bool false))],[],none,[],1,[],[],[]⟩]) (.seq (.keep [2]) .ret)) .skip))))) (.reg [⟨[],[(7,(.bin .add (.sl 7) (.int .i64 1)))],[],none,[1,5],3,[],[],[]⟩])))
def f16:Fun:=⟨ (.seq (.reg [⟨[(1,.box (.sl 0))],[],[(.bool false)],none,[1],2,[],[],[]⟩]) (.seq (.reg [⟨[],[(3,(.len false (.ld 1 false (.fa 0 (.sl 1)))))],[],none,[1],4,[],[],[]⟩]) (.seq (.reg [⟨[],[(4,(.cut false false true false 2 (.ld 1 false (.fa 0 (.sl 1))) .nil (.bin .add (.sl 3) (.int .i64 2)) .nil))],[],none,[1,3],6,[],[],[]⟩]) (.seq (.reg [⟨[],[(5,(.len false (.ld 1 false (.fa 1 (.sl 1)))))],[],none,[1,3,4],4,[],[],[]⟩]) (.seq (.reg [⟨[],[(6,(.cut false false true false 3 (.ld 1 false (.fa 1 (.sl 1))) .nil (.bin .add (.sl 5) (.int .i64 2)) .nil))],[],none,[1,3,4,5],6,[],[],[]⟩]) (.seq (.seq (.reg [⟨[],[(57,(.or (.or (.or (.bin .neq (.ld 1 false (.fa 0 (.ia 2 (.sl 4) (.sl 3)))) (.str [98,101,104,105,110,100])) (.bin .neq (.ld 1 false (.fa 0 (.ia 2 (.sl 4) (.bin .add (.sl 3) (.int .i64 1))))) (.str [98,101,104,105,110,100]))) (.bin .neq (.ld 1 false (.fa 0 (.ia 3 (.sl 6) (.sl 5)))) (.str [98,101,104,105,110,100]))) (.bin .neq (.ld 1 false (.fa 0 (.ia 3 (.sl 6) (.bin .add (.sl 5) (.int .i64 1))))) (.str [98,101,104,105,110,100]))))],[],none,[1,5],32,[],[],[]⟩]) (.cond (.sl 57) (.seq (.reg [⟨[],[(2,(.bool false))],[],none,[],1,[],[],[]⟩]) (.seq (.keep [2]) .ret)) .skip)) (.seq (.seq (.reg [⟨[],[(7,(.int .i64 0))],[],none,[1,5],1,[],[],[]⟩]) (.block 0 (.seq (.keep [1,5,7]) (.loop (.seq (.keep [1,5,7]) f16_L0))))) (.seq (.reg [⟨[],[(2,(.bool true))],[],none,[],1,[],[],[]⟩]) (.seq (.keep [2]) .ret))))))))), [(.sl 2)],false⟩
theorem z9A(m:Nat):q0J Go.Proofs.Tryz.prog 16 m 1 f16=true:=by kernel_rfl
theorem q7n(t:Table)(z:Bool):TB (indexed (tblk z 2 t)) 0 z t:=
  ⟨by rw[q0Y];rfl,by rw[q0Y];rfl,fun j hj=>by
    rw[q0Y,show 0+2+j=j+2 by omega]
    simp only[tblk,List.getElem?_cons_succ,List.getElem?_map,q0U hj,Option.map_some]⟩
theorem TB.mono{H H':List (Nat×Blk)}{p:Nat}{z:Bool}{t:Table}(h:TB H p z t)(hH:∀ b,p≤b→b<p+(t.globals.length+2)→look H' b=look H b):TB H' p z t:=
  ⟨by rw[hH _ (by omega) (by omega)];exact h.s,by rw[hH _ (by omega) (by omega)];exact h.g,fun j hj=>by rw[hH _ (by omega) (by omega)];exact h.c j hj⟩
theorem gB_k(z p gs):(gB z p gs).k=3:=by unfold gB;split <;> rfl
theorem q5r{z p}{gs:List Glob}{i:Nat}(h:i<gs.length):(gB z p gs).row? i=some (rowG (p+i,nth gs i)):=by
  have hne:gs≠[]:=by intro e;rw[e] at h;simp at h
  unfold gB
  rw[if_neg hne,q2v,List.getElem?_append_left (by simpa [q1c] using h),List.getElem?_map,q4o,q0U h];rfl
theorem z4T(z p)(gs:List Glob){j:Nat}(h:j<2):∃ X,(gB z p gs).row? (gs.length+j)=some [.d false (.str behN),.d false (.int .i64 0),X]:=by
  unfold gB
  by_cases he:gs=[]
  · subst he
    rw[if_pos rfl,z3R]
    match j,h with
    |0,_=>exact⟨_,rfl⟩
    |1,_=>exact⟨_,rfl⟩
  · rw[if_neg he,q2v,List.getElem?_append_right (by simp [q1c]),List.length_map,q1c,Nat.add_sub_cancel_left]
    match j,h with
    |0,_=>exact⟨_,rfl⟩
    |1,_=>exact⟨_,rfl⟩
theorem z9r(z p gs H b)(h:look H b=some (gB z p gs)):q4i H b=gs.length+2:=by
  unfold q4i gB at *
  rw[h]
  by_cases he:gs=[]
  · subst he;rfl
  · simp only[if_neg he,List.length_append,List.length_map,q1c];rfl
theorem j0q(l:List Instr):nth (finI l) (l.length:Int)=mkI:=by
  have:l.length<(finI l).length:=by simp [finI]
  rw[q05,List.getD_eq_getElem?_getD,finI,List.getElem?_append_right (Nat.le_refl _),Nat.sub_self];rfl
theorem j0p(l:List Instr):nth (finI l) ((l.length:Int)+1)=mkI:=by
  rw[show((l.length:Int)+1)=((l.length+1:Nat):Int) by omega,q05,List.getD_eq_getElem?_getD,finI,List.getElem?_append_right (by omega),show l.length+1 - l.length=1 by omega];rfl
theorem j0o(t:Table):nth (finS t) (t.shapes.length:Int)=behS:=by
  rw[q05,List.getD_eq_getElem?_getD,finS,List.getElem?_append_right (Nat.le_refl _),Nat.sub_self];rfl
theorem j0n(t:Table):nth (finS t) ((t.shapes.length:Int)+1)=behS:=by
  rw[show((t.shapes.length:Int)+1)=((t.shapes.length+1:Nat):Int) by omega,q05,List.getD_eq_getElem?_getD,finS,List.getElem?_append_right (by omega),show t.shapes.length+1 - t.shapes.length=1 by omega];rfl
theorem q8f(l):(finI l).length=l.length+2:=by simp [finI]
theorem z7c(t):(finS t).length=t.shapes.length+2:=by simp [finS]
theorem z4F(K:Cx)(t:Table)(ht:Sm t)(b:Nat)(H:List (Nat×Blk))(nx:Nat)(mv:List Nat)(z:Bool)(hT:TB H 0 z t)(hb:look H b=some (.mix 2 [[.bsx 0 0 t.shapes.length,.bsx 1 0 t.globals.length]])):∀(k i:Nat),i+k=t.globals.length→
    lpk K [1,5,7] f16_L0 ⟨[(1,.ptr b 0 0),(5,.d false (.int .i64 t.globals.length)),(7,.d false (.int .i64 i))],H,nx,mv⟩=some (.exit 0,⟨[],H,nx,mv⟩):=by
  have hgl:=ht.gl
  have h1:look H 1=some (gB z 2 t.globals):=hT.g
  intro k
  induction k with
  |zero=>
    intro i hi
    obtain rfl:i=t.globals.length:=by omega
    rw[q1n f16_L0.eq_1]
    simp(disch:=first|decide|omega|(simp only[LN];first|done|omega)) only[SV,SW,Int.reduceNeg,Nat.reduceBEq,q0v,q0y,q2b]
  |succ k ih=>
    intro i hi
    have ih:=ih (i+1) (by omega)
    have hi2:i<t.globals.length:=by omega
    generalize hg:nth t.globals (i:Int)=g
    have hm:g∈t.globals:=by rw[←hg,q05,List.getD_eq_getElem?_getD,List.getElem?_eq_getElem hi2];exact List.getElem_mem hi2
    have hcl:=ht.cd g hm
    have hr:(gB z 2 t.globals).row? i=some (rowG (2+i,g)):=by rw[q5r hi2,hg]
    have hc:look H (2+i)=some (.dat z 3 ((finI g.code).map q0j)):=by have:=hT.c i hi2;rw[hg] at this;simpa [cB] using this
    have hia:=q3o (k:=3) (b:=1) (i:=0) (len:=t.globals.length) (n:=(i:Int)) (gB_k z 2 t.globals) (by omega) (by omega)
    have hcut:=q3F H 3 (2+i) g.code.length (.tup []) (.tup []) false .i64 ((g.code.length:Int)+2) (by simp [q15,hc,Blk.k]) (by omega) (.inr (by simp [q4i,hc,finI]))
    have n0:=j0q g.code
    have n1:=j0p g.code
    have n2:nth (finI g.code) ((g.code.length+1:Nat):Int)=mkI:=by rw[Int.natCast_add];exact n1
    have fl:=q8f g.code
    rw[←ih]
    clear ih hm hT
    rw[q1n f16_L0.eq_1]
    simp only[rowG] at hr
    simp only[mkI] at n0 n1 n2
    simp(disch:=first|decide|omega|(simp only[LN];first|done|omega)) only[SV,SW,Int.reduceNeg,Nat.reduceBEq,hb,h1,hia,hr,hcut,q3y,hc,n0,q0e,n2,q1o,q0y,Nat.reduceEqDiff]
    rfl
theorem z67(K:Cx)(t:Table)(ht:Sm t):q0o K f16 [.agg [.bsx 0 0 t.shapes.length,.bsx 1 0 t.globals.length]] (tblk false 2 t)=some (.d false (.bool true),tblk false 2 t,[]):=by
  have hs:=ht.sh
  have hgl:=ht.gl
  have hT0:=q7n t false
  have hln:=q1O false 2 t
  generalize hH:indexed (tblk false 2 t)=H0 at hT0
  have hT:TB ((t.globals.length+2,.mix 2 [[.bsx 0 0 t.shapes.length,.bsx 1 0 t.globals.length]]) :: H0) 0 false t:=hT0.mono fun b _ hb=>q21 _ _ (by omega)
  have hb:look ((t.globals.length+2,Blk.mix 2 [[.bsx 0 0 t.shapes.length,.bsx 1 0 t.globals.length]]) :: H0) (t.globals.length+2)=some (.mix 2 [[.bsx 0 0 t.shapes.length,.bsx 1 0 t.globals.length]]):=q79 _ _ _
  generalize hH1:(t.globals.length+2,Blk.mix 2 [[.bsx 0 0 t.shapes.length,.bsx 1 0 t.globals.length]]) :: H0=H at hT hb
  have hl:=z4F K t ht (t.globals.length+2) H (t.globals.length+2+1) [] false hT hb t.globals.length 0 (by omega)
  have h0:look H 0=some (.dat false 2 ((finS t).map q0c)):=hT.s
  have h1:look H 1=some (gB false 2 t.globals):=hT.g
  have cut1:=q3F H 2 0 t.shapes.length (.tup []) (.tup []) false .i64 ((t.shapes.length:Int)+2) (by simp [q15,h0,Blk.k]) (by omega) (.inr (by simp [q4i,h0,finS]))
  have cut2:=q3F H 3 1 t.globals.length (.tup []) (.tup []) false .i64 ((t.globals.length:Int)+2) (by simp [q15,h1,gB_k]) (by omega) (.inr (by rw[z9r _ _ _ _ _ h1];omega))
  have n0:=j0o t
  have n1:=j0n t
  have n2:nth (finS t) ((t.shapes.length+1:Nat):Int)=behS:=by rw[Int.natCast_add];exact n1
  have fl:=z7c t
  obtain⟨X0,r0⟩:=z4T false 2 t.globals (j:=0) (by omega)
  obtain⟨X1,r1⟩:=z4T false 2 t.globals (j:=1) (by omega)
  rw[Nat.add_zero] at r0
  have hia:=q3o (k:=3) (b:=1) (i:=0) (len:=t.globals.length+2) (n:=(t.globals.length:Int)) (gB_k false 2 t.globals) (by omega) (by omega)
  have hia':=q3o (k:=3) (b:=1) (i:=0) (len:=t.globals.length+2) (n:=(t.globals.length:Int)+1) (gB_k false 2 t.globals) (by omega) (by omega)
  have hfin:=hT.fin (zz:=((t.globals.length+2)==0))
  rw[←List.range_eq_range'] at hfin
  simp only[behS,behN] at n0 n1 n2
  simp only[behN] at r0 r1
  simp only[Int.natCast_zero] at hl
  clear hT hT0
  rw[show f16=⟨f16.body,f16.res,false⟩ from rfl,q4h]
  rw[show startS [.agg [.bsx 0 0 t.shapes.length,.bsx 1 0 t.globals.length]] (tblk false 2 t)=⟨[(0,.agg [.bsx 0 0 t.shapes.length,.bsx 1 0 t.globals.length])],H0,t.globals.length+2,[]⟩ by simp only[startS,hH,hln];rfl]
  simp only[hln]
  simp(disch:=first|decide|omega|(simp only[LN];first|done|omega)) only[f16,q1U,q25,q00,q27,q2N,q4A,e_sl,q2e,beq_self_eq_true,q1y,q2X,mkBox,V.laid,V.cells,List.length_cons,List.length_nil,Nat.zero_add,Nat.reduceAdd,if_true,q6r,q4k,Nat.reduceBEq,q2G,q6e,q2j,q6q,List.append_nil,q3R,q2P,q49,z5s,Option.isSome_some,q2k,Bool.and_self,q1B,q16,q0Q,q1i,q19,q0X,List.nil_append,addBlks,hH1,q2U,q2q,q2S,q1j,z7x,e_ld,e_fa,evFa,Nat.add_zero,q29,hb,q6A,q2v,List.getElem?_cons_zero,q6z,List.drop_zero,q5J,evLen,q3S,q3X,List.cons_append,j1O,z5r,z7z,z7y,evBin,intBin,z0H,z4e,cut1,q3y,List.drop_succ_cons,cut2,e_or,e_ia,z1g,h0,z4J,Int.toNat_natCast,z0T,n0,q0g,List.map_cons,mkd,D.flat,List.map_nil,j1N,strBin,decide_true,Bool.not_true,q4R,n2,q7Y,Bool.or_self,h1,hia,r0,hia',r1,q6T,q65,q6S,q3D,q0v,q0y,q1X,Nat.reduceEqDiff,q2I,if_false,q1A,hl,q5U,q8g,q5O,q3k,q20,q6v,Option.map_some,q0b]
  unfold finish
  have hnd:(List.range (t.globals.length+2)).Nodup:=List.nodup_range
  simp only[Bool.false_eq_true,if_false,hnd,decide_true,List.take_of_length_le (show(List.range (t.globals.length+2)).length≤t.globals.length+2 by simp),Bool.and_self,if_true,hfin]
  rw[show finV (t.globals.length+2==0) (List.range (t.globals.length+2)) H (V.bool true)=some (V.bool true) from rfl]
  simp
end Go.Vm
end

section
namespace Go.Vm
set_option maxRecDepth 20000
open Go.Proofs
/- 'sloth/slothlaw17.turn' -/
def f17_L0:C:=
 (.seq
  (.seq
   (.reg [⟨[],[(22,(.bin .lss (.sl 4) (.len false (.ld 1 false (.fa 2 (.ia 3 (.ld 1 false (.fa 1 (.sl 1))) (.sl 3)))))))],[],none,[1,2,3,4],9,[],[],[]⟩])
   (.cond (.sl 22)
    .skip
    (.seq
     (.keep [1,2,3])
     (.exit 2))))
  (.seq
   (.block 3
    (.seq
     (.reg [⟨[],[(35,(.bin .eql (.ld 1 false (.fa 0 (.ia 3 (.ld 1 false (.fa 2 (.ia 3 (.ld 1 false (.fa 1 (.sl 1))) (.sl 3)))) (.sl 4)))) (.int .i64 3)))],[],none,[1,2,3,4],11,[],[],[]⟩])
     (.cond (.sl 35)
      (.reg [⟨[],[],[],some (none,.store 1 (.fa 1 (.ia 3 (.ld 1 false (.fa 2 (.ia 3 (.ld 1 false (.fa 1 (.sl 1))) (.sl 3)))) (.sl 4))) (.bin .xor (.ld 1 false (.fa 1 (.ia 3 (.ld 1 false (.fa 2 (.ia 3 (.ld 1 false (.fa 1 (.sl 1))) (.sl 3)))) (.sl 4)))) (.int .i64 1))),[1,2,3,4],21,[[],[0],[],[2,0,1],[1,0,2,3],[3,2,0,1,4],[],[],[7],[],[9,7,8],[8,7,9,10],[10,9,7,8,11],[],[13,11,8,7,9,10,12],[12,10,9,7,8,11,13,14],[14,13,11,8,7,9,10,12,15],[15,12,10,9,7,8,11,13,14,16],[17,16,15,14,13,12,11,10,9,8,7,6,4,1,0,2,3,5],[5,3,2,0,1,4,6,7,8,9,10,11,12,13,14,15,16,17,18],[18,17,16,15,14,13,12,11,10,9,8,7,6,4,1,0,2,3,5,19]],[],[]⟩])
      .skip)))
   (.reg [⟨[],[(4,(.bin .add (.sl 4) (.int .i64 1)))],[],none,[1,2,3],3,[],[],[]⟩])))
def f17_L1:C:=
 (.seq
  (.seq
   (.reg [⟨[],[(11,(.bin .lss (.sl 3) (.sl 2)))],[],none,[1,2,3],3,[],[],[]⟩])
   (.cond (.sl 11)
    .skip
    (.seq
     (.keep [1,2])
     (.exit 0))))
  (.seq
   (.block 1
    (.seq
     (.reg [⟨[],[(4,(.int .i64 0))],[],none,[1,2,3],1,[],[],[]⟩])
     (.block 2
      (.seq (.keep [1,2,3,4]) (.loop (.seq (.keep [1,2,3,4]) f17_L0))))))
   (.reg [⟨[],[(3,(.bin .add (.sl 3) (.int .i64 1)))],[],none,[1,2],3,[],[],[]⟩])))
def f17_L2:C:=
 (.seq
  (.seq
   (.reg [⟨[],[(58,(.bin .lss (.sl 5) (.sl 2)))],[],none,[1,2,5],3,[],[],[]⟩])
   (.cond (.sl 58)
    .skip
    (.seq
     (.keep [])
     (.exit 4))))
  (.seq
   (.block 5
    (.seq
     (.reg [⟨[],[(74,(.bin .eql (.ld 1 false (.fa 1 (.ia 3 (.ld 1 false (.fa 1 (.sl 1))) (.sl 5)))) (.ld 1 false (.fa 1 (.ia 3 (.ld 1 false (.fa 1 (.sl 1))) (.bin .sub (.sl 2) (.int .i64 1)))))))],[],none,[1,2,5],14,[[],[0],[],[2,0,1],[1,0,2,3],[3,2,0,1,4],[],[6],[],[8],[8,9,6,7],[7,6,9,8,10],[10,8,9,6,7,11],[11,7,6,9,8,10,12,4,1,0,2,3,5]],[],[]⟩])
     (.cond (.sl 74)
      (.seq
       (.reg [⟨[],[],[],some (none,.store 1 (.fa 2 (.ia 3 (.ld 1 false (.fa 1 (.sl 1))) (.sl 5))) (.ld 1 false (.fa 2 (.ia 3 (.ld 1 false (.fa 1 (.sl 1))) (.bin .sub (.sl 2) (.int .i64 1)))))),[],13,[[],[0],[],[],[3],[],[5],[5,6,3,4],[4,3,6,5,7],[7,5,6,3,4,8],[9,8,7,6,5,4,3,2,0,1],[1,0,2,3,4,5,6,7,8,9,10],[10,9,8,7,6,5,4,3,2,0,1,11]],[],[]⟩])
       (.seq
        (.keep [])
        .ret))
      .skip)))
   (.reg [⟨[],[(5,(.bin .add (.sl 5) (.int .i64 1)))],[],none,[1,2],3,[],[],[]⟩])))
def f17:Fun:=⟨
 (.seq
  (.reg [⟨[(1,.box (.sl 0))],[],[],none,[1],1,[],[],[]⟩])
  (.seq
   (.reg [⟨[],[(2,(.len false (.ld 1 false (.fa 1 (.sl 1)))))],[],none,[1],4,[],[],[]⟩])
   (.seq
    (.seq
     (.reg [⟨[],[(3,(.int .i64 0))],[],none,[1,2],1,[],[],[]⟩])
     (.block 0
      (.seq (.keep [1,2,3]) (.loop (.seq (.keep [1,2,3]) f17_L1)))))
    (.seq
     (.reg [⟨[],[(5,(.int .i64 0))],[],none,[1,2],1,[],[],[]⟩])
     (.block 4
      (.seq (.keep [1,2,5]) (.loop (.seq (.keep [1,2,5]) f17_L2)))))))),
 [],false⟩
theorem z9z (m:Nat):q0J Go.Proofs.Tryz.prog 17 m 1 f17=true:=by kernel_rfl
def q3t (x:Instr):Instr:=if x.op == 3 then ⟨x.op,bits .xor .i64 x.a 1,x.b⟩ else x
def q24 (g:Glob):Glob:=⟨g.name,g.arity,g.code.map q3t⟩
theorem q8j {α:Type} (l:List α) (i:Nat) (x:α):(l.set i x).drop (i+1)=l.drop (i+1):=by
  rw [List.drop_set];simp
theorem z8D (K:Cx) (t:Table) (ht:Sm t) (b i:Nat) (nx:Nat) (mv:List Nat) (z:Bool) (g:Glob) (hi:i < t.globals.length) (hg:nth t.globals i=g) (hbi:b≠2+i):∀ (k j:Nat) (H:List (Nat×Blk)) (rows:List Instr),j+k=g.code.length→
    look H b=some (.mix 2 [[.bsx 0 0 t.shapes.length,.bsx 1 0 t.globals.length]])→look H 1=some (gB z 2 t.globals)→look H (2+i)=some (.dat z 3 (rows.map q0j))→rows.length=g.code.length+2→
    rows.take j=(finI (g.code.map q3t)).take j→rows.drop j=(finI g.code).drop j→
    ∃ H',lpk K [1,2,3,4] f17_L0 ⟨[(1,.ptr b 0 0),(2,.d false (.int .i64 t.globals.length)),(3,.d false (.int .i64 i)),(4,.d false (.int .i64 j))],H,nx,mv⟩ =
      some (.exit 2,⟨[(1,.ptr b 0 0),(2,.d false (.int .i64 t.globals.length)),(3,.d false (.int .i64 i))],H',nx,mv⟩)∧
      look H' (2+i)=some (.dat z 3 ((finI (g.code.map q3t)).map q0j))∧∀ c,c≠2+i→look H' c=look H c:=by
  have hgl:=ht.gl
  have hm:g∈t.globals:=by rw [← hg,q05,List.getD_eq_getElem?_getD,List.getElem?_eq_getElem hi];exact List.getElem_mem hi
  have hcl:=ht.cd g hm
  have fl:=q8f g.code
  have fl2:(finI (g.code.map q3t)).length=g.code.length+2:=by simp [finI]
  have hr:(gB z 2 t.globals).row? i=some (rowG (2+i,g)):=by rw [q5r hi,hg]
  have hia:=q3o (k:=3) (b:=1) (i:=0) (len:=t.globals.length) (n:=(i:Int)) (gB_k z 2 t.globals) (by omega) (by omega)
  simp only [rowG] at hr
  intro k
  induction k with
  | zero=>
    intro j H rows hj hb h1 hc hl htk hdr
    obtain rfl:j=g.code.length:=by omega
    have e:rows=finI (g.code.map q3t):=by
      rw [← List.take_append_drop g.code.length rows,htk,hdr]
      unfold finI
      rw [List.take_append_of_le_length (by simp),List.take_of_length_le (by simp),List.drop_append_of_le_length (Nat.le_refl _),List.drop_of_length_le (Nat.le_refl _)]
      rfl
    subst e
    refine ⟨H,?_,hc,fun _ _=>rfl⟩
    clear hdr htk
    rw [q1n f17_L0.eq_1]
    simp (disch:=first|decide|omega|(simp only [LN];first|done|omega)) only [SV,SW,Nat.reduceBEq,hb,h1,hia,hr,q0v,q0y,Nat.reduceEqDiff,q2b]
  | succ k ih=>
    intro j H rows hj hb h1 hc hl htk hdr
    have hj2:j < g.code.length:=by omega
    have hcode:g.code[j]? = some (nth g.code j):=q0U hj2
    have hx:(finI (g.code.map q3t))[j]? = some (q3t (nth g.code j)):=by
      unfold finI
      rw [List.getElem?_append_left (by simpa using hj2),List.getElem?_map,hcode];rfl
    have hrj:rows[j]? = some (nth g.code j):=by
      have:=congrArg (·[0]?) hdr
      simp only [List.getElem?_drop,Nat.add_zero] at this
      rw [this];unfold finI
      rw [List.getElem?_append_left hj2,hcode]
    have hn:nth rows (j:Int)=nth g.code j:=by
      rw [q05,List.getD_eq_getElem?_getD,hrj];rfl
    have hd1:rows.drop (j+1)=(finI g.code).drop (j+1):=by
      have:=congrArg (List.drop 1) hdr
      simpa [List.drop_drop,Nat.add_comm] using this
    generalize hxx:nth g.code (j:Int)=x at *
    have hib:=q3o (k:=3) (b:=2+i) (i:=0) (len:=g.code.length) (n:=(j:Int)) (blk:=.dat z 3 (rows.map q0j)) rfl (by omega) (by omega)
    cases h3:x.op == 3 with
    | true=>
      have ef:q3t x=⟨x.op,bits .xor .i64 x.a 1,x.b⟩:=by unfold q3t;rw [h3];rfl
      obtain ⟨H',e1,e2,e3⟩:=ih (j+1) (put H (2+i) (.dat z 3 ((rows.set j (q3t x)).map q0j))) (rows.set j (q3t x)) (by omega) (by rw [q0a _ _ (Ne.symm hbi)];exact hb) (by rw [q0a _ _ (by omega)];exact h1)
        (q0u _ _ _) (by simpa using hl) (q1P (by omega) htk (by omega) hx) (by rw [q8j];exact hd1)
      refine ⟨H',?_,e2,fun c hc=>by rw [e3 c hc,q0a _ _ (Ne.symm hc)]⟩
      rw [← e1,ef]
      clear e1 e2 e3 ih htk hdr hd1 hrj hx hcode hm
      rw [q1n f17_L0.eq_1]
      simp (disch:=first|decide|omega|(simp only [LN];first|done|omega)) only [SV,SW,Nat.reduceBEq,hb,h1,hia,hr,hc,hib,hn,q0e,h3,Nat.reduceAdd,z0r,lose,q1o,q0y,Nat.reduceEqDiff]
      rfl
    | false=>
      have ef:q3t x=x:=by unfold q3t;rw [h3];rfl
      obtain ⟨H',e1,e2,e3⟩:=ih (j+1) H rows (by omega) hb h1 hc hl (by
        rw [List.take_add_one,List.take_add_one,htk,hrj,hx,ef]) hd1
      refine ⟨H',?_,e2,e3⟩
      rw [← e1]
      clear e1 e2 e3 ih htk hdr hd1 hrj hx hcode hm
      rw [q1n f17_L0.eq_1]
      simp (disch:=first|decide|omega|(simp only [LN];first|done|omega)) only [SV,SW,Nat.reduceBEq,hb,h1,hia,hr,hc,hib,hn,q0e,h3,q1o,q0y,Nat.reduceEqDiff]
      rfl
theorem q87:∀ (gs:List Glob) (p:Nat),(numG p (gs.map q24)).map rowG=(numG p gs).map rowG
  | [],_=>rfl
  | g :: r,p=>by
    simp only [List.map_cons,numG,q87 r (p+1),List.cons.injEq,and_true]
    simp [rowG,q24]
theorem z6O {gs:List Glob} {j:Nat} (h:j < gs.length):nth (gs.map q24) (j:Int)=q24 (nth gs j):=by
  have h1:=q0U (l:=gs.map q24) (j:=j) (by simpa using h)
  rw [List.getElem?_map,q0U h] at h1
  exact (Option.some.inj h1).symm
structure TF (H:List (Nat×Blk)) (z:Bool) (t:Table) (i:Nat):Prop where
  s:look H 0=some (.dat z 2 ((finS t).map q0c))
  g:look H 1=some (gB z 2 t.globals)
  c:∀ j,j < t.globals.length→look H (2+j)=some (cB z (if j < i then q24 (nth t.globals j) else nth t.globals j))
set_option maxHeartbeats 1000000 in
theorem z8C (K:Cx) (t:Table) (ht:Sm t) (b:Nat) (nx:Nat) (mv:List Nat) (z:Bool) (hb2:t.globals.length+2≤b):∀ (k i:Nat) (H:List (Nat×Blk)),i+k=t.globals.length→
    look H b=some (.mix 2 [[.bsx 0 0 t.shapes.length,.bsx 1 0 t.globals.length]])→TF H z t i→
    ∃ H',lpk K [1,2,3] f17_L1 ⟨[(1,.ptr b 0 0),(2,.d false (.int .i64 t.globals.length)),(3,.d false (.int .i64 i))],H,nx,mv⟩ =
      some (.exit 0,⟨[(1,.ptr b 0 0),(2,.d false (.int .i64 t.globals.length))],H',nx,mv⟩)∧look H' b=some (.mix 2 [[.bsx 0 0 t.shapes.length,.bsx 1 0 t.globals.length]])∧TF H' z t t.globals.length:=by
  have hgl:=ht.gl
  intro k
  induction k with
  | zero=>
    intro i H hi hb hF
    obtain rfl:i=t.globals.length:=by omega
    refine ⟨H,?_,hb,hF⟩
    clear hF
    rw [q1n f17_L1.eq_1]
    simp (disch:=first|decide|omega|(simp only [LN];first|done|omega)) only [SV,SW,Nat.reduceBEq,q0v,q0y,Nat.reduceEqDiff,q2b]
  | succ k ih=>
    intro i H hi hb hF
    have hi2:i < t.globals.length:=by omega
    have hc:=hF.c i hi2
    rw [if_neg (Nat.lt_irrefl i)] at hc
    obtain ⟨H1,e1,f1,fo⟩:=z8D K t ht b i nx mv z (nth t.globals i) hi2 rfl (by omega) (nth t.globals i).code.length 0 H (finI (nth t.globals i).code) (by omega) hb hF.g (by simpa [cB] using hc) (q8f _) (by simp) (by simp)
    obtain ⟨H',e2,g1,g2⟩:=ih (i+1) H1 (by omega) (by rw [fo b (by omega)];exact hb) ⟨by rw [fo 0 (by omega)];exact hF.s,by rw [fo 1 (by omega)];exact hF.g,fun j hj=>by
      by_cases hji:j=i
      · subst hji
        rw [f1,if_pos (by omega)];rfl
      · rw [fo _ (by omega),hF.c j hj]
        by_cases h:j < i
        · rw [if_pos h,if_pos (by omega)]
        · rw [if_neg h,if_neg (by omega)]⟩
    refine ⟨H',?_,g1,g2⟩
    rw [← e2]
    simp only [Int.natCast_zero] at e1
    clear ih hc fo f1 g1 g2 hF
    rw [q1n f17_L1.eq_1]
    simp (disch:=first|decide|omega|(simp only [LN];first|done|omega)) only [SV,SW,Nat.reduceBEq,q0v,q0y,Nat.reduceEqDiff,q1A,e1,q1o]
    rfl
def z0h (t:Table):Int:=(nth t.globals ((t.globals.length:Int) - 1)).arity
def i0 (t:Table):Nat:=t.globals.findIdx fun g=>g.arity == z0h t
theorem z0g (t:Table) (h:t.globals≠[]):∃ m,t.globals.length=m+1∧z0h t=(nth t.globals (m:Int)).arity:=by
  have hl:=List.length_pos_iff.2 h
  refine ⟨t.globals.length - 1,by omega,?_⟩
  unfold z0h
  rw [show ((t.globals.length:Int) - 1)=((t.globals.length - 1:Nat):Int) by omega]
theorem z0m (t:Table) (h:t.globals≠[]):i0 t < t.globals.length:=by
  obtain ⟨m,h1,h2⟩:=z0g t h
  refine List.findIdx_lt_length_of_exists ⟨nth t.globals (m:Int),?_,by simp [h2]⟩
  have:=q0U (l:=t.globals) (j:=m) (by omega)
  exact List.mem_of_getElem? this
theorem i0_at (t:Table) (h:t.globals≠[]):((nth t.globals (i0 t:Int)).arity == z0h t)=true:=by
  have h1:=z0m t h
  have h2:=List.findIdx_getElem (xs:=t.globals) (p:=fun g=>g.arity == z0h t) (w:=by exact h1)
  have h3:=q0U h1
  rw [List.getElem?_eq_getElem h1] at h3
  rw [← Option.some.inj h3]
  exact h2
theorem i0_no (t:Table) {i:Nat} (h:i < i0 t) (hl:i < t.globals.length):((nth t.globals (i:Int)).arity == z0h t)=false:=by
  have h2:=List.not_of_lt_findIdx (xs:=t.globals) (p:=fun g=>g.arity == z0h t) h
  have h3:=q0U hl
  rw [List.getElem?_eq_getElem hl] at h3
  rw [← Option.some.inj h3]
  simpa using h2
def q9U (t:Table):Nat×Glob:=(2+(t.globals.length - 1),⟨(nth t.globals (i0 t:Int)).name,(nth t.globals (i0 t:Int)).arity,(nth t.globals ((t.globals.length:Int) - 1)).code.map q3t⟩)
def q39 (z:Bool) (t:Table):Blk:=if t.globals=[] then .dat z 3 [behD,behD] else .mix 3 ((((numG 2 (t.globals.map q24)).set (i0 t) (q9U t)).map rowG)++[behG z,behG z])
theorem z6p (z:Bool) (t:Table) (h:t.globals≠[]):(gB z 2 t.globals).set (i0 t) 2 [.bsx (2+(t.globals.length - 1)) 0 (nth t.globals ((t.globals.length:Int) - 1)).code.length]=some (q39 z t):=by
  have h1:=z0m t h
  have hr:=q5r (z:=z) (p:=2) h1
  have hR:gB z 2 t.globals=.mix 3 ((numG 2 (t.globals.map q24)).map rowG++[behG z,behG z]):=by rw [q87];exact if_neg h
  rw [hR,q2v] at hr
  rw [hR]
  simp only [Blk.set,hr]
  unfold q39
  rw [if_neg h,if_pos (by simp [rowG])]
  congr 2
  rw [List.set_append_left _ _ (by simpa [q1c] using h1),List.map_set]
  congr 2
  simp [splice,rowG,q9U]
set_option maxHeartbeats 1000000 in
theorem z8B (K:Cx) (t:Table) (ht:Sm t) (b:Nat) (H:List (Nat×Blk)) (nx:Nat) (mv:List Nat) (z:Bool) (hne:t.globals≠[]) (hb:look H b=some (.mix 2 [[.bsx 0 0 t.shapes.length,.bsx 1 0 t.globals.length]])) (h1:look H 1=some (gB z 2 t.globals)):∀ (k i:Nat),i+k=i0 t→
    lpk K [1,2,5] f17_L2 ⟨[(1,.ptr b 0 0),(2,.d false (.int .i64 t.globals.length)),(5,.d false (.int .i64 i))],H,nx,mv⟩=some (.ret,⟨[],put H 1 (q39 z t),nx,mv⟩):=by
  have hgl:=ht.gl
  have hlt:=z0m t hne
  obtain ⟨m,hm1,hm2⟩:=z0g t hne
  have hrm:(gB z 2 t.globals).row? m=some (rowG (2+m,nth t.globals (m:Int))):=q5r (by omega)
  have hjm:=q3o (k:=3) (b:=1) (i:=0) (len:=t.globals.length) (n:=(t.globals.length:Int) - 1) (gB_k z 2 t.globals) (by omega) (by omega)
  have hmi:((t.globals.length:Int) - 1).toNat=m:=by omega
  rw [hmi] at hjm
  simp only [rowG] at hrm
  intro k
  induction k with
  | zero=>
    intro i hi
    obtain rfl:i=i0 t:=by omega
    have hr:=q5r (z:=z) (p:=2) hlt
    have hia:=q3o (k:=3) (b:=1) (i:=0) (len:=t.globals.length) (n:=(i0 t:Int)) (gB_k z 2 t.globals) (by omega) (by omega)
    have hat:=i0_at t hne
    rw [hm2] at hat
    have hset:=z6p z t hne
    rw [show t.globals.length - 1=m by omega,show ((t.globals.length:Int) - 1)=(m:Int) by omega] at hset
    simp only [rowG] at hr
    rw [q1n f17_L2.eq_1]
    simp (disch:=first|decide|omega|(simp only [LN];first|done|omega)) only [SV,SW,Nat.reduceBEq,hb,h1,hia,hr,hjm,hrm,hat,hset,lose,q0v,q0y,z6U]
  | succ k ih=>
    intro i hi
    have ih:=ih (i+1) (by omega)
    have hr:=q5r (z:=z) (p:=2) (gs:=t.globals) (i:=i) (by omega)
    have hia:=q3o (k:=3) (b:=1) (i:=0) (len:=t.globals.length) (n:=(i:Int)) (gB_k z 2 t.globals) (by omega) (by omega)
    have hat:=i0_no t (i:=i) (by omega) (by omega)
    rw [hm2] at hat
    simp only [rowG] at hr
    rw [← ih]
    rw [q1n f17_L2.eq_1]
    simp (disch:=first|decide|omega|(simp only [LN];first|done|omega)) only [SV,SW,Nat.reduceBEq,hb,h1,hia,hr,hjm,hrm,hat,q1o,q0y,Nat.reduceEqDiff]
    rfl
def q2D (t:Table):List Blk:=.dat false 2 ((finS t).map q0c) :: q39 false t :: (t.globals.map q24).map (cB false)
theorem z9d {α:Type} {f:α→Option α} {l:List α} (h:∀ x∈l,f x=some x):mapO f l=some l:=
  q6u rfl fun j x hx=>by rw [h x (List.mem_of_getElem? hx),hx]
theorem q5K:∀ (gs:List Glob) (p:Nat) (q:Nat×Glob),q∈numG p gs→p≤q.1∧q.1 < p+gs.length
  | g :: r,p,q,h=>by
    simp only [numG,List.mem_cons] at h
    rcases h with rfl | h
    · simp
    · have:=q5K r (p+1) q h
      simp only [List.length_cons];omega
theorem z6r {H:List (Nat×Blk)} {zz:Bool} {t:Table} (h0:look H 0=some (.dat false 2 ((finS t).map q0c))) (h1:look H 1=some (q39 false t)) (hc:∀ j,j < t.globals.length→look H (2+j)=some (cB false (q24 (nth t.globals j)))) :
    mapO (finB zz (List.range' 0 (t.globals.length+2)) H) (List.range' 0 (t.globals.length+2))=some (q2D t):=by
  refine q6u (by simp [q2D]) fun j b hb=>?_
  obtain ⟨hj,rfl⟩:=z8U _ _ _ _ hb
  match j,hj with
  | 0,_=>simp only [finB,Nat.add_zero,h0];rfl
  | 1,_=>
    show finB _ _ _ _=some (q39 false t)
    simp only [finB,Nat.zero_add,h1]
    by_cases hg:t.globals=[]
    · simp only [q39,if_pos hg]
    · simp only [q39,if_neg hg]
      rw [q6t (t':=[]) (t2:=[behG false,behG false]) rfl (z9d fun r hr=>?_)]
      · rfl
      · obtain ⟨q,hq,rfl⟩:=List.mem_map.1 hr
        have hl:=z0m t hg
        have hq1:2≤q.1∧q.1 < t.globals.length+2:=by
          rcases List.mem_or_eq_of_mem_set hq with hq | rfl
          · have:=q5K _ _ q hq
            simp only [List.length_map] at this;omega
          · simp only [q9U];omega
        exact z4Y (q:=q.1) (g:=q.2) (by rw [q1w,decide_eq_true_eq];omega) (by have:=q98 (p:=0) (m:=t.globals.length+2) (j:=q.1) (by omega);rwa [Nat.zero_add] at this)
  | j+2,hj=>
    rw [show 0+(j+2)=2+j by omega]
    simp only [finB,hc j (by omega),cB]
    simp only [q2D,List.getElem?_cons_succ,List.getElem?_map,q0U (show j < t.globals.length by omega),Option.map_some,cB]
set_option maxHeartbeats 1000000 in
theorem z6q (K:Cx) (t:Table) (ht:Sm t):q0o K f17 [.agg [.bsx 0 0 t.shapes.length,.bsx 1 0 t.globals.length]] (tblk false 2 t)=some (.tup [],q2D t,[]):=by
  have hs:=ht.sh
  have hgl:=ht.gl
  have hT0:=q7n t false
  have hln:=q1O false 2 t
  generalize hH:indexed (tblk false 2 t)=H0 at hT0
  have hT:TB ((t.globals.length+2,.mix 2 [[.bsx 0 0 t.shapes.length,.bsx 1 0 t.globals.length]]) :: H0) 0 false t:=hT0.mono fun b _ hb=>q21 _ _ (by omega)
  have hb:look ((t.globals.length+2,Blk.mix 2 [[.bsx 0 0 t.shapes.length,.bsx 1 0 t.globals.length]]) :: H0) (t.globals.length+2)=some (.mix 2 [[.bsx 0 0 t.shapes.length,.bsx 1 0 t.globals.length]]):=q79 _ _ _
  generalize hH1:(t.globals.length+2,Blk.mix 2 [[.bsx 0 0 t.shapes.length,.bsx 1 0 t.globals.length]]) :: H0=H at hT hb
  have hnd:(List.range (t.globals.length+2)).Nodup:=List.nodup_range
  obtain ⟨H1,e1,hb1,hF⟩:=z8C K t ht (t.globals.length+2) (t.globals.length+2+1) [] false (Nat.le_refl _) t.globals.length 0 H (by omega) hb
    ⟨hT.s,hT.g,fun j hj=>by have:=hT.c j hj;rw [if_neg (by omega)];rw [show 2+j=0+2+j by omega];exact this⟩
  have hend:∀ (e:Ex) (H2:List (Nat×Blk)) (ρ),look H2 0=some (.dat false 2 ((finS t).map q0c))→look H2 1=some (q39 false t)→(∀ j,j < t.globals.length→look H2 (2+j)=some (cB false (q24 (nth t.globals j))))→
      finish (t.globals.length+2) false ⟨ρ,H2,t.globals.length+2+1,[]⟩ (.tup [])=some (.tup [],q2D t,[]):=by
    intro e H2 ρ g0 g1 gc
    have hfin:=z6r (zz:=((t.globals.length+2) == 0)) g0 g1 gc
    rw [← List.range_eq_range'] at hfin
    unfold finish
    simp only [Bool.false_eq_true,if_false,hnd,decide_true,List.take_of_length_le (show (List.range (t.globals.length+2)).length≤t.globals.length+2 by simp),Bool.and_self,if_true,hfin]
    rw [show finV (t.globals.length+2 == 0) (List.range (t.globals.length+2)) H2 (V.tup [])=some (V.tup []) from rfl]
    simp
  rw [show f17=⟨f17.body,f17.res,false⟩ from rfl,q4h]
  rw [show startS [.agg [.bsx 0 0 t.shapes.length,.bsx 1 0 t.globals.length]] (tblk false 2 t)=⟨[(0,.agg [.bsx 0 0 t.shapes.length,.bsx 1 0 t.globals.length])],H0,t.globals.length+2,[]⟩ by simp only [startS,hH,hln];rfl]
  simp only [hln]
  simp only [Int.natCast_zero] at e1
  have hcF:∀ j,j < t.globals.length→look H1 (2+j)=some (cB false (q24 (nth t.globals j))):=fun j hj=>by rw [hF.c j hj,if_pos hj]
  have g0:=hF.s
  have g1:=hF.g
  clear hT hT0 hF
  by_cases hne:t.globals=[]
  · have hl0:t.globals.length=0:=by rw [hne];rfl
    have hw:q39 false t=gB false 2 t.globals:=by unfold q39 gB;rw [if_pos hne,if_pos hne]
    have he:=hend .nrm H1 [] g0 (by rw [hw];exact g1) hcF
    clear hcF hend
    have el:lpk K [1,2,5] f17_L2 ⟨[(1,.ptr (t.globals.length+2) 0 0),(2,.d false (.int .i64 t.globals.length)),(5,.d false (.int .i64 0))],H1,t.globals.length+2+1,[]⟩=some (.exit 4,⟨[],H1,t.globals.length+2+1,[]⟩):=by
      rw [q1n f17_L2.eq_1]
      simp (disch:=first|decide|omega|(simp only [LN];first|done|omega)) only [SV,SW,Nat.reduceBEq,q0v,q0y,q2b]
    simp (disch:=first|decide|omega|(simp only [LN];first|done|omega)) only [f17,q1U,q25,q00,q27,q2N,q4A,e_sl,q2e,beq_self_eq_true,q1y,q2X,mkBox,V.laid,V.cells,List.length_cons,List.length_nil,Nat.zero_add,Nat.reduceAdd,if_true,q6r,q4k,Nat.reduceBEq,q2G,q6e,q2j,q6q,List.append_nil,q3R,q2P,q2k,q1B,q16,q0Q,q1i,q19,q0X,List.nil_append,addBlks,hH1,q2U,q2q,q2S,q1j,z7x,e_ld,e_fa,evFa,q29,hb,q6A,q2v,List.getElem?_cons_zero,q6z,List.drop_succ_cons,List.drop_zero,q5J,evLen,q3S,q3X,List.cons_append,z7y,q3D,q0v,q0y,q1X,Nat.reduceEqDiff,q2I,if_false,q1A,e1,q5U,el,z7v,q20,Option.map_some,q0b]
    exact he
  · have el:=z8B K t ht (t.globals.length+2) H1 (t.globals.length+2+1) [] false hne hb1 g1 (i0 t) 0 (by omega)
    have he:=hend .ret (put H1 1 (q39 false t)) [] (by rw [q0a _ _ (by omega)];exact g0) (q0u _ _ _) (fun j hj=>by rw [q0a _ _ (by omega)];exact hcF j hj)
    simp only [Int.natCast_zero] at el
    clear hcF hend
    simp (disch:=first|decide|omega|(simp only [LN];first|done|omega)) only [f17,q1U,q25,q00,q27,q2N,q4A,e_sl,q2e,beq_self_eq_true,q1y,q2X,mkBox,V.laid,V.cells,List.length_cons,List.length_nil,Nat.zero_add,Nat.reduceAdd,if_true,q6r,q4k,Nat.reduceBEq,q2G,q6e,q2j,q6q,List.append_nil,q3R,q2P,q2k,q1B,q16,q0Q,q1i,q19,q0X,List.nil_append,addBlks,hH1,q2U,q2q,q2S,q1j,z7x,e_ld,e_fa,evFa,q29,hb,q6A,q2v,List.getElem?_cons_zero,q6z,List.drop_succ_cons,List.drop_zero,q5J,evLen,q3S,q3X,List.cons_append,z7y,q3D,q0v,q0y,q1X,Nat.reduceEqDiff,q2I,if_false,q1A,e1,q5U,el,z5A,q5O,q20,Option.map_some,q0b]
    exact he
end Go.Vm
end

section
namespace Go.Vm
mutual
def D.eqb:D→D→Bool
 |.int k n,.int k' n'=>decide (k=k')&&decide (n=n')
 |.bool b,.bool b'=>b==b'
 |.str s,.str s'=>decide (s=s')
 |.sl k rows,.sl k' rows'=>decide (k=k')&&q9B rows rows'
 |.ptr cs,.ptr cs'=>dRow cs cs'
 |.nilp,.nilp=>true
 |.nilif,.nilif=>true
 |.nilfn,.nilfn=>true
 |.nilm,.nilm=>true
 |.nils k,.nils k'=>decide (k=k')
 |.emps k,.emps k'=>decide (k=k')
 |.iface t cs,.iface t' cs'=>decide (t=t')&&dRow cs cs'
 |_,_=>false
def dRow:List D→List D→Bool
 |[],[]=>true
 |a :: r,b :: s=>a.eqb b&&dRow r s
 |_,_=>false
def q9B:List (List D)→List (List D)→Bool
 |[],[]=>true
 |a :: r,b :: s=>dRow a b&&q9B r s
 |_,_=>false
end
mutual
theorem D.eqb_ok:∀ {x y:D},x.eqb y=true→x=y:=by
 intro x y h
 cases x <;> cases y <;> simp only[D.eqb,Bool.and_eq_true,decide_eq_true_eq,beq_iff_eq,reduceCtorEq,Bool.false_eq_true] at h <;> try rfl
 ·obtain⟨rfl,rfl⟩:=h;rfl
 ·subst h;rfl
 ·subst h;rfl
 ·obtain⟨rfl,h⟩:=h;rw[q5P h]
 ·rw[q8p h]
 ·obtain⟨rfl,h⟩:=h;rw[q8p h]
 ·subst h;rfl
 ·subst h;rfl
theorem q8p:∀ {x y:List D},dRow x y=true→x=y:=by
 intro x y h
 cases x with
 |nil=>cases y with
  |nil=>rfl
  |cons b s=>simp [dRow] at h
 |cons a r=>cases y with
  |nil=>simp [dRow] at h
  |cons b s=>
   simp only[dRow,Bool.and_eq_true] at h
   rw[D.eqb_ok h.1,q8p h.2]
theorem q5P:∀ {x y:List (List D)},q9B x y=true→x=y:=by
 intro x y h
 cases x with
 |nil=>cases y with
  |nil=>rfl
  |cons b s=>simp [q9B] at h
 |cons a r=>cases y with
  |nil=>simp [q9B] at h
  |cons b s=>
   simp only[q9B,Bool.and_eq_true] at h
   rw[q8p h.1,q5P h.2]
end
def V.eqb1:V→V→Bool
 |.d c x,.d c' x'=>c==c'&&x.eqb x'
 |.fs c k r,.fs c' k' r'=>c==c'&&decide (k=k')&&q9B r r'
 |_,_=>false
def vRow:List V→List V→Bool
 |[],[]=>true
 |a :: r,b :: s=>a.eqb1 b&&vRow r s
 |_,_=>false
def V.eqb:V→V→Bool
 |.agg cs,.agg cs'=>vRow cs cs'
 |v,u=>v.eqb1 u
theorem V.eqb1_ok{v u:V}(h:v.eqb1 u=true):v=u∧v.own1=false:=by
 cases v <;> cases u <;> simp only[V.eqb1,Bool.and_eq_true,decide_eq_true_eq,beq_iff_eq,Bool.false_eq_true] at h
 ·obtain⟨rfl,h⟩:=h;rw[D.eqb_ok h];exact⟨rfl,rfl⟩
 ·obtain⟨⟨rfl,rfl⟩,h⟩:=h;rw[q5P h];exact⟨rfl,rfl⟩
theorem z8z:∀ {x y:List V},vRow x y=true→x=y∧x.any V.own1=false:=by
 intro x
 induction x with
 |nil=>intro y h;cases y with
  |nil=>exact⟨rfl,rfl⟩
  |cons b s=>simp [vRow] at h
 |cons a r ih=>intro y h;cases y with
  |nil=>simp [vRow] at h
  |cons b s=>
   simp only[vRow,Bool.and_eq_true] at h
   obtain⟨h1,h2⟩:=V.eqb1_ok h.1
   obtain⟨h3,h4⟩:=ih h.2
   rw[←h1,←h3]
   exact⟨rfl,by simp [h2,h4]⟩
theorem V.eqb_ok{v u:V}(h:v.eqb u=true):v=u∧v.own=false:=by
 cases v with
 |agg cs=>cases u with
  |agg cs'=>
   simp only[V.eqb] at h
   obtain⟨h1,h2⟩:=z8z h
   exact⟨by rw[h1],h2⟩
  |_=>simp [V.eqb,V.eqb1] at h
 |d c x=>exact V.eqb1_ok (v:=.d c x) (by cases u <;> exact h)
 |fs c k r=>exact V.eqb1_ok (v:=.fs c k r) (by cases u <;> exact h)
 |_=>cases u <;> simp [V.eqb,V.eqb1] at h
def z65(mv:List Nat):V→V→Bool
 |.ptr b i j,.ptr b' i' j'=>b==b'&&i==i'&&j==j'&&!mv.contains b
 |.bsl b i j,.bsl b' i' j'=>b==b'&&i==i'&&j==j'&&!mv.contains b
 |.map b,.map b'=>b==b'&&!mv.contains b
 |v,u=>v.eqb u
theorem z07{mv:List Nat}{v u:V}(h:z65 mv v u=true):v=u∧q3Y mv v:=by
 have other:v.eqb u=true→v=u∧q3Y mv v:=fun h=>by
  obtain⟨h1,h2⟩:=V.eqb_ok h
  refine⟨h1,?_⟩
  cases v with
  |ptr b i j=>simp [V.own,V.own1] at h2
  |bsl b i j=>simp [V.own,V.own1] at h2
  |bsx b i j=>simp [V.own,V.own1] at h2
  |map b=>simp [V.own,V.own1] at h2
  |_=>exact h2
 unfold z65 at h
 split at h
 ·simp only[Bool.and_eq_true,beq_iff_eq,Bool.not_eq_true'] at h
  obtain⟨⟨⟨rfl,rfl⟩,rfl⟩,h⟩:=h
  exact⟨rfl,h⟩
 ·simp only[Bool.and_eq_true,beq_iff_eq,Bool.not_eq_true'] at h
  obtain⟨⟨⟨rfl,rfl⟩,rfl⟩,h⟩:=h
  exact⟨rfl,h⟩
 ·simp only[Bool.and_eq_true,beq_iff_eq,Bool.not_eq_true'] at h
  obtain⟨rfl,h⟩:=h
  exact⟨rfl,h⟩
 ·exact other h
def z64(X:Cx)(s:S)(mv:List Nat)(H1:List (Nat×Blk))(g:Seg):Bool:=g.late.isEmpty||match q2z X s g.mks with
 |none=>true
 |some (s1,_)=>g.late.all fun e=>match ev X (q33 mv (q4u X s g mv H1) s1) e,ev X s1 e with
  |some v,some u=>z65 mv v u
  |_,_=>false
theorem z63{X:Cx}{s:S}{mv:List Nat}{H1:List (Nat×Blk)}{g:Seg}(h:z64 X s mv H1 g=true):z06 X s mv H1 g:=by
 intro e he s1 news hm
 unfold z64 at h
 rw[hm] at h
 simp only[Bool.or_eq_true,List.isEmpty_iff,List.all_eq_true] at h
 rcases h with h|h
 ·rw[h] at he;simp at he
 ·have:=h e he
  cases h1:ev X (q33 mv (q4u X s g mv H1) s1) e with
  |none=>rw[h1] at this;simp at this
  |some v=>cases h2:ev X s1 e with
   |none=>rw[h1,h2] at this;simp at this
   |some u=>
    rw[h1,h2] at this
    obtain⟨rfl,h3⟩:=z07 this
    exact⟨v,rfl,rfl,h3⟩
def q5s(X:Cx)(s:S)(g:Seg):Option S:=match q7K X s g with
 |some s'=>if z64 X s (q08 s s') s'.heap g then some s' else none
 |none=>none
theorem q4z{X:Cx}{g:Seg}{s s':S}(h:q5s X s g=some s'):q28 X s g=some s':=by
 unfold q5s at h
 unfold q28
 cases h0:q7K X s g with
 |none=>rw[h0] at h;cases h
 |some s1=>
  rw[h0] at h
  simp only at h ⊢
  by_cases hl:z64 X s (q08 s s1) s1.heap g=true
  ·rw[if_pos hl] at h
   rw[if_pos (z63 hl)]
   exact h
  ·rw[if_neg hl] at h;cases h
def q6V(X:Cx)(s:S):List Seg→Option S
 |[]=>some s
 |g :: r=>match q5s X s g with
  |some s'=>q6V X s' r
  |none=>none
theorem z2z{X:Cx}:∀ {l:List Seg}{s s':S},q6V X s l=some s'→q1N X s l=some s':=by
 intro l
 induction l with
 |nil=>intro s s' h;exact h
 |cons g l ih=>
  intro s s' h
  simp only[q6V] at h
  simp only[q1N]
  cases h0:q5s X s g with
  |none=>rw[h0] at h;cases h
  |some s1=>rw[h0] at h;rw[q4z h0];exact ih h
def q8h(C:Cx)(s:S)(p:Pre)(g:Seg):Option S:=match p.sg with
 |none=>q5s C s g
 |some (t,b)=>match look s.rho t with
  |some (.d _ (.bool x))=>if x=b then q5s C s g else some (q8Q s (z0j g))
  |_=>none
theorem z2A{X:Cx}{p:Pre}{g:Seg}{s s':S}(h:q8h X s p g=some s'):q6W X s p g=some s':=by
 unfold q8h at h
 unfold q6W
 split at h
 ·rename_i e;rw[e];exact q4z h
 ·rename_i t b e
  rw[e]
  simp only
  split at h
  ·rename_i c x hl
   rw[hl]
   simp only
   split at h
   ·rename_i hx;rw[if_pos hx];exact q4z h
   ·rename_i hx;rw[if_neg hx];exact h
  ·cases h
def q4y(m:Nat)(C:Cx)(s:S):List (Pre×Seg)→Option S
 |[]=>some s
 |(p,g) :: r=>match q8h C (frzL m p.fz s) p g with
  |some s'=>q4y m C s' r
  |none=>none
theorem z0v{X:Cx}{m:Nat}:∀ {l:List (Pre×Seg)}{s s':S},q4y m X s l=some s'→q2i m X s l=some s':=by
 intro l
 induction l with
 |nil=>intro s s' h;exact h
 |cons q l ih=>
  intro s s' h
  obtain⟨p,g⟩:=q
  simp only[q4y] at h
  simp only[q2i]
  cases h0:q8h X (frzL m p.fz s) p g with
  |none=>rw[h0] at h;cases h
  |some s1=>rw[h0] at h;rw[z2A h0];exact ih h
def z8Q(X:Cx)(s s2:S)(g:Seg):Bool:=g.late.isEmpty||match q2z X s g.mks with
 |some (s1,_)=>g.late.all fun e=>match ev X s2 e,ev X s1 e with
  |some v,some u=>z65 [] v u
  |_,_=>false
 |none=>true
theorem z6A{X:Cx}{s s2:S}{g:Seg}(h:z8Q X s s2 g=true):z7X X s s2 g:=by
 intro e he s1 news hm
 unfold z8Q at h
 rw[hm] at h
 simp only[Bool.or_eq_true,List.isEmpty_iff,List.all_eq_true] at h
 rcases h with h|h
 ·rw[h] at he;simp at he
 ·have:=h e he
  cases h1:ev X s2 e with
  |none=>simp [h1] at this
  |some v=>
   cases h2:ev X s1 e with
   |none=>simp [h1,h2] at this
   |some u=>
    rw[h1,h2] at this
    rw[(z07 this).1]
def q26(C:Cx)(s:S):List Seg→Option S
 |[]=>some s
 |g :: r=>match q5s C s g with
  |some s'=>if r.isEmpty||z8Q C s s' g then q26 C s' r else none
  |none=>none
theorem q6U{X:Cx}:∀ {l:List Seg}{s s':S},q26 X s l=some s'→q1K X s l=some s':=by
 intro l
 induction l with
 |nil=>intro s s' h;exact h
 |cons g l ih=>
  intro s s' h
  simp only[q26] at h
  simp only[q1K]
  cases h0:q5s X s g with
  |none=>rw[h0] at h;cases h
  |some s1=>
   rw[h0] at h
   rw[q4z h0]
   simp only at h ⊢
   split at h
   ·rename_i hc
    rw[if_pos ?_]
    ·exact ih h
    ·simp only[Bool.or_eq_true,List.isEmpty_iff] at hc
     exact hc.imp id z6A
   ·cases h
def execC(N:Nat)(X:Cx):C→S→Option (Ex×S)
 |.skip,s=>some (.nrm,s)
 |.regg m l,s=>match q4y m X s l with
  |some s'=>some (.nrm,s')
  |none=>none
 |.regl l,s=>match q26 X s l with
  |some s'=>some (.nrm,s')
  |none=>none
 |.regp _ l,s=>match q26 X s l with
  |some s'=>some (.nrm,s')
  |none=>none
 |.ownc t j k,s=>some (.nrm,z6K t j k s)
 |.reg l,s=>match q6V X s l with
  |some s'=>some (.nrm,s')
  |none=>none
 |.seq a b,s=>match execC N X a s with
  |some (.nrm,s')=>execC N X b s'
  |r=>r
 |.cond e a b,s=>match ev X s e with
  |some (.d _ (.bool x))=>if x then execC N X a s else execC N X b s
  |_=>none
 |.block id c,s=>match execC N X c s with
  |some (.exit i,s')=>if i=id then some (.nrm,s') else some (.exit i,s')
  |r=>r
 |.loop c,s=>iter (execC N X c) N s
 |.exit id,s=>some (.exit id,s)
 |.scope c ls,s=>q2o (fun l=>labelled N X ls l) N (execC N X c s)
 |.lnil,_=>none
 |.lcons _ _ _,_=>none
 |.label _,s=>some (.nrm,s)
 |.goto l,s=>some (.goto l,s)
 |.ret,s=>some (.ret,s)
 |.tidy m slots,s=>match q5z m slots s with
  |some s'=>some (.nrm,s')
  |none=>none
 |.own t k,s=>match look s.rho t with
  |some (.fs _ k' [])=>if k'=k then some (.nrm,⟨put s.rho t (.bsl s.nx 0 0),(s.nx,.dat true k []) :: s.heap,s.nx+1,s.mv⟩) else some (.nrm,s)
  |_=>some (.nrm,s)
 |.frz m t j,s=>some (.nrm,frzS m t j s)
 |.keep sl,s=>some (.nrm,skipM s sl)
 |.stuck,_=>none
 where
 labelled (N:Nat) (X:Cx):C→Nat→Option (S→Option (Ex×S))
  |.lcons l c ls,l'=>if l=l' then some (execC N X c) else labelled N X ls l'
  |_,_=>none
theorem z9m{f g:S→Option (Ex×S)}(h:∀ s r,f s=some r→g s=some r):∀(n:Nat)(s:S)(r:Ex×S),iter f n s=some r→iter g n s=some r:=by
 intro n
 induction n with
 |zero=>intro s r h;cases h
 |succ n ih=>
  intro s r hr
  simp only[iter] at hr ⊢
  cases hf:f s with
  |none=>rw[hf] at hr;cases hr
  |some q=>
   rw[h s q hf]
   rw[hf] at hr
   obtain⟨e,s'⟩:=q
   cases e with
   |nrm=>exact ih s' r hr
   |_=>exact hr
theorem z68{f g:Nat→Option (S→Option (Ex×S))}(h:∀ l k,f l=some k→∃ k',g l=some k'∧∀ s r,k s=some r→k' s=some r):∀(n:Nat)(q q':Option (Ex×S))(r:Ex×S),(∀ x,q=some x→q'=some x)→q2o f n q=some r→q2o g n q'=some r:=by
 intro n
 induction n with
 |zero=>intro q q' r _ h;cases h
 |succ n ih=>
  intro q q' r hq hr
  cases q with
  |none=>simp [q2o] at hr
  |some x=>
   rw[hq x rfl]
   obtain⟨e,s⟩:=x
   cases e with
   |goto l=>
    simp only[q2o] at hr ⊢
    cases hl:f l with
    |none=>rw[hl] at hr;cases hr
    |some k=>
     obtain⟨k',h1,h2⟩:=h l k hl
     rw[hl] at hr
     rw[h1]
     exact ih _ _ r (fun x hx=>h2 s x hx) hr
   |_=>exact hr
theorem q5N(N:Nat)(X:Cx):∀ c:C,(∀ s r,execC N X c s=some r→exec X c s=some r)∧∀ l k,execC.labelled N X c l=some k→∃ k',exec.labelled X c l=some k'∧∀ s r,k s=some r→k' s=some r:=by
 intro c
 induction c with
 |skip=>exact⟨fun s r h=>h,fun l k h=>by simp [execC.labelled] at h⟩
 |reg l=>
  refine⟨fun s r h=>?_,fun l k h=>by simp [execC.labelled] at h⟩
  simp only[execC] at h
  simp only[exec]
  cases hs:q6V X s l with
  |none=>rw[hs] at h;cases h
  |some s'=>rw[hs] at h;rw[z2z hs];exact h
 |seq a b iha ihb=>
  refine⟨fun s r h=>?_,fun l k h=>by simp [execC.labelled] at h⟩
  simp only[execC] at h
  simp only[exec]
  cases hs:execC N X a s with
  |none=>rw[hs] at h;cases h
  |some q=>
   rw[hs] at h
   rw[iha.1 s q hs]
   obtain⟨e,s'⟩:=q
   cases e with
   |nrm=>exact ihb.1 s' r h
   |_=>exact h
 |cond e a b iha ihb=>
  refine⟨fun s r h=>?_,fun l k h=>by simp [execC.labelled] at h⟩
  simp only[execC] at h
  simp only[exec]
  split at h
  ·rename_i x hx
   rw[hx]
   simp only
   cases x with
   |true=>exact iha.1 s r h
   |false=>exact ihb.1 s r h
  ·cases h
 |block id c ih=>
  refine⟨fun s r h=>?_,fun l k h=>by simp [execC.labelled] at h⟩
  simp only[execC] at h
  simp only[exec]
  cases hs:execC N X c s with
  |none=>rw[hs] at h;cases h
  |some q=>
   rw[hs] at h
   rw[ih.1 s q hs]
   exact h
 |loop c ih=>
  refine⟨fun s r h=>?_,fun l k h=>by simp [execC.labelled] at h⟩
  simp only[execC] at h
  simp only[exec]
  exact q3C (z9m ih.1 N s r h)
 |exit id=>exact⟨fun s r h=>h,fun l k h=>by simp [execC.labelled] at h⟩
 |scope c ls ihc ihl=>
  refine⟨fun s r h=>?_,fun l k h=>by simp [execC.labelled] at h⟩
  simp only[execC] at h
  simp only[exec]
  exact z3Q (z68 ihl.2 N _ _ r (fun x hx=>ihc.1 s x hx) h)
 |lnil=>exact⟨fun s r h=>by simp [execC] at h,fun l k h=>by simp [execC.labelled] at h⟩
 |lcons l c ls ihc ihl=>
  refine⟨fun s r h=>by simp [execC] at h,fun l' k h=>?_⟩
  simp only[execC.labelled] at h
  simp only[exec.labelled]
  by_cases e:l=l'
  ·rw[if_pos e] at h ⊢
   obtain rfl:=Option.some.inj h
   exact⟨_,rfl,ihc.1⟩
  ·rw[if_neg e] at h ⊢
   exact ihl.2 l' k h
 |label l=>exact⟨fun s r h=>h,fun l k h=>by simp [execC.labelled] at h⟩
 |goto l=>exact⟨fun s r h=>h,fun l k h=>by simp [execC.labelled] at h⟩
 |ret=>exact⟨fun s r h=>h,fun l k h=>by simp [execC.labelled] at h⟩
 |tidy m slots=>exact⟨fun s r h=>h,fun l k h=>by simp [execC.labelled] at h⟩
 |own t k=>exact⟨fun s r h=>h,fun l k h=>by simp [execC.labelled] at h⟩
 |stuck=>exact⟨fun s r h=>by simp [execC] at h,fun l k h=>by simp [execC.labelled] at h⟩
 |keep sl=>exact⟨fun s r h=>h,fun l k h=>by simp [execC.labelled] at h⟩
 |frz m t j=>exact⟨fun s r h=>h,fun l k h=>by simp [execC.labelled] at h⟩
 |ownc t j k=>exact⟨fun s r h=>h,fun l k h=>by simp [execC.labelled] at h⟩
 |regl l=>
  refine⟨fun s r h=>?_,fun l k h=>by simp [execC.labelled] at h⟩
  simp only[execC] at h
  simp only[exec]
  cases h0:q26 X s l with
  |none=>rw[h0] at h;cases h
  |some s1=>rw[h0] at h;rw[q6U h0];exact h
 |regp π l=>
  refine⟨fun s r h=>?_,fun l k h=>by simp [execC.labelled] at h⟩
  simp only[execC] at h
  simp only[exec]
  cases h0:q26 X s l with
  |none=>rw[h0] at h;cases h
  |some s1=>rw[h0] at h;rw[q6U h0];exact h
 |regg m l=>
  refine⟨fun s r h=>?_,fun l k h=>by simp [execC.labelled] at h⟩
  simp only[execC] at h
  simp only[exec]
  cases h0:q4y m X s l with
  |none=>rw[h0] at h;cases h
  |some s1=>rw[h0] at h;rw[z0v h0];exact h
def q6c(N:Nat)(K:Cx)(g:Fun)(args:List V)(blks:List Blk):Option (V×List Blk×List Nat):=
 match execC N K g.body (startS args blks) with
 |some (.nrm,s)=>match mapO (ev K s) g.res with
  |some vs=>finish blks.length g.own s (q0b vs)
  |none=>none
 |some (.ret,s)=>match mapO (ev K s) g.res with
  |some vs=>finish blks.length g.own s (q0b vs)
  |none=>none
 |_=>none
theorem q4V{N:Nat}{K:Cx}{g:Fun}{args:List V}{blks:List Blk}{r:V×List Blk×List Nat}(h:q6c N K g args blks=some r):q0o K g args blks=some r:=by
 unfold q6c at h
 unfold q0o
 cases hs:execC N K g.body (startS args blks) with
 |none=>rw[hs] at h;cases h
 |some q=>
  rw[hs] at h
  rw[(q5N N K g.body).1 _ _ hs]
  exact h
structure Row where
 f:FuncId
 m:Nat
 n:Nat
 g:Fun
variable {P:Program}
end Go.Vm
end

section
namespace Go.Vm
structure Sp where
 α:Type
 f:FuncId
 ok:α→Prop
 args:α→List V
 res:α→V×List Blk
 inj:∀ a b,ok a→ok b→args a=args b→res a=res b
structure Se where
 α:Type
 f:FuncId
 ok:α→Prop
 args:α→List V
 blks:α→List Blk
 res:α→V×List Blk×List Nat
 inj:∀ a b,ok a→ok b→args a=args b→blks a=blks b→res a=res b
open Classical in
noncomputable def q64:List Sp→FuncId→List V→Option (V×List Blk)
 |[],_,_=>none
 |s :: L,f,vs=>if s.f=f then(if h:∃ a,s.ok a∧s.args a=vs then some (s.res h.choose) else none) else q64 L f vs
open Classical in
noncomputable def z0x:List Se→FuncId→List V→List Blk→Option (V×List Blk×List Nat)
 |[],_,_,_=>none
 |s :: L,f,vs,bs=>if s.f=f then(if h:∃ a,s.ok a∧s.args a=vs∧s.blks a=bs then some (s.res h.choose) else none) else z0x L f vs bs
noncomputable def cx(G:Nat→Option (List D))(L:List Sp)(E:List Se):Cx:=⟨q64 L,z0x E,G,fun _=>false,[]⟩
def Has(L:List Sp)(s:Sp):Prop:=∀ a,s.ok a→q64 L s.f (s.args a)=some (s.res a)
def HasE(L:List Se)(s:Se):Prop:=∀ a,s.ok a→z0x L s.f (s.args a) (s.blks a)=some (s.res a)
theorem q0n(s:Sp)(L:List Sp):Has (s :: L) s:=by
 intro a ha
 have h:∃ b,s.ok b∧s.args b=s.args a:=⟨a,ha,rfl⟩
 simp only[q64,if_true]
 rw[dif_pos h]
 exact congrArg some (s.inj _ _ h.choose_spec.1 ha h.choose_spec.2)
theorem q0m{s t:Sp}{L:List Sp}(h:Has L s)(hne:t.f≠s.f):Has (t :: L) s:=by
 intro a ha
 simp only[q64]
 rw[if_neg hne]
 exact h a ha
theorem q6L(s:Se)(L:List Se):HasE (s :: L) s:=by
 intro a ha
 have h:∃ b,s.ok b∧s.args b=s.args a∧s.blks b=s.blks a:=⟨a,ha,rfl,rfl⟩
 simp only[z0x,if_true]
 rw[dif_pos h]
 exact congrArg some (s.inj _ _ h.choose_spec.1 ha h.choose_spec.2.1 h.choose_spec.2.2)
variable {P:Program}{G:Nat→Option (List D)}
def Sp.Holds(P:Program)(G:Nat→Option (List D))(s:Sp):Prop:=∀ a,s.ok a→q0p P s.f=true∧q1f P G s.f (s.args a) (s.res a).1 (s.res a).2
def Se.Holds(P:Program)(G:Nat→Option (List D))(s:Se):Prop:=∀ a,s.ok a→q0p P s.f=true∧q37 P G s.f (s.args a) (s.blks a) (s.res a).1 (s.res a).2.1 (s.res a).2.2
theorem q63:∀(L:List Sp)(f:FuncId)(vs:List V)(p:V×List Blk),q64 L f vs=some p→∃ s∈L,s.f=f∧∃ a,s.ok a∧s.args a=vs∧s.res a=p
 |[],f,vs,p,h=>by cases h
 |s :: L,f,vs,p,h=>by
  simp only[q64] at h
  split at h
  ·rename_i hf
   split at h
   ·rename_i hx
    obtain⟨h1,h2⟩:=hx.choose_spec
    exact⟨s,by simp,hf,_,h1,h2,Option.some.inj h⟩
   ·cases h
  ·obtain⟨t,ht,r⟩:=q63 L f vs p h
   exact⟨t,List.mem_cons_of_mem _ ht,r⟩
theorem q7M:∀(L:List Se)(f:FuncId)(vs:List V)(bs:List Blk)(p:V×List Blk×List Nat),z0x L f vs bs=some p→∃ s∈L,s.f=f∧∃ a,s.ok a∧s.args a=vs∧s.blks a=bs∧s.res a=p
 |[],f,vs,bs,p,h=>by cases h
 |s :: L,f,vs,bs,p,h=>by
  simp only[z0x] at h
  split at h
  ·rename_i hf
   split at h
   ·rename_i hx
    obtain⟨h1,h2,h3⟩:=hx.choose_spec
    exact⟨s,by simp,hf,_,h1,h2,h3,Option.some.inj h⟩
   ·cases h
  ·obtain⟨t,ht,r⟩:=q7M L f vs bs p h
   exact⟨t,List.mem_cons_of_mem _ ht,r⟩
theorem z7G{L:List Sp}{E:List Se}(h1:∀ s∈L,s.Holds P G)(h2:∀ s∈E,s.Holds P G):(cx G L E).Sound P:=by
 refine⟨fun f args r news h=>?_,fun f args r news hl _=>absurd hl (by simp [cx]),fun f args blks r blks' mv h=>?_⟩
 ·obtain⟨s,hs,rfl,a,ha,rfl,hr⟩:=q63 L f args (r,news) h
  have:=h1 s hs a ha
  rw[hr] at this
  exact this
 ·obtain⟨s,hs,rfl,a,ha,rfl,rfl,hr⟩:=q7M E f args blks (r,blks',mv) h
  have:=h2 s hs a ha
  rw[hr] at this
  exact this
theorem z7a{L:List Sp}{E:List Se}(hm:P.follows .mixedOrders=true)(hK:(cx G L E).Sound P){s:Sp}{g:Fun}(hok:∀ a,s.ok a→q0J P s.f 0 (s.args a).length g=true)
  (hev:∀ a,s.ok a→∃ mv,q0o (cx G L E) g (s.args a) []=some ((s.res a).1,(s.res a).2,mv)):s.Holds P G:=by
 intro a ha
 obtain⟨mv,h⟩:=hev a ha
 exact q3B hm hK (hok a ha) h
theorem z4K{L:List Sp}{E:List Se}(hm:P.follows .mixedOrders=true)(hK:(cx G L E).Sound P){s:Se}{g:Fun}(hok:∀ a,s.ok a→q0J P s.f (s.blks a).length (s.args a).length g=true)
  (hev:∀ a,s.ok a→q0o (cx G L E) g (s.args a) (s.blks a)=some (s.res a)):s.Holds P G:=by
 intro a ha
 exact q9y hm hK (hok a ha) (hev a ha)
structure Known(P:Program)(G:Nat→Option (List D))(L:List Sp)(E:List Se):Prop where
 one:∀ s∈L,s.Holds P G
 eff:∀ s∈E,s.Holds P G
theorem Known.sound{L:List Sp}{E:List Se}(h:Known P G L E):(cx G L E).Sound P:=z7G h.one h.eff
theorem Known.nil:Known P G [] []:=⟨fun s h=>by simp at h,fun s h=>by simp at h⟩
theorem Known.add{L:List Sp}{E:List Se}(h:Known P G L E)(hm:P.follows .mixedOrders=true){s:Sp}{g:Fun}(hok:∀ a,s.ok a→q0J P s.f 0 (s.args a).length g=true)
  (hev:∀ a,s.ok a→∃ mv,q0o (cx G L E) g (s.args a) []=some ((s.res a).1,(s.res a).2,mv)):Known P G (s :: L) E:=by
 refine⟨fun t ht=>?_,h.eff⟩
 rcases List.mem_cons.1 ht with rfl|ht
 ·exact z7a hm h.sound hok hev
 ·exact h.one t ht
theorem Known.addE{L:List Sp}{E:List Se}(h:Known P G L E)(hm:P.follows .mixedOrders=true){s:Se}{g:Fun}(hok:∀ a,s.ok a→q0J P s.f (s.blks a).length (s.args a).length g=true)
  (hev:∀ a,s.ok a→q0o (cx G L E) g (s.args a) (s.blks a)=some (s.res a)):Known P G L (s :: E):=by
 refine⟨h.one,fun t ht=>?_⟩
 rcases List.mem_cons.1 ht with rfl|ht
 ·exact z4K hm h.sound hok hev
 ·exact h.eff t ht
theorem Known.put{L:List Sp}{E:List Se}(h:Known P G L E){s:Sp}(hs:s.Holds P G):Known P G (s :: L) E:=by
 refine⟨fun t ht=>?_,h.eff⟩
 rcases List.mem_cons.1 ht with rfl|ht
 ·exact hs
 ·exact h.one t ht
theorem Known.putE{L:List Sp}{E:List Se}(h:Known P G L E){s:Se}(hs:s.Holds P G):Known P G L (s :: E):=by
 refine⟨h.one,fun t ht=>?_⟩
 rcases List.mem_cons.1 ht with rfl|ht
 ·exact hs
 ·exact h.eff t ht
theorem z4P{s t:Se}{L:List Se}(h:HasE L s)(hne:t.f≠s.f):HasE (t :: L) s:=by
 intro a ha
 simp only[z0x]
 rw[if_neg hne]
 exact h a ha
end Go.Vm
end

section
namespace Go.Vm
open Go.RowKit
section
variable {P:Program}{w:World}
def Same(w:World)(v v':Value):Prop:=v'.ownBlock=v.ownBlock∨∃ g,v'.ownBlock=some g∧w.heap.size≤g
theorem z0E(t ty e:TypeId)(i:TypeInfo)(ht:P.underlying t=some (.slice e))(hi:P.info? e=some i)(hz:i.zero=some (.int .u8 0))(hsize:i.size=1)(hby:i.bytes=1)
  (v:Value) (n:Nat) (xs:List Value) (hown:w.ownsRowF 0 e 1 v n xs)
  (a:Addr) (m c:Nat) (news:List Value) (hl:news.length=m) (hnews:∀ j u,news[j]? = some u→w.cell? (a.add j)=some u) (h1:∀ u∈news,u.oneCell'=true) (h63:n+m≤maxLen) (hbytes:n+m≤140737488355328) :
  ∃ v' w',(Builtin.append_ #[t,t] ty #[v,.slice (some a) m c]).run P w=.ok v' w'∧w'.ownsRowF 0 e 1 v' (n+m) (xs++news)∧w.grownBy w' v.ownBlock∧(v'=.slice none 0 0↔v=.slice none 0 0∧m=0)∧Same w v v':=by
 obtain⟨v',w',r1,r2,r3,r4⟩:=run_append_ownF (P:=P) w 0 t ty e i (.int .u8 0) 1 1 ht hi hz hsize hby rfl (by decide) v n xs hown a m c news (by omega) hnews h1 h63 (by omega) (Nat.zero_le _)
 refine⟨v',w',r1,r2,r3,r4,?_⟩
 rcases hown.2 with⟨rfl,rfl⟩|⟨g,cap,cur,fz,rfl,hbg,hg,hfz,hnc,hcm,hcs,htake⟩
 ·obtain⟨v2,w2,q1,q2,q3,q4⟩:=run_append_ownF (P:=P) w w.heap.size t ty e i (.int .u8 0) 1 1 ht hi hz hsize hby rfl (by decide) (.slice none 0 0) 0 xs ⟨hown.1,.inl ⟨rfl,rfl⟩⟩ a m c news (by omega) hnews h1 h63 (by omega) (Nat.le_refl _)
  rw[r1] at q1
  obtain⟨rfl,rfl⟩:v'=v2∧w'=w2:=by injection q1 with e1 e2;exact⟨e1,e2⟩
  cases ho:v'.ownBlock with
  |none=>exact .inl (by rw[ho];rfl)
  |some g=>exact .inr ⟨g,ho,(q2.lt g ho).1⟩
 ·by_cases hroom:n+m≤cap
  ·have hr:=run_append_roomF (P:=P) w t ty e i ht hi g n cap cur fz hg (by rw[hsize];exact hfz) a m c news (by rw[hsize];omega) hnews h1 hroom (by rw[hsize];omega)
   rw[r1] at hr
   obtain⟨rfl,_⟩:v'=.slice (some ⟨g,0,none⟩) (n+m) cap∧True:=by injection hr with e1 e2;exact⟨e1,trivial⟩
   exact .inl rfl
  ·have holds:∀ j u,xs[j]? = some u→w.cell? ((⟨g,0,none⟩:Addr).add j)=some u:=hown.cells (g:=g) rfl
   have hsmall:n+m≤9223372036854775807:=by simp only[maxLen] at h63;omega
   have hr:=run_append_grow (P:=P) w t ty e i (.int .u8 0) ht hi hz ⟨g,0,none⟩ n cap xs (by rw[hsize];exact hown.1) holds a m c news (by rw[hsize];omega) hnews (by omega) (by omega) (growslice_fits (by omega) (by rw[hby];omega))
   rw[r1] at hr
   obtain⟨rfl,_⟩:v'=.slice (some ⟨w.heap.size,0,none⟩) (n+m) (grownCap w (n+m) cap e)∧True:=by injection hr with e1 e2;exact⟨e1,trivial⟩
   exact .inr ⟨w.heap.size,rfl,Nat.le_refl _⟩
theorem q68(t u ty e:TypeId)(i:TypeInfo)(ht:P.underlying t=some (.slice e))(hu:P.underlying u=some .string)(hi:P.info? e=some i)(hz:i.zero=some (.int .u8 0))(hsize:i.size=1)(hby:i.bytes=1)
  (v:Value) (n:Nat) (xs:List Value) (hown:w.ownsRowF 0 e 1 v n xs) (s:ByteArray) (h63:n+s.size≤maxLen) (hbytes:n+s.size≤140737488355328) :
  ∃ v' w',(Builtin.append_ #[t,u] ty #[v,.string s]).run P w=.ok v' w'∧w'.ownsRowF 0 e 1 v' (n+s.size) (xs++Lib.strCells s)∧w.grownBy w' v.ownBlock∧(v'=.slice none 0 0↔v=.slice none 0 0∧s.size=0)∧Same w v v':=by
 obtain⟨v',w',r1,r2,r3,r4⟩:=Lib.run_append_own_stringF (P:=P) w 0 t u ty e i ht hu hi hz hsize hby v n xs hown s h63 hbytes (Nat.zero_le _)
 refine⟨v',w',r1,r2,r3,r4,?_⟩
 rcases hown.2 with⟨rfl,rfl⟩|⟨g,cap,cur,fz,rfl,hbg,hg,hfz,hnc,hcm,hcs,htake⟩
 ·obtain⟨v2,w2,q1,q2,q3,q4⟩:=Lib.run_append_own_stringF (P:=P) w w.heap.size t u ty e i ht hu hi hz hsize hby (.slice none 0 0) 0 xs ⟨hown.1,.inl ⟨rfl,rfl⟩⟩ s h63 hbytes (Nat.le_refl _)
  rw[r1] at q1
  obtain⟨rfl,rfl⟩:v'=v2∧w'=w2:=by injection q1 with e1 e2;exact⟨e1,e2⟩
  cases ho:v'.ownBlock with
  |none=>exact .inl (by rw[ho];rfl)
  |some g=>exact .inr ⟨g,ho,(q2.lt g ho).1⟩
 ·by_cases hroom:n+s.size≤cap
  ·have hr:=Lib.run_append_room_stringF (P:=P) w t u ty e i ht hu hi hsize g n cap cur fz hg (by omega) s hroom (by omega)
   rw[r1] at hr
   obtain⟨rfl,_⟩:v'=.slice (some ⟨g,0,none⟩) (n+s.size) cap∧True:=by injection hr with e1 e2;exact⟨e1,trivial⟩
   exact .inl rfl
  ·have holds:∀ j u,xs[j]? = some u→w.cell? ((⟨g,0,none⟩:Addr).add j)=some u:=hown.cells (g:=g) rfl
   have hsmall:n+s.size≤9223372036854775807:=by simp only[maxLen] at h63;omega
   have hr:=Lib.run_append_grow_string (P:=P) w t u ty e i (.int .u8 0) ht hu hi hz ⟨g,0,none⟩ n cap xs (by rw[hsize];exact hown.1) holds s (by omega) (by omega) (growslice_fits (by omega) (by rw[hby];omega))
   rw[r1] at hr
   obtain⟨rfl,_⟩:v'=.slice (some ⟨w.heap.size,0,none⟩) (n+s.size) (grownCap w (n+s.size) cap e)∧True:=by injection hr with e1 e2;exact⟨e1,trivial⟩
   exact .inr ⟨w.heap.size,rfl,Nat.le_refl _⟩
theorem q7c{ops:Array Oper}{rest:List Oper}{o:Oper}{a:Act}{Q:Exit→Act→World→Prop}(hgd:o.guard=none)(s x:Operand)(t:TypeId)
  (ho:o.op=.call { callee:=.builtin .append,args:=#[s,x],argTypes:=#[t,t] })
  (e:TypeId) (i:TypeInfo) (ht:P.underlying t=some (.slice e)) (hi:P.info? e=some i) (hz:i.zero=some (.int .u8 0)) (hsize:i.size=1) (hby:i.bytes=1)
  (v:Value) (n:Nat) (xs:List Value) (hs:a.eval s=v) (hown:w.ownsRowF 0 e 1 v n xs)
  (ad:Addr) (m c:Nat) (news:List Value) (hx:a.eval x=.slice (some ad) m c) (hl:news.length=m) (hnews:∀ j u,news[j]? = some u→w.cell? (ad.add j)=some u) (h1:∀ u∈news,u.oneCell'=true) (h63:n+m≤maxLen) (hbytes:n+m≤140737488355328)
  (h:∀ v' w',w'.ownsRowF 0 e 1 v' (n+m) (xs++news)→w.grownBy w' v.ownBlock→(v'=.slice none 0 0↔v=.slice none 0 0∧m=0)→Same w v v'→wpList P ops Q rest (a.put o.dst v') w'):wpList P ops Q (o :: rest) a w:=by
 refine wpList_plain hgd fun K hK=>?_
 obtain⟨v',w',hr,h2,h3,h4,h5⟩:=z0E (P:=P) (w:=w) t o.type e i ht hi hz hsize hby v n xs hown ad m c news hl hnews h1 h63 hbytes
 unfold Oper.wp execOp
 simp only[ho,resolve,invoke,builtin,Sem.run_bind,Sem.run_pure,Result.andThen_ok,List.map_toArray,List.map_cons,List.map_nil,hs,hx,hr]
 exact hK _ _ (h v' w' h2 h3 h4 h5)
theorem q38{ops:Array Oper}{rest:List Oper}{o:Oper}{a:Act}{Q:Exit→Act→World→Prop}(hgd:o.guard=none)(sl x:Operand)(t u:TypeId)
  (ho:o.op=.call { callee:=.builtin .append,args:=#[sl,x],argTypes:=#[t,u] })
  (e:TypeId) (i:TypeInfo) (ht:P.underlying t=some (.slice e)) (hu:P.underlying u=some .string) (hi:P.info? e=some i) (hz:i.zero=some (.int .u8 0)) (hsize:i.size=1) (hby:i.bytes=1)
  (v:Value) (n:Nat) (xs:List Value) (hs:a.eval sl=v) (hown:w.ownsRowF 0 e 1 v n xs) (s:ByteArray) (hx:a.eval x=.string s) (h63:n+s.size≤maxLen) (hbytes:n+s.size≤140737488355328)
  (h:∀ v' w',w'.ownsRowF 0 e 1 v' (n+s.size) (xs++Lib.strCells s)→w.grownBy w' v.ownBlock→(v'=.slice none 0 0↔v=.slice none 0 0∧s.size=0)→Same w v v'→wpList P ops Q rest (a.put o.dst v') w'):wpList P ops Q (o :: rest) a w:=by
 refine wpList_plain hgd fun K hK=>?_
 obtain⟨v',w',hr,h2,h3,h4,h5⟩:=q68 (P:=P) (w:=w) t u o.type e i ht hu hi hz hsize hby v n xs hown s h63 hbytes
 unfold Oper.wp execOp
 simp only[ho,resolve,invoke,builtin,Sem.run_bind,Sem.run_pure,Result.andThen_ok,List.map_toArray,List.map_cons,List.map_nil,hs,hx,hr]
 exact hK _ _ (h v' w' h2 h3 h4 h5)
end
end Go.Vm
end

section
set_option linter.unusedVariables false
namespace Go.Vm
open Go.RowKit Go.Shelf Go.Proofs
section
variable {P:Program}{ρ:Ren}
structure BAt(T e:TypeId)(w:World)(b:Nat)(p v:Value)(bs:List Value):Prop where
 hp:p=.pointer none∨p=.pointer (some ⟨b,0,none⟩)
 hb:w.heap[b]? = some (.cells #[p,v] T (0,0))
 own:w.ownsRowF 0 e 1 v bs.length bs
 ne:v.ownBlock≠some b
theorem BAt.isB{T e:TypeId}{w:World}{b:Nat}{p v:Value}{bs:List Value}(h:BAt T e w b p v bs):Lib.IsBuilderF T e 0 b bs w:=by
 rcases h.hp with rfl|rfl
 ·exact .inl ⟨Nat.zero_le _,v,h.hb,h.own,h.ne⟩
 ·exact .inr ⟨Nat.zero_le _,v,h.hb,h.own,h.ne⟩
theorem BAt.lt{T e:TypeId}{w:World}{b:Nat}{p v:Value}{bs:List Value}(h:BAt T e w b p v bs):b<w.heap.size:=by
 rcases Nat.lt_or_ge b w.heap.size with h'|h'
 ·exact h'
 ·have:=h.hb;simp [Array.getElem?_eq_none h'] at this
structure Kept(w w':World)(b:Nat)(v v':Value):Prop where
 os:w'.os=w.os
 tape:w'.tape=w.tape
 output:w'.output=w.output
 size:w.heap.size≤w'.heap.size
 blk:∀ k,k<w.heap.size→k≠b→some k≠v.ownBlock→w'.heap[k]? = w.heap[k]?
 same:Same w v v'
def SizeEq(w1 w:World):Prop:=w1.heap.size=w.heap.size
theorem SizeEq.eq{w1 w:World}(h:SizeEq w1 w):w1.heap.size=w.heap.size:=h
theorem z5B{T e:TypeId}{w w1 w2:World}{b:Nat}{v v':Value}{bs':List Value}(hTe:T≠e)(hsz:w1.heap.size=w.heap.size∨w1.heap.size=w.heap.size+1)(hos:w1.os=w.os∧w1.tape=w.tape∧w1.output=w.output)(hold:∀ k,k<w.heap.size→k≠b→w1.heap[k]? = w.heap[k]?)
  (hb2:w2.heap[b]? = some (.cells #[.pointer (some ⟨b,0,none⟩),v] T (0,0))) (hgrow:w1.grownBy w2 v.ownBlock) (hown:w2.ownsRowF 0 e 1 v' bs'.length bs') (hs:Same w1 v v') (hv:∀ g,v.ownBlock=some g→g<w.heap.size) :
  BAt T e (w2.setCell ⟨b,1,none⟩ v') b (.pointer (some ⟨b,0,none⟩)) v' bs'∧Kept w (w2.setCell ⟨b,1,none⟩ v') b v v':=by
 have hne:=Lib.ownBlock_neF hown hb2 hTe
 refine⟨⟨.inr rfl,?_,?_,hne⟩,⟨hgrow.os.trans hos.1,hgrow.tape.trans hos.2.1,hgrow.output.trans hos.2.2,by have:=hgrow.size;simp;omega,fun k hk h1 h2=>?_,?_⟩⟩
 ·simp [World.setCell,Array.getElem?_modify,hb2]
 ·exact hown.kept (row:=some b) ⟨rfl,rfl,rfl,by simp [World.setCell],fun k _ hk=>Below.heap_setCell _ _ _ _ (fun e=>hk (by simp [e]))⟩ (Or.inr hne)
 ·rw[Below.heap_setCell _ _ _ _ h1,hgrow.block k (by omega) h2,hold k hk h1]
 ·rcases hs with h|⟨g,h1,h2⟩
  ·exact .inl h
  ·exact .inr ⟨g,h1,by omega⟩
end
end Go.Vm
end

section
set_option linter.unusedVariables false
namespace Go.Vm
open Go.RowKit Go.Shelf Go.Proofs
section
variable {P:Program}{ρ:Ren}
theorem q4w(w:World)(a:Addr)(n k:Nat)(h:k≠a.block):(w.freeze a n).heap[k]? = w.heap[k]?:=by
 unfold World.freeze
 split
 ·rfl
 ·simp [Array.getElem?_modify,h.symm]
set_option maxHeartbeats 2000000 in
set_option maxRecDepth 100000 in
theorem q7i(L:Lays.n169 P ρ)(X:Builder.Extra P ρ){w:World}{b:Nat}{p:Value}(h:BAt (ρ.t 72) (ρ.t 5) w b p (.slice none 0 0) []) :
  Calls P (ρ.f 169) #[.pointer (some ⟨b,0,none⟩)] w fun e w'=>e=.returned (.string ⟨#[]⟩)∧w'=w.drew:=by
 have hUS:=Any.unsafeString_none L X
 have c1:w.drew.cell? ⟨b,1,none⟩=some (.slice none 0 0):=by
  have:w.drew.heap[b]? = some (.cells #[p,.slice none 0 0] (ρ.t 72) (0,0)):=h.hb
  rw[Lib.cell_of_heap this];rfl
 have hSD:(Builtin.unsafeSliceData_ #[(ρ.t 37)] (ρ.t 127) #[.slice none 0 0]).run P w.drew=.ok (.pointer none) w.drew:=rfl
 have mixed:=L.mixed
 have t72:=L.t72;have a72:=L.a72;have z72:=L.z72;have v72:=L.v72;have u72:=run_underlying L.t72
 have t70:=L.t70;have a70:=L.a70;have z70:=L.z70;have v70:=L.v70;have u70:=run_underlying L.t70
 have t37:=L.t37;have a37:=L.a37;have z37:=L.z37;have v37:=L.v37;have u37:=run_underlying L.t37
 have t127:=L.t127;have a127:=L.a127;have z127:=L.z127;have v127:=L.v127;have u127:=run_underlying L.t127
 have t3:=L.t3;have a3:=L.a3;have z3:=L.z3;have v3:=L.v3;have u3:=run_underlying L.t3
 have t9:=L.t9;have a9:=L.a9;have z9:=L.z9;have v9:=L.v9;have u9:=run_underlying L.t9
 have t5:=X.t5;have a5:=X.a5;have z5:=X.z5;have v5:=X.v5;have u5:=run_underlying X.t5
 go_enter L.f169,Body.n169_ntmps ρ
 go_wp2
 go_region_o
 all_goals(go_wp2;go_ret;exact⟨rfl,rfl⟩)
set_option maxHeartbeats 2000000 in
set_option maxRecDepth 100000 in
theorem q67(L:Lays.n169 P ρ)(X:Builder.Extra P ρ){w:World}{b g cap:Nat}{p:Value}{l:List UInt8}(h0:l≠[])(h:BAt (ρ.t 72) (ρ.t 5) w b p (.slice (some ⟨g,0,none⟩) l.length cap) (Lib.byteCells l)) :
  Calls P (ρ.f 169) #[.pointer (some ⟨b,0,none⟩)] w fun e w'=>e=.returned (.string ⟨l.toArray⟩)∧w'=w.drew.freeze ⟨g,0,none⟩ l.length:=by
 have hl0:l.length≠0:=by simpa using h0
 have hbk:=h.hb
 have hown:=h.own
 rw[Lib.byteCells_length] at hown
 obtain⟨cur,fz,hg,hfz,hnc,hcm,hcs,htake⟩:∃ cur fz,w.heap[g]? = some (.cells cur (ρ.t 5) fz)∧fz.2≤l.length*1∧l.length≤cap∧cap≤maxLen∧cur.size=cap*1∧cur.toList.take (l.length*1)=Lib.byteCells l:=by
  rcases hown.2 with⟨_,hz⟩|⟨g',cap',cur,fz,hv,hB,r⟩
  ·exact absurd hz hl0
  ·injection hv with e1 e2 e3
   injection e1 with e1
   injection e1 with e1 _
   subst e1;subst e3
   exact⟨cur,fz,r⟩
 have c1:w.drew.cell? ⟨b,1,none⟩=some (.slice (some ⟨g,0,none⟩) l.length cap):=by
  have:w.drew.heap[b]? = some (.cells #[p,.slice (some ⟨g,0,none⟩) l.length cap] (ρ.t 72) (0,0)):=hbk
  rw[Lib.cell_of_heap this];rfl
 have hSD:(Builtin.unsafeSliceData_ #[(ρ.t 37)] (ρ.t 127) #[.slice (some ⟨g,0,none⟩) l.length cap]).run P w.drew=.ok (.pointer (some ⟨g,0,none⟩)) w.drew:=
  Lib.run_unsafeSliceData_row _ _ _ _ _ _ (by omega)
 have hUS:(Builtin.unsafeString_ #[(ρ.t 127),(ρ.t 3)] (ρ.t 9) #[.pointer (some ⟨g,0,none⟩),.int .i64 l.length]).run P w.drew=.ok (.string ⟨l.toArray⟩) (w.drew.freeze ⟨g,0,none⟩ l.length):=by
  refine Lib.run_unsafeString_row w.drew (ρ.t 127) (ρ.t 3) (ρ.t 9) (ρ.t 5) L.t127 X.cellsByte g cur.size (by have hg':w.drew.heap[g]? = some (.cells cur (ρ.t 5) fz):=hg;simp [World.shape?,hg']) l h0 (by omega) (by unfold maxLen at hcm;omega) ?_
  intro j x hx
  have:=hown.cells (g:=g) rfl j (.int .u8 x.toNat) (by simp [Lib.byteCells,hx])
  exact this
 have mixed:=L.mixed
 have t72:=L.t72;have a72:=L.a72;have z72:=L.z72;have v72:=L.v72;have u72:=run_underlying L.t72
 have t70:=L.t70;have a70:=L.a70;have z70:=L.z70;have v70:=L.v70;have u70:=run_underlying L.t70
 have t37:=L.t37;have a37:=L.a37;have z37:=L.z37;have v37:=L.v37;have u37:=run_underlying L.t37
 have t127:=L.t127;have a127:=L.a127;have z127:=L.z127;have v127:=L.v127;have u127:=run_underlying L.t127
 have t3:=L.t3;have a3:=L.a3;have z3:=L.z3;have v3:=L.v3;have u3:=run_underlying L.t3
 have t9:=L.t9;have a9:=L.a9;have z9:=L.z9;have v9:=L.v9;have u9:=run_underlying L.t9
 have t5:=X.t5;have a5:=X.a5;have z5:=X.z5;have v5:=X.v5;have u5:=run_underlying X.t5
 go_enter L.f169,Body.n169_ntmps ρ
 go_wp2
 go_region_o
 all_goals(go_wp2;go_ret;exact⟨rfl,rfl⟩)
end
end Go.Vm
end

section
set_option linter.unusedVariables false
namespace Go.Vm
open Go.RowKit Go.Shelf Go.Proofs
@[reducible] def bldB (T b n:Nat):Blk:=.map [(.nils T,.bsl b 0 n)]
@[reducible] def bufB (e:Nat) (bytes:List UInt8):Blk:=.map [(.emps e,.d false .nilp),(.str bytes,.d false .nilp)]
section
variable {P:Program}{ρ:Ren}{w w':World}{F:Nat→Prop}{σ:Nat→Option Loc}
theorem q0A(l:List UInt8):(q1s l).length=l.length:=by simp [q1s]
theorem q5V{T e:Nat}{bytes:List UInt8}(hH:HeapRel w F (OwnB σ) w.heap.size σ 2 (indexed [bldB T 1 bytes.length,bufB e bytes])) :
  ∃ l0 p v,σ 0=some l0∧l0.k=0∧BAt T e w l0.blk p v (q1s bytes)∧(bytes=[]→v=.slice none 0 0)∧∀ g,v.ownBlock=some g→∃ l,σ 1=some l∧l.blk=g:=by
 have h0:=hH.blk 0 (bldB T 1 bytes.length) rfl
 have h1:=hH.blk 1 (bufB e bytes) rfl
 rcases h0 with⟨hn,_⟩|⟨l0,es,ck,ds,hds,hs0,hm,hk,_,_⟩|⟨_,_,_,_,_,_,_,_,_,he⟩
 ·simp [Blk.n,q7w,z4k] at hn
 ·obtain rfl:[(D.nils T,V.bsl 1 0 bytes.length)]=ds:=by injection hds
  rcases hm with⟨_,_,ht⟩|⟨T',p,v,x,hx,hw,hp,hv⟩|⟨T',cur,fz,bs,hx,_⟩
  ·simp [q02] at ht
  ·simp only[List.cons.injEq,Prod.mk.injEq,D.nils.injEq,and_true] at hx
   obtain⟨rfl,rfl⟩:=hx
   obtain⟨_,hv⟩:=hv
   refine⟨l0,p,v,hs0,hk,?_⟩
   rcases hv with⟨hb,rfl⟩|⟨l,hl,hpos,rfl⟩
   ·obtain rfl:bytes=[]:=List.eq_nil_of_length_eq_zero hb
    exact⟨⟨hp,hw,World.ownsRowF_nil _ _ _ _,by simp [Value.ownBlock]⟩,fun _=>rfl,fun g hg=>by simp [Value.ownBlock] at hg⟩
   ·rcases h1 with⟨_,hn⟩|⟨l1,es1,ck1,ds1,hds1,hs1,hm1,hk1,_,_⟩|⟨_,_,_,_,_,_,_,_,_,he⟩
    ·rw[hl] at hn;cases hn
    ·obtain rfl:[(D.emps e,V.d false .nilp),(.str bytes,.d false .nilp)]=ds1:=by injection hds1
     rw[hl] at hs1
     obtain rfl:=Option.some.inj hs1
     rcases hm1 with⟨_,_,ht⟩|⟨T',p',v',x',hx,_⟩|⟨T',cur,fz,bs,hx,hg,f1,f2,f3,f4,f5⟩
     ·simp [q02] at ht
     ·simp at hx
     ·simp only[List.map_cons,List.map_nil,List.cons.injEq,D.emps.injEq,D.str.injEq,and_true] at hx
      obtain⟨rfl,rfl⟩:=hx
      refine⟨⟨hp,hw,⟨by simp,.inr ⟨l.blk,l.ext,cur,fz,by rw[q0A],Nat.zero_le _,hg,by rw[q0A];omega,by rw[q0A];exact f2,f4,by omega,?_⟩⟩,?_⟩,fun h=>?_,fun g hg=>⟨l,hl,?_⟩⟩
      ·rw[q0A,Nat.mul_one];exact f5
      ·intro h
       simp only[Value.ownBlock,Option.some.injEq] at h
       have:=hH.inj 0 1 l0 l hs0 hl h.symm
       cases this
      ·rw[h] at hpos;simp at hpos
      ·simpa [Value.ownBlock] using hg
    ·simp [Blk.entries] at he
  ·simp at hx
 ·simp [Blk.entries] at he
theorem q4M{T e:Nat}{l0:Loc}{p' v v':Value}{bytes':List UInt8}{H:List (Nat×Blk)}(hH:HeapRel w F (OwnB σ) w.heap.size σ 2 H)(hs0:σ 0=some l0)(hk0:l0.k=0)(hv:∀ g,v.ownBlock=some g→∃ l,σ 1=some l∧l.blk=g)
  (hb:BAt T e w' l0.blk p' v' (q1s bytes')) (hK:Kept w w' l0.blk v v') (hnil:bytes'=[]→v'=.slice none 0 0) :
  ∃ σ',Frame (OwnB σ) w.heap.size w w'∧HeapRel w' F (OwnB σ) w.heap.size σ' 2 (indexed [bldB T 1 bytes'.length,bufB e bytes'])∧∀ i l,i<2→σ i=some l→i∉[1]→σ' i=some l:=by
 have hF:∀ b,F b→b<w'.heap.size:=fun b hf=>Nat.lt_of_lt_of_le (hH.fro b hf) hK.size
 have hframe:Frame (OwnB σ) w.heap.size w w':=⟨hK.os,hK.tape,hK.output,hK.size,fun k hk hX=>hK.blk k hk (fun h=>hX 0 ⟨l0,hs0,h.symm⟩) (fun h=>by
  obtain⟨l,h1,h2⟩:=hv k h.symm
  exact hX 1 ⟨l,h1,h2⟩)⟩
 obtain⟨o1,o2,o3,o4⟩:=hH.own 0 l0 hs0
 have hlt0:=hb.lt
 rcases hb.own.2 with⟨rfl,hz⟩|⟨g,cap,cur,fz,rfl,_,hg,f1,f2,f3,f4,f5⟩
 ·-- no buffer
  have hz':bytes'=[]:=by rw[q0A] at hz;exact List.eq_nil_of_length_eq_zero hz
  subst hz'
  refine⟨fun i=>if i=0 then some l0 else none,hframe,⟨fun i blk hi=>?_,fun i j l l' h1 h2 _=>?_,fun i l h=>?_,hF⟩,fun i l hi hl hm=>?_⟩
  ·have:(i=0∧blk=bldB T 1 0)∨(i=1∧blk=bufB e []):=by
    simp only[indexed,List.zipIdx_cons,List.zipIdx_nil,List.map_cons,List.map_nil,look,List.length_nil] at hi
    split at hi
    ·rename_i h;exact .inl ⟨h.symm,(Option.some.inj hi).symm⟩
    ·split at hi
     ·rename_i h;exact .inr ⟨by omega,(Option.some.inj hi).symm⟩
     ·cases hi
   rcases this with⟨rfl,rfl⟩|⟨rfl,rfl⟩
   ·exact .inr (.inl ⟨l0,#[⟨.slice none 0 0,.slice none 0 0,0⟩],0,_,rfl,rfl,.inr (.inl ⟨T,p',.slice none 0 0,_,rfl,hb.hb,hb.hp,rfl,.inl ⟨rfl,rfl⟩⟩),hk0,trivial,rfl,fun i e p he hp=>by
     match i,he,hp with
     |0,he,hp=>
      simp at he hp
      subst he;subst hp
      exact⟨rfl,.nils T,.bsl0 none 1 0⟩
     |i+1,he,hp=>simp at he⟩)
   ·exact .inl ⟨rfl,rfl⟩
  ·split at h1
   ·split at h2
    ·omega
    ·cases h2
   ·cases h1
  ·split at h
   ·rename_i h0
    subst h0
    obtain rfl:=Option.some.inj h
    exact⟨by omega,o2,o3,hlt0⟩
   ·cases h
  ·have:i=0:=by simp at hm;omega
   subst this
   show some l0=some l
   rw[←hs0];exact hl
 ·have hgne:g≠l0.blk:=fun h=>hb.ne (by simp [Value.ownBlock,h])
  have hpos:0<bytes'.length:=by
   rcases Nat.eq_zero_or_pos bytes'.length with h|h
   ·have:=hnil (List.eq_nil_of_length_eq_zero h)
    simp at this
   ·exact h
  have hgl:g<w'.heap.size:=by
   rcases Nat.lt_or_ge g w'.heap.size with h'|h'
   ·exact h'
   ·simp [Array.getElem?_eq_none h'] at hg
  rw[q0A,Nat.mul_one] at f1 f5
  rw[q0A] at f2
  -- where the buffer is
  have gown:¬ F g∧(w.heap.size≤g∨OwnB σ 1 g):=by
   rcases hK.same with h|⟨g',h1,h2⟩
   ·obtain⟨l,h1,h2⟩:=hv g (by rw[←h];rfl)
    obtain⟨q1,q2,q3,q4⟩:=hH.own 1 l h1
    rw[h2] at q2
    exact⟨q2,.inr ⟨l,h1,h2⟩⟩
   ·simp only[Value.ownBlock,Option.some.injEq] at h1
    subst h1
    exact⟨fun hf=>by have:=hH.fro _ hf;omega,.inl h2⟩
  let l1:Loc:=⟨g,0,cap⟩
  refine⟨fun i=>if i=0 then some l0 else if i=1 then some l1 else none,hframe,⟨fun i blk hi=>?_,fun i j l l' h1 h2 he=>?_,fun i l h=>?_,hF⟩,fun i l hi hl hm=>?_⟩
  ·have:(i=0∧blk=bldB T 1 bytes'.length)∨(i=1∧blk=bufB e bytes'):=by
    simp only[indexed,List.zipIdx_cons,List.zipIdx_nil,List.map_cons,List.map_nil,look] at hi
    split at hi
    ·rename_i h;exact .inl ⟨h.symm,(Option.some.inj hi).symm⟩
    ·split at hi
     ·rename_i h;exact .inr ⟨by omega,(Option.some.inj hi).symm⟩
     ·cases hi
   rcases this with⟨rfl,rfl⟩|⟨rfl,rfl⟩
   ·refine .inr (.inl ⟨l0,#[⟨.slice none 0 0,.slice (some ⟨g,0,none⟩) bytes'.length cap,0⟩],0,_,rfl,rfl,.inr (.inl ⟨T,p',_,_,rfl,hb.hb,hb.hp,rfl,.inr ⟨l1,rfl,hpos,by rw[q0A]⟩⟩),hk0,trivial,rfl,fun i e p he hp=>?_⟩)
    match i,he,hp with
    |0,he,hp=>
     simp at he hp
     subst he;subst hp
     exact⟨rfl,.nils T,by
      have:=RepV.bsl (w:=w') (F:=F) (base:=w.heap.size) (σ:=fun i=>if i=0 then some l0 else if i=1 then some l1 else none) 1 0 bytes'.length cap l1 rfl f2 (by simp [l1])
      simpa [l1] using this⟩
    |i+1,he,hp=>simp at he
   ·refine .inr (.inl ⟨l1,#[⟨.slice (some ⟨0,0,none⟩) 0 0,.pointer none,0⟩,⟨.string ⟨bytes'.toArray⟩,.pointer none,0⟩],0,_,rfl,rfl,.inr (.inr ⟨e,cur,fz,bytes',rfl,hg,f1,f2,by simpa using f4,f3,f5⟩),rfl,trivial,rfl,fun i e' p he hp=>?_⟩)
    match i,he,hp with
    |0,he,hp=>
     simp at he hp
     subst he;subst hp
     exact⟨rfl,.emps _ _ e,.d _ _ _ .nilp⟩
    |1,he,hp=>
     simp at he hp
     subst he;subst hp
     exact⟨rfl,.str ⟨bytes'.toArray⟩,.d _ _ _ .nilp⟩
    |i+2,he,hp=>simp at he
  ·have two:∀ {i:Nat} {l:Loc},(if i=0 then some l0 else if i=1 then some l1 else none)=some l→(i=0∧l=l0)∨(i=1∧l=l1):=by
    intro i l h
    split at h
    ·rename_i h0;exact .inl ⟨h0,(Option.some.inj h).symm⟩
    ·split at h
     ·rename_i h0;exact .inr ⟨h0,(Option.some.inj h).symm⟩
     ·cases h
   rcases two h1 with⟨rfl,rfl⟩|⟨rfl,rfl⟩ <;> rcases two h2 with⟨rfl,rfl⟩|⟨rfl,rfl⟩
   ·rfl
   ·exact absurd he.symm hgne
   ·exact absurd he hgne
   ·rfl
  ·split at h
   ·rename_i h0
    subst h0
    obtain rfl:=Option.some.inj h
    exact⟨by omega,o2,o3,hlt0⟩
   ·split at h
    ·rename_i h0
     subst h0
     obtain rfl:=Option.some.inj h
     exact⟨by omega,gown.1,gown.2,hgl⟩
    ·cases h
  ·have:i=0:=by simp at hm;omega
   subst this
   show some l0=some l
   rw[←hs0];exact hl
theorem q5G{base:Nat}{v:Value}{l0:Loc}(hs0:σ 0=some l0)(h:RepV w F base σ v (.ptr 0 0 0)):v=.pointer (some ⟨l0.blk,0,none⟩):=by
 cases h with
 |ptr _ _ _ l hl=>
  rw[hs0] at hl
  obtain rfl:=Option.some.inj hl
  simp
variable {G:Nat→Option (List D)}
def WbOk(P:Program)(f:FuncId)(T e:TypeId):Prop:=∀ {w:World}{b:Nat}{p v:Value}{bs:List Value},BAt T e w b p v bs→∀(c:Int),bs.length+1≤140737488355328→
  Calls P f #[.pointer (some ⟨b,0,none⟩),.int .u8 c] w fun x w'=>x=.returned .nilIface∧∃ v',BAt T e w' b (.pointer (some ⟨b,0,none⟩)) v' (bs++[.int .u8 c])∧Kept w w' b v v'
def WsOk(P:Program)(f:FuncId)(T e:TypeId):Prop:=∀ {w:World}{b:Nat}{p v:Value}{bs:List Value},BAt T e w b p v bs→∀(s:ByteArray),bs.length+s.size≤140737488355328→
  Calls P f #[.pointer (some ⟨b,0,none⟩),.string s] w fun x w'=>x=.returned (.tuple #[.int .i64 s.size,.nilIface])∧∃ v',BAt T e w' b (.pointer (some ⟨b,0,none⟩)) v' (bs++Lib.strCells s)∧Kept w w' b v v'∧(v=.slice none 0 0→s.size=0→v'=.slice none 0 0)
theorem q8i{f T e:Nat}(hW:WbOk P f T e)(bytes:List UInt8)(c:UInt8)(hlen:bytes.length+1≤140737488355328) :
  q37 P G f [.ptr 0 0 0,.d false (.int .u8 c.toNat)] [bldB T 1 bytes.length,bufB e bytes] (.d false .nilif) [bldB T 1 (bytes++[c]).length,bufB e (bytes++[c])] [1]:=by
 intro w F σ vals hG hH hR
 obtain⟨l0,p,v,hs0,hk0,hB,hn0,hv⟩:=q5V hH
 obtain⟨hsz,hval⟩:=hR
 obtain⟨l⟩:=vals
 match l,hsz,hval with
 |[v0,v1],hsz,hval=>
  have e0:=q5G hs0 (hval 0 v0 (.ptr 0 0 0) rfl rfl)
  have e1:=(hval 1 v1 (.d false (.int .u8 c.toNat)) rfl rfl).int_inv
  subst e0;subst e1
  refine(hW hB c.toNat (by rw[q0A];exact hlen)).mono ?_
  rintro x w' ⟨rfl,v',hB',hK⟩
  have hB'':BAt T e w' l0.blk (.pointer (some ⟨l0.blk,0,none⟩)) v' (q1s (bytes++[c])):=by
   have:q1s (bytes++[c])=q1s bytes++[.int .u8 c.toNat]:=by simp [q1s]
   rw[this];exact hB'
  obtain⟨σ',h1,h2,h3⟩:=q4M hH hs0 hk0 hv hB'' hK (fun h=>by simp at h)
  exact⟨.nilIface,F,σ',rfl,h1,fun _ h=>h,fun _ h=>.inl h,.d _ _ _ .nilif,h2,h3⟩
 |[],hsz,_=>simp at hsz
 |[_],hsz,_=>simp at hsz
 |_ :: _ :: _ :: _,hsz,_=>simp at hsz
theorem q6Y{f T e:Nat}(hW:WsOk P f T e)(bytes s:List UInt8)(hlen:bytes.length+s.length≤140737488355328) :
  q37 P G f [.ptr 0 0 0,.d false (.str s)] [bldB T 1 bytes.length,bufB e bytes] (.tup [.d false (.int .i64 s.length),.d false .nilif]) [bldB T 1 (bytes++s).length,bufB e (bytes++s)] [1]:=by
 intro w F σ vals hG hH hR
 obtain⟨l0,p,v,hs0,hk0,hB,hn0,hv⟩:=q5V hH
 obtain⟨hsz,hval⟩:=hR
 obtain⟨l⟩:=vals
 match l,hsz,hval with
 |[v0,v1],hsz,hval=>
  have e0:=q5G hs0 (hval 0 v0 (.ptr 0 0 0) rfl rfl)
  obtain⟨t,e1,e2⟩:=(hval 1 v1 (.d false (.str s)) rfl rfl).str_inv
  subst e0;subst e1;subst e2
  have hst:t.size=t.data.toList.length:=rfl
  refine(hW hB t (by rw[q0A,hst];exact hlen)).mono ?_
  rintro x w' ⟨rfl,v',hB',hK,hnil⟩
  have hB'':BAt T e w' l0.blk (.pointer (some ⟨l0.blk,0,none⟩)) v' (q1s (bytes++t.data.toList)):=by
   have:q1s (bytes++t.data.toList)=q1s bytes++Lib.strCells t:=by simp [q1s,Lib.strCells]
   rw[this];exact hB'
  obtain⟨σ',h1,h2,h3⟩:=q4M hH hs0 hk0 hv hB'' hK (fun h=>by
   rw[List.append_eq_nil_iff] at h
   exact hnil (hn0 h.1) (by rw[hst,h.2];rfl))
  refine⟨_,F,σ',rfl,h1,fun _ h=>h,fun _ h=>.inl h,.tup _ _ rfl (fun j u x hu hx=>?_),h2,h3⟩
  match j,hu,hx with
  |0,hu,hx=>simp at hu hx;subst hu;subst hx;rw[hst];exact .d _ _ _ (.int _ _)
  |1,hu,hx=>simp at hu hx;subst hu;subst hx;exact .d _ _ _ .nilif
  |j+2,hu,hx=>simp at hu
 |[],hsz,_=>simp at hsz
 |[_],hsz,_=>simp at hsz
 |_ :: _ :: _ :: _,hsz,_=>simp at hsz
theorem z9P(L:Lays.n170 P ρ)(bytes:List UInt8) :
  q37 P G (ρ.f 170) [.ptr 0 0 0] [bldB (ρ.t 72) 1 bytes.length,bufB (ρ.t 5) bytes] (.d false (.int .i64 bytes.length)) [bldB (ρ.t 72) 1 bytes.length,bufB (ρ.t 5) bytes] []:=by
 intro w F σ vals hG hH hR
 obtain⟨l0,p,v,hs0,hk0,hB,hn0,hv⟩:=q5V hH
 obtain⟨hsz,hval⟩:=hR
 obtain⟨l⟩:=vals
 match l,hsz,hval with
 |[v0],hsz,hval=>
  have e0:=q5G hs0 (hval 0 v0 (.ptr 0 0 0) rfl rfl)
  subst e0
  refine(Any.Builder_Len_f L 0 l0.blk (q1s bytes) w hB.isB).mono ?_
  rintro e w' ⟨rfl,rfl⟩
  exact⟨_,F,σ,rfl,.refl _ _ _,fun _ h=>h,fun _ h=>.inl h,by rw[q0A];exact .d _ _ _ (.int _ _),hH,fun _ _ _ h _=>h⟩
 |[],hsz,_=>simp at hsz
 |_ :: _ :: _,hsz,_=>simp at hsz
theorem z2B(L:Lays.n169 P ρ)(X:Builder.Extra P ρ)(bytes:List UInt8) :
  q37 P G (ρ.f 169) [.ptr 0 0 0] [bldB (ρ.t 72) 1 bytes.length,bufB (ρ.t 5) bytes] (.d false (.str bytes)) [bldB (ρ.t 72) 1 bytes.length,bufB (ρ.t 5) bytes] [1]:=by
 intro w F σ vals hG hH hR
 obtain⟨l0,p,v,hs0,hk0,hB,hn0,hv⟩:=q5V hH
 obtain⟨hsz,hval⟩:=hR
 obtain⟨l⟩:=vals
 match l,hsz,hval with
 |[v0],hsz,hval=>
  have e0:=q5G hs0 (hval 0 v0 (.ptr 0 0 0) rfl rfl)
  subst e0
  by_cases h0:bytes=[]
  ·subst h0
   have:=hn0 rfl
   subst this
   refine(q7i L X hB).mono ?_
   rintro e w' ⟨rfl,rfl⟩
   have hB':BAt (ρ.t 72) (ρ.t 5) w.drew l0.blk p (.slice none 0 0) (q1s []):=⟨hB.hp,hB.hb,hB.own,hB.ne⟩
   have hK:Kept w w.drew l0.blk (.slice none 0 0) (.slice none 0 0):=⟨rfl,rfl,rfl,Nat.le_refl _,fun _ _ _ _=>rfl,.inl rfl⟩
   obtain⟨σ',h1,h2,h3⟩:=q4M hH hs0 hk0 hv hB' hK (fun _=>rfl)
   exact⟨_,F,σ',rfl,h1,fun _ h=>h,fun _ h=>.inl h,.d _ _ _ (.str ⟨#[]⟩),h2,h3⟩
  ·obtain⟨g,cap,rfl⟩:∃ g cap,v=.slice (some ⟨g,0,none⟩) bytes.length cap:=by
    rcases hB.own.2 with⟨_,hz⟩|⟨g,cap,cur,fz,hv,_⟩
    ·rw[q0A] at hz;exact absurd (List.eq_nil_of_length_eq_zero hz) h0
    ·rw[q0A] at hv;exact⟨g,cap,hv⟩
   refine(q67 L X h0 hB).mono ?_
   rintro e w' ⟨rfl,rfl⟩
   have hlen:(q1s bytes).length=bytes.length:=q0A _
   have hA:Lib.BuilderAtF (ρ.t 72) (ρ.t 5) 0 l0.blk p (q1s bytes) w.drew:=⟨Nat.zero_le _,_,hB.hb,hB.own,hB.ne⟩
   have c1:w.drew.cell? ⟨l0.blk,1,none⟩=some (.slice (some ⟨g,0,none⟩) (q1s bytes).length cap):=by
    have:w.drew.heap[l0.blk]? = some (.cells #[p,.slice (some ⟨g,0,none⟩) bytes.length cap] (ρ.t 72) (0,0)):=hB.hb
    rw[Lib.cell_of_heap this,hlen];rfl
   have hne:g≠l0.blk:=fun h=>hB.ne (by simp [Value.ownBlock,h])
   have hF':=hA.froze (g:=g) (cap:=cap) c1
   rw[hlen] at hF'
   have hbk:(w.drew.freeze ⟨g,0,none⟩ bytes.length).heap[l0.blk]? = some (.cells #[p,.slice (some ⟨g,0,none⟩) bytes.length cap] (ρ.t 72) (0,0)):=by
    rw[q4w _ _ _ _ (fun h=>hne h.symm)];exact hB.hb
   have hB':BAt (ρ.t 72) (ρ.t 5) (w.drew.freeze ⟨g,0,none⟩ bytes.length) l0.blk p (.slice (some ⟨g,0,none⟩) bytes.length cap) (q1s bytes):=by
    obtain⟨_,v2,hb2,hown2,hne2⟩:=hF'
    rw[hbk] at hb2
    have:v2=.slice (some ⟨g,0,none⟩) bytes.length cap:=by
     injection hb2 with e1
     injection e1 with e2
     have e2':=congrArg Array.toList e2
     simp at e2'
     exact e2'.symm
    subst this
    exact⟨hB.hp,hbk,hown2,hne2⟩
   have hsz':(w.drew.freeze ⟨g,0,none⟩ bytes.length).heap.size=w.heap.size:=by
    unfold World.freeze
    split
    ·rfl
    ·show(w.heap.modify _ _).size=_
     simp only[Array.size_modify]
   have hos:(w.drew.freeze ⟨g,0,none⟩ bytes.length).os=w.os∧(w.drew.freeze ⟨g,0,none⟩ bytes.length).tape=w.tape∧(w.drew.freeze ⟨g,0,none⟩ bytes.length).output=w.output:=by
    unfold World.freeze
    split <;> exact⟨rfl,rfl,rfl⟩
   have hK:Kept w (w.drew.freeze ⟨g,0,none⟩ bytes.length) l0.blk (.slice (some ⟨g,0,none⟩) bytes.length cap) (.slice (some ⟨g,0,none⟩) bytes.length cap):=
    ⟨hos.1,hos.2.1,hos.2.2,by rw[hsz'];exact Nat.le_refl _,fun k _ _ hk=>by rw[q4w _ _ _ _ (fun h=>hk (by simp [Value.ownBlock,h]))];rfl,.inl rfl⟩
   obtain⟨σ',h1,h2,h3⟩:=q4M hH hs0 hk0 hv hB' hK (fun h=>absurd h h0)
   exact⟨_,F,σ',rfl,h1,fun _ h=>h,fun _ h=>.inl h,.d _ _ _ (.str ⟨bytes.toArray⟩),h2,h3⟩
 |[],hsz,_=>simp at hsz
 |_ :: _ :: _,hsz,_=>simp at hsz
end
end Go.Vm
end

section
set_option linter.unusedVariables false
namespace Go.Vm
open Go.RowKit Go.Shelf Go.Proofs
set_option maxHeartbeats 2000000 in
set_option maxRecDepth 100000 in
theorem z8K(b:Nat)(w:World)(h0:w.cell? ⟨b,0,none⟩=some (.pointer (some ⟨b,0,none⟩))) :
  Calls Tryz.prog 87 #[.pointer (some ⟨b,0,none⟩)] w fun e w'=>e=.returned (.tuple #[])∧w'=w:=by
 obtain⟨j,hj,_⟩:=Option.map_eq_some_iff.1 Tryz.Builder_Extra_169.sizeBuilder
 have mixed:Tryz.prog.follows .mixedOrders=true:=by kernel_rfl
 have t72:=Tryz.underlying78;have a72:=Tryz.isAgg78;have z72:=Tryz.sizeOf78;have v72:=Tryz.zeroValue78;have u72:=Tryz.runUnderlying78
 have t70:=Tryz.underlying76;have a70:=Tryz.isAgg76;have z70:=Tryz.sizeOf76;have v70:=Tryz.zeroValue76;have u70:=Tryz.runUnderlying76
 have t9:=Tryz.underlying9;have a9:=Tryz.isAgg9;have z9:=Tryz.sizeOf9;have v9:=Tryz.zeroValue9;have u9:=Tryz.runUnderlying9
 have t4:=Tryz.underlying4;have a4:=Tryz.isAgg4;have z4:=Tryz.sizeOf4;have v4:=Tryz.zeroValue4;have u4:=Tryz.runUnderlying4
 have t164:=Tryz.underlying145;have a164:=Tryz.isAgg145;have z164:=Tryz.sizeOf145;have v164:=Tryz.zeroValue145;have u164:=Tryz.runUnderlying145
 go_enter Tryz.func87,Tryz.ntmps87
 go_wp2
 rw[Lib.run_neq_ptr_same w _ Tryz.underlying76 hj]
 go_wp2
 go_end0
 exact⟨rfl,rfl⟩
set_option maxHeartbeats 2000000 in
set_option maxRecDepth 100000 in
theorem z6w(b:Nat)(w:World)(h0:w.cell? ⟨b,0,none⟩=some (.pointer none))(hsh:w.shape? b=some (78,2))(hfz:w.frozen? ⟨b,0,none⟩=false) :
  Calls Tryz.prog 87 #[.pointer (some ⟨b,0,none⟩)] w fun e w'=>e=.returned (.tuple #[])∧w'=w.setCell ⟨b,0,none⟩ (.pointer (some ⟨b,0,none⟩)):=by
 obtain⟨j,hj,hjs⟩:=Option.map_eq_some_iff.1 Tryz.Builder_Extra_169.sizeBuilder
 have mixed:Tryz.prog.follows .mixedOrders=true:=by kernel_rfl
 have t72:=Tryz.underlying78;have a72:=Tryz.isAgg78;have z72:=Tryz.sizeOf78;have v72:=Tryz.zeroValue78;have u72:=Tryz.runUnderlying78
 have t70:=Tryz.underlying76;have a70:=Tryz.isAgg76;have z70:=Tryz.sizeOf76;have v70:=Tryz.zeroValue76;have u70:=Tryz.runUnderlying76
 have t9:=Tryz.underlying9;have a9:=Tryz.isAgg9;have z9:=Tryz.sizeOf9;have v9:=Tryz.zeroValue9;have u9:=Tryz.runUnderlying9
 have t4:=Tryz.underlying4;have a4:=Tryz.isAgg4;have z4:=Tryz.sizeOf4;have v4:=Tryz.zeroValue4;have u4:=Tryz.runUnderlying4
 have t164:=Tryz.underlying145;have a164:=Tryz.isAgg145;have z164:=Tryz.sizeOf145;have v164:=Tryz.zeroValue145;have u164:=Tryz.runUnderlying145
 go_enter Tryz.func87,Tryz.ntmps87
 go_wp2
 rw[Lib.run_to_unsafe w ⟨b,0,none⟩ Tryz.underlying76 Tryz.underlying145 hj (by rw[hjs];decide) hsh (Nat.zero_lt_succ 1)]
 simp only[Result.andThen]
 rw[Oper.upon_value]
 go_wp2
 rw[run_callFunc_extern Tryz.func105 (by kernel_rfl) (by kernel_rfl) (by kernel_rfl) (e:=Extern.AbiNoEscape.same) (by kernel_rfl)]
 rw[Lib.run_noEscape]
 simp only[Result.andThen]
 rw[Oper.upon_value]
 go_wp2
 rw[Lib.run_from_unsafe w ⟨b,0,none⟩ Tryz.underlying145 Tryz.underlying76 hj hsh Tryz.Builder_Extra_169.liesBuilder]
 simp only[Result.andThen]
 rw[Oper.upon_value]
 go_wp2
 go_end0
 exact⟨rfl,rfl⟩
theorem q5g{w:World}{b:Nat}{p v:Value}{bs:List Value}(h:BAt 78 5 w b p v bs) :
  Calls Tryz.prog 87 #[.pointer (some ⟨b,0,none⟩)] w fun e w'=>e=.returned (.tuple #[])∧BAt 78 5 w' b (.pointer (some ⟨b,0,none⟩)) v bs∧w'.os=w.os∧w'.tape=w.tape∧w'.output=w.output∧SizeEq w' w∧∀ k,k≠b→w'.heap[k]? = w.heap[k]?:=by
 rcases h.hp with rfl|rfl
 ·have hA:Lib.BuilderAtF 78 5 0 b (.pointer none) bs w:=⟨Nat.zero_le _,v,h.hb,h.own,h.ne⟩
  refine(z6w b w hA.cell0 hA.shape hA.frozen0).mono ?_
  rintro e w' ⟨rfl,rfl⟩
  refine⟨rfl,⟨.inr rfl,?_,?_,h.ne⟩,rfl,rfl,rfl,by simp [SizeEq],fun k hk=>Below.heap_setCell _ _ _ _ hk⟩
  ·have:=h.hb
   simp [World.setCell,Array.getElem?_modify,this]
  ·exact h.own.kept (row:=some b) ⟨rfl,rfl,rfl,by simp [World.setCell],fun k _ hk=>Below.heap_setCell _ _ _ _ (fun e=>hk (by simp [e]))⟩ (Or.inr h.ne)
 ·have hA:Lib.BuilderAtF 78 5 0 b (.pointer (some ⟨b,0,none⟩)) bs w:=⟨Nat.zero_le _,v,h.hb,h.own,h.ne⟩
  refine(z8K b w hA.cell0).mono ?_
  rintro e w' ⟨rfl,rfl⟩
  exact⟨rfl,h,rfl,rfl,rfl,rfl,fun _ _=>rfl⟩
set_option maxHeartbeats 2000000 in
set_option maxRecDepth 100000 in
theorem q8J{w:World}{b:Nat}{p v:Value}{bs:List Value}(h:BAt 78 5 w b p v bs)(c:Int)(hlen:bs.length+1≤140737488355328) :
  Calls Tryz.prog 110 #[.pointer (some ⟨b,0,none⟩),.int .u8 c] w fun e w'=>e=.returned .nilIface∧∃ v',BAt 78 5 w' b (.pointer (some ⟨b,0,none⟩)) v' (bs++[.int .u8 c])∧Kept w w' b v v':=by
 obtain⟨i0,hi,hz0,hz1,hz2⟩:=info_parts (show(Tryz.prog.info? 5).map (fun i=>(i.zero,i.size,i.bytes))=some (some (.int .u8 0),1,1) from Tryz.Builder_Extra_169.infoByte)
 have mixed:Tryz.prog.follows .mixedOrders=true:=by kernel_rfl
 have t72:=Tryz.underlying78;have a72:=Tryz.isAgg78;have z72:=Tryz.sizeOf78;have v72:=Tryz.zeroValue78;have u72:=Tryz.runUnderlying78
 have t70:=Tryz.underlying76;have a70:=Tryz.isAgg76;have z70:=Tryz.sizeOf76;have v70:=Tryz.zeroValue76;have u70:=Tryz.runUnderlying76
 have t5:=Tryz.underlying5;have a5:=Tryz.isAgg5;have z5:=Tryz.sizeOf5;have v5:=Tryz.zeroValue5;have u5:=Tryz.runUnderlying5
 have t37:=Tryz.underlying40;have a37:=Tryz.isAgg40;have z37:=Tryz.sizeOf40;have v37:=Tryz.zeroValue40;have u37:=Tryz.runUnderlying40
 have t9:=Tryz.underlying9;have a9:=Tryz.isAgg9;have z9:=Tryz.sizeOf9;have v9:=Tryz.zeroValue9;have u9:=Tryz.runUnderlying9
 have t4:=Tryz.underlying4;have a4:=Tryz.isAgg4;have z4:=Tryz.sizeOf4;have v4:=Tryz.zeroValue4;have u4:=Tryz.runUnderlying4
 have t164:=Tryz.underlying145;have a164:=Tryz.isAgg145;have z164:=Tryz.sizeOf145;have v164:=Tryz.zeroValue145;have u164:=Tryz.runUnderlying145
 have e240:∀ args w,(callFunc 87 args).run Tryz.prog w=.ok (.enter 87 args) w:=enters_of Tryz.func87 (by kernel_rfl) rfl
 go_enter Tryz.func110,Tryz.ntmps110
 go_wp2_with (go_at_fn 87;refine(q5g h).mono ?_)
 rintro e w1 ⟨rfl,h1,o1,o2,o3,hsz1,hold1⟩
 obtain⟨_,hbk,hown,hne⟩:=h1
 have c0:w1.cell? ⟨b,0,none⟩=some (.pointer (some ⟨b,0,none⟩)):=by rw[Lib.cell_of_heap hbk];rfl
 have c1:w1.cell? ⟨b,1,none⟩=some v:=by rw[Lib.cell_of_heap hbk];rfl
 go_wp2_with (at_builtin;refine q7c rfl _ _ 40 rfl 5 i0 Tryz.underlying40 hi hz0 hz1 hz2 _ _ _ rfl (hown.alloc _) ⟨w1.heap.size,0,none⟩ 1 1 [.int .u8 c] rfl rfl ?c1 ?c2 ?c3 ?c4 ?_)
 case c1=>
  intro j u hj
  match j,hj with
  |0,hj=>simp at hj;subst hj;simp [Addr.add]
 case c2=>intro u hu;simp at hu;subst hu;rfl
 case c3=>unfold maxLen;omega
 case c4=>omega
 intro v' w2 hown' hgrow _ hsame
 have hlt:b<w1.heap.size:=by
  rcases Nat.lt_or_ge b w1.heap.size with h'|h'
  ·exact h'
  ·simp [Array.getElem?_eq_none h'] at hbk
 have hb2:w2.heap[b]? = some (.cells #[.pointer (some ⟨b,0,none⟩),v] 78 (0,0)):=by
  rw[hgrow.block b (by simp;omega) (fun e=>hne e.symm),Lib.alloc_old w1 _ b hlt]
  exact hbk
 have d0:w2.cell? ⟨b,0,none⟩=some (.pointer (some ⟨b,0,none⟩)):=by rw[Lib.cell_of_heap hb2];rfl
 have d1:w2.cell? ⟨b,1,none⟩=some v:=by rw[Lib.cell_of_heap hb2];rfl
 have f1:w2.frozen? ⟨b,1,none⟩=false:=Lib.frozen_of_heap hb2 1
 obtain⟨g,cap,rfl⟩:∃ g cap,v'=.slice (some ⟨g,0,none⟩) (bs.length+1) cap:=by
  rcases hown'.2 with⟨_,h0⟩|⟨g,cap,cur,fz,hv,_⟩
  ·omega
  ·exact⟨g,cap,hv⟩
 go_wp2
 go_ret
 refine⟨rfl,_,z5B (by decide:(78:TypeId)≠5) (w:=w) (w1:=w1.alloc (.cells #[.int .u8 c] 5)) (.inr (by simp [hsz1.eq])) ⟨o1,o2,o3⟩ (fun k hk hkb=>by rw[Lib.alloc_old w1 _ k (by rw[hsz1.eq];exact hk)];exact hold1 k hkb) hb2 hgrow (by simpa using hown') hsame (fun g hg=>(h.own.lt g hg).2)⟩
set_option maxHeartbeats 2000000 in
set_option maxRecDepth 100000 in
theorem q7f{w:World}{b:Nat}{p v:Value}{bs:List Value}(h:BAt 78 5 w b p v bs)(s:ByteArray)(hlen:bs.length+s.size≤140737488355328) :
  Calls Tryz.prog 47 #[.pointer (some ⟨b,0,none⟩),.string s] w fun e w'=>e=.returned (.tuple #[.int .i64 s.size,.nilIface])∧∃ v',BAt 78 5 w' b (.pointer (some ⟨b,0,none⟩)) v' (bs++Lib.strCells s)∧Kept w w' b v v'∧(v=.slice none 0 0→s.size=0→v'=.slice none 0 0):=by
 obtain⟨i0,hi,hz0,hz1,hz2⟩:=info_parts (show(Tryz.prog.info? 5).map (fun i=>(i.zero,i.size,i.bytes))=some (some (.int .u8 0),1,1) from Tryz.Builder_Extra_169.infoByte)
 have mixed:Tryz.prog.follows .mixedOrders=true:=by kernel_rfl
 have t72:=Tryz.underlying78;have a72:=Tryz.isAgg78;have z72:=Tryz.sizeOf78;have v72:=Tryz.zeroValue78;have u72:=Tryz.runUnderlying78
 have t70:=Tryz.underlying76;have a70:=Tryz.isAgg76;have z70:=Tryz.sizeOf76;have v70:=Tryz.zeroValue76;have u70:=Tryz.runUnderlying76
 have t37:=Tryz.underlying40;have a37:=Tryz.isAgg40;have z37:=Tryz.sizeOf40;have v37:=Tryz.zeroValue40;have u37:=Tryz.runUnderlying40
 have t3:=Tryz.underlying3;have a3:=Tryz.isAgg3;have z3:=Tryz.sizeOf3;have v3:=Tryz.zeroValue3;have u3:=Tryz.runUnderlying3
 have t9:=Tryz.underlying9;have a9:=Tryz.isAgg9;have z9:=Tryz.sizeOf9;have v9:=Tryz.zeroValue9;have u9:=Tryz.runUnderlying9
 have t4:=Tryz.underlying4;have a4:=Tryz.isAgg4;have z4:=Tryz.sizeOf4;have v4:=Tryz.zeroValue4;have u4:=Tryz.runUnderlying4
 have t164:=Tryz.underlying145;have a164:=Tryz.isAgg145;have z164:=Tryz.sizeOf145;have v164:=Tryz.zeroValue145;have u164:=Tryz.runUnderlying145
 have t5:=Tryz.underlying5;have a5:=Tryz.isAgg5;have z5:=Tryz.sizeOf5;have v5:=Tryz.zeroValue5;have u5:=Tryz.runUnderlying5
 have e240:∀ args w,(callFunc 87 args).run Tryz.prog w=.ok (.enter 87 args) w:=enters_of Tryz.func87 (by kernel_rfl) rfl
 go_enter Tryz.func47,Tryz.ntmps47
 go_wp2_with (go_at_fn 87;refine(q5g h).mono ?_)
 rintro e w1 ⟨rfl,h1,o1,o2,o3,hsz1,hold1⟩
 obtain⟨_,hbk,hown,hne⟩:=h1
 have c0:w1.cell? ⟨b,0,none⟩=some (.pointer (some ⟨b,0,none⟩)):=by rw[Lib.cell_of_heap hbk];rfl
 have c1:w1.cell? ⟨b,1,none⟩=some v:=by rw[Lib.cell_of_heap hbk];rfl
 go_wp2_with (at_builtin;refine q38 rfl _ _ 40 9 rfl 5 i0 Tryz.underlying40 Tryz.underlying9 hi hz0 hz1 hz2 _ _ _ rfl hown s rfl ?c3 ?c4 ?_)
 case c3=>unfold maxLen;omega
 case c4=>omega
 intro v' w2 hown' hgrow hnil hsame
 have hlt:b<w1.heap.size:=by
  rcases Nat.lt_or_ge b w1.heap.size with h'|h'
  ·exact h'
  ·simp [Array.getElem?_eq_none h'] at hbk
 have hb2:w2.heap[b]? = some (.cells #[.pointer (some ⟨b,0,none⟩),v] 78 (0,0)):=by
  rw[hgrow.block b hlt (fun e=>hne e.symm)]
  exact hbk
 have d0:w2.cell? ⟨b,0,none⟩=some (.pointer (some ⟨b,0,none⟩)):=by rw[Lib.cell_of_heap hb2];rfl
 have d1:w2.cell? ⟨b,1,none⟩=some v:=by rw[Lib.cell_of_heap hb2];rfl
 have f1:w2.frozen? ⟨b,1,none⟩=false:=Lib.frozen_of_heap hb2 1
 obtain⟨ao,n',cap,rfl⟩:∃ ao n' cap,v'=.slice ao n' cap:=by
  rcases hown'.2 with⟨hv,_⟩|⟨g,cap,cur,fz,hv,_⟩
  ·exact⟨_,_,_,hv⟩
  ·exact⟨_,_,_,hv⟩
 go_wp2
 go_ret2
 have hp:=z5B (bs':=bs++Lib.strCells s) (by decide:(78:TypeId)≠5) (w:=w) (.inl hsz1.eq) ⟨o1,o2,o3⟩ (fun k hk hkb=>hold1 k hkb) hb2 hgrow (by simpa [Lib.strCells_length] using hown') hsame (fun g hg=>(h.own.lt g hg).2)
 exact⟨rfl,_,hp.1,hp.2,fun h1 h2=>hnil.2 ⟨h1,by
  obtain⟨⟨l⟩⟩:=s
  cases l with
  |nil=>rfl
  |cons a r=>simp [ByteArray.size] at h2⟩⟩
theorem tB_wb:WbOk Tryz.prog 110 78 5:=fun h c hl=>q8J h c hl
theorem tB_ws:WsOk Tryz.prog 47 78 5:=fun h s hl=>q7f h s hl
end Go.Vm
end

section
namespace Go.Vm
open Go.RowKit Go.Shelf Go.Proofs Go.Sort
def GT:Nat→Option (List D)
 |0=>some (Lib.pow10Tab.map fun z=>.int .u64 z)
 |_=>none
theorem gP10:Tryz.prog.globalNamed "internal/strconv.uint64pow10" = some 0:=by kernel_rfl
theorem z6E{w:World}{F:Nat→Prop}{v:Value}{k:IntKind}{n:Int}(h:RepD w F v (.int k n)):v=.int k n:=by
 cases h with|int k n=>rfl
theorem q9Y{w:World}{F:Nat→Prop}(h:GlobRel w F GT):Lib.TabIs Tryz.prog w "internal/strconv.uint64pow10" .u64 Lib.pow10Tab:=by
 have hx:=h 0 _ rfl
 rw[if_neg (show ¬ q5M (Lib.pow10Tab.map fun z=>D.int .u64 z)=true from fun e=>Bool.noConfusion (show false=true from e))] at hx
 obtain⟨h1,cs,t,fz,h2,h3⟩:=hx
 unfold Lib.TabIs World.var?
 rw[gP10]
 show(match w.heap[0]? with|some (.cells cs _ _)=>some cs|_=>none)=_
 rw[h2]
 show some cs=_
 congr 1
 apply Array.ext
 ·rw[h3];simp
 ·intro j hj1 hj2
  cases h1 with
  |ptr b o cells g hf hc hr=>
   have hj:j<Lib.pow10Tab.length:=by simpa using hj2
   have e:(Lib.pow10Tab.map fun z=>D.int .u64 z)[j]? = some (.int .u64 Lib.pow10Tab[j]):=by simp [hj]
   have hv:=hr j _ e
   have hg:=z6E hv
   have hcell:=hc j _ e
   rw[hg,Nat.zero_add] at hcell
   have:w.cell? ⟨0,j,none⟩=some cs[j]:=by
    rw[Lib.cell_of_heap h2]
    simp [hj1]
   rw[this] at hcell
   simpa using Option.some.inj hcell
theorem q2Y{w:World}{F:Nat→Prop}{base:Nat}(hF:∀ b,F b→b<w.heap.size):HeapRel w F (fun _ _=>False) base (fun _=>none) 0 (indexed []):=
 ⟨fun b blk h=>absurd (show look [] b=some blk from h) (by simp [look]),fun b b' l l' h=>(by cases h),fun b l h=>(by cases h),hF⟩
theorem q0C:Tryz.prog.follows .mixedOrders=true:=by kernel_rfl
theorem z17(s:List UInt8)(c:UInt8)(a b:Bool):q1f Tryz.prog GT 123 [.d a (.str s),.d b (.int .u8 c.toNat)] (.d false (.int .i64 (Lib.indexByte s c))) []:=by
 intro w F vals hF hG hR
 obtain⟨hsz,hval⟩:=hR
 obtain⟨l⟩:=vals
 match l,hsz,hval with
 |[v0,v1],hsz,hval=>
  obtain⟨t,e0,e0'⟩:=(hval 0 v0 (.d a (.str s)) rfl rfl).str_inv
  have e1:=(hval 1 v1 (.d b (.int .u8 c.toNat)) rfl rfl).int_inv
  subst e0;subst e1
  refine(Tryz.strings_IndexByte t c.toNat w).mono ?_
  rintro e w' ⟨rfl,rfl⟩
  refine⟨_,F,fun _=>none,rfl,.refl _ _,fun b h=>.inl h,?_,q2Y hF⟩
  have:(c.toNat:Int).toNat.toUInt8=c:=by simp
  rw[←e0',this]
  exact .d _ _ _ (.int _ _)
 |[],hsz,_=>simp at hsz
 |[_],hsz,_=>simp at hsz
 |_ :: _ :: _ :: _,hsz,_=>simp at hsz
theorem z18(s:List UInt8)(c:UInt8)(a b:Bool):q1f Tryz.prog GT 115 [.d a (.str s),.d b (.str [c])] (.d false (.int .i64 (s.count c))) []:=by
 intro w F vals hF hG hR
 obtain⟨hsz,hval⟩:=hR
 obtain⟨l⟩:=vals
 match l,hsz,hval with
 |[v0,v1],hsz,hval=>
  obtain⟨t,e0,e0'⟩:=(hval 0 v0 (.d a (.str s)) rfl rfl).str_inv
  obtain⟨u,e1,e1'⟩:=(hval 1 v1 (.d b (.str [c])) rfl rfl).str_inv
  subst e0;subst e1
  have hu:u=⟨#[c]⟩:=by
   obtain⟨u⟩:=u
   obtain⟨u⟩:=u
   simp only at e1'
   rw[←e1']
  subst hu
  refine(Tryz.strings_Count_one t c w).mono ?_
  rintro e w' ⟨rfl,rfl⟩
  refine⟨_,F,fun _=>none,rfl,.refl _ _,fun b h=>.inl h,?_,q2Y hF⟩
  rw[e0']
  exact .d _ _ _ (.int _ _)
 |[],hsz,_=>simp at hsz
 |[_],hsz,_=>simp at hsz
 |_ :: _ :: _ :: _,hsz,_=>simp at hsz
theorem z3Y(n:Int)(a:Bool)(h0 : -9223372036854775808≤n)(h1:n≤9223372036854775807):q1f Tryz.prog GT 49 [.d a (.int .i64 n)] (.d false (.str (Lib.itoa n))) []:=by
 intro w F vals hF hG hR
 obtain⟨hsz,hval⟩:=hR
 obtain⟨l⟩:=vals
 match l,hsz,hval with
 |[v0],hsz,hval=>
  have e0:=(hval 0 v0 (.d a (.int .i64 n)) rfl rfl).int_inv
  subst e0
  refine(Tryz.strconv_Itoa n h0 h1 w (q9Y hG)).mono ?_
  rintro e w' ⟨rfl,k,os,rfl⟩
  have hsz:(grow (w.drewN k) os).heap.size=w.heap.size+os.size:=by
   show((w.drewN k).heap++os).size=_
   simp
  refine⟨_,F,fun _=>none,rfl,⟨rfl,rfl,rfl,by rw[hsz];omega,fun j hj=>?_⟩,fun b h=>.inl h,?_,q2Y (fun b h=>by rw[hsz];have:=hF b h;omega)⟩
  ·show((w.drewN k).heap++os)[j]? = _
   rw[Array.getElem?_append_left (by simpa using hj)]
   simp
  ·exact .d _ _ _ (.str ⟨(Lib.itoa n).toArray⟩)
 |[],hsz,_=>simp at hsz
 |_ :: _ :: _,hsz,_=>simp at hsz
theorem z3Z(s:List UInt8)(a:Bool)(n:Int)(hl:s.length≤18)(h:Lib.atoi s=some n):q1f Tryz.prog GT 111 [.d a (.str s)] (.tup [.d false (.int .i64 n),.d false .nilif]) []:=by
 intro w F vals hF hG hR
 obtain⟨hsz,hval⟩:=hR
 obtain⟨l⟩:=vals
 match l,hsz,hval with
 |[v0],hsz,hval=>
  obtain⟨t,e0,e0'⟩:=(hval 0 v0 (.d a (.str s)) rfl rfl).str_inv
  subst e0
  have hsz':t.size≤18:=by
   have:t.size=t.data.toList.length:=by simp
   rw[this,←e0'];exact hl
  refine(Tryz.strconv_Atoi t n hsz' (by rw[←e0'];exact h) w).mono ?_
  rintro e w' ⟨rfl,b,rfl⟩
  have hs:=Lib.bytesWorld_size w 5 b
  refine⟨_,F,fun _=>none,rfl,Go.Joins.below_bytesWorld _ w 5 b (Nat.le_refl _),fun b h=>.inl h,?_,q2Y (fun x hx=>by rw[hs];have:=hF x hx;omega)⟩
  refine .tup _ _ rfl fun j v x hv hx=>?_
  match j with
  |0=>simp at hv hx;subst hv;subst hx;exact .d _ _ _ (.int _ _)
  |1=>simp at hv hx;subst hv;subst hx;exact .d _ _ _ .nilif
  |j+2=>simp at hv
 |[],hsz,_=>simp at hsz
 |_ :: _ :: _,hsz,_=>simp at hsz
end Go.Vm
end

section
namespace Go.Vm
open Go.RowKit
variable {P:Program}
def z4V:List Row→FuncId→Nat→Option Row
 |[],_,_=>none
 |r :: l,f,m=>if r.f=f∧r.m=m then some r else z4V l f m
theorem q6N{T:List Row}{f:FuncId}{m:Nat}{r:Row}(h:z4V T f m=some r):r∈T∧r.f=f:=by
 induction T with
 |nil=>cases h
 |cons q T ih=>
  simp only[z4V] at h
  split at h
  ·rename_i he
   obtain rfl:=Option.some.inj h
   exact⟨by simp,he.1⟩
  ·exact⟨List.mem_cons_of_mem _ (ih h).1,(ih h).2⟩
def cxM(K0:Cx)(N:Nat)(T:List Row):Nat→Cx
 |0=>K0
 |n+1=>⟨fun f vs=>match z4V T f 0 with
   |some r=>if r.m=0∧r.n=vs.length then match q6c N (cxM K0 N T n) r.g vs [] with
    |some (v,blks,_)=>some (v,blks)
    |none=>none
    else none
   |none=>K0.call f vs,
  fun f vs bs=>match z4V T f bs.length with
   |some r=>if r.m=bs.length∧r.n=vs.length then q6c N (cxM K0 N T n) r.g vs bs else none
   |none=>K0.eff f vs bs,K0.glob,K0.loc,[]⟩
theorem z0z{K0:Cx}(h:K0.dfr=[])(N:Nat)(T:List Row)(n:Nat):(cxM K0 N T n).dfr=[]:=by cases n;exact h;rfl
theorem q5Q(K0:Cx)(N:Nat)(T:List Row)(n:Nat):(cxM K0 N T n).glob=K0.glob:=by cases n <;> rfl
theorem z5x(hm:P.follows .mixedOrders=true){K0:Cx}(h0:K0.Sound P){N:Nat}{T:List Row}(hT:∀ r∈T,q0J P r.f r.m r.n r.g=true)(hl:∀ r∈T,K0.loc r.f=true→K0.glob=fun _=>none)(hd0:K0.dfr=[]:=by rfl):∀ n,(cxM K0 N T n).Sound P:=by
 intro n
 induction n with
 |zero=>exact h0
 |succ n ih=>
  have call:∀ f args r news,(cxM K0 N T (n+1)).call f args=some (r,news)→q0p P f=true∧q1f P K0.glob f args r news:=by
   intro f args r news h
   simp only[cxM] at h
   split at h
   ·rename_i q hq
    obtain⟨h1,rfl⟩:=q6N hq
    split at h
    ·rename_i hc
     split at h
     ·rename_i v blks mv hr
      simp only[Option.some.injEq,Prod.mk.injEq] at h
      obtain⟨rfl,rfl⟩:=h
      have ok:=hT q h1
      rw[hc.1,hc.2] at ok
      have:=q3B hm ih ok (q4V hr) (z0z hd0 ..)
      rw[q5Q] at this
      exact this
     ·cases h
    ·cases h
   ·exact h0.pure f args r news h
  refine⟨fun f args r news h=>?_,fun f args r news hl' h=>?_,fun f args blks r blks' mv h=>?_⟩
  ·have:=call f args r news h
   rw[←q5Q K0 N T (n+1)] at this
   exact this
  ·have hl2:K0.loc f=true:=hl'
   have h2:=h
   simp only[cxM] at h2
   split at h2
   ·rename_i q hq
    obtain⟨h1,rfl⟩:=q6N hq
    have e:=hl q h1 hl2
    have:=(call q.f args r news h).2
    rw[e] at this
    exact this
   ·exact h0.loc f args r news hl2 h2
  ·have h2:=h
   simp only[cxM] at h2
   split at h2
   ·rename_i q hq
    obtain⟨h1,rfl⟩:=q6N hq
    split at h2
    ·rename_i hc
     have ok:=hT q h1
     rw[hc.1,hc.2] at ok
     have:=q9y hm ih ok (q4V h2) (z0z hd0 ..)
     rw[q5Q] at this
     exact this
    ·cases h2
   ·exact h0.eff f args blks r blks' mv h2
def z95(N:Nat)(K:Cx)(g:DfrF)(s1:S):Option (V×List Blk):=match execC N K g.cb s1 with
 |some (.ret,s2)=>match mapO (ev K s2) g.res with
  |some vs=>match finish 0 false s2 (q0b vs) with
   |some (r,news,_)=>some (r,news)
   |none=>none
  |none=>none
 |_=>none
theorem z5u{N:Nat}{K:Cx}{g:DfrF}{args:List V}{s0 s1:S}{r:V}{news:List Blk}(h0:execC N K g.c0 (startS args [])=some (.nrm,s0))(h1:execC N K g.ca s0=some (.nrm,s1))(hk:look s1.rho g.k=none)
  (h2:∀ ds,z95 N (K.later ds) g s1=some (r,news)):DfrRun K g args r news:=by
 refine .late s0 s1 ((q5N N K g.c0).1 _ _ h0) ((q5N N K g.ca).1 _ _ h1) hk fun ds=>?_
 have h:=h2 ds
 unfold z95 at h
 split at h
 case h_2=>cases h
 rename_i s2 he
 split at h
 case h_2=>cases h
 rename_i vs hv
 split at h
 case h_2=>cases h
 rename_i r' news' mv hf
 simp only[Option.some.injEq,Prod.mk.injEq] at h
 obtain⟨rfl,rfl⟩:=h
 exact⟨s2,vs,mv,(q5N N _ g.cb).1 _ _ he,hv,hf⟩
end Go.Vm
end

section
namespace Go.Vm
set_option maxRecDepth 100000
open Go.RowKit Go.Shelf Go.Proofs
/- 'sloth/slothlaw17.awake' -/
def f11:Fun:=⟨ (.seq (.reg [⟨[],[],[(.bool false)],none,[],1,[],[],[]⟩]) (.seq (.reg [⟨[],[(1,(.str [115,104,97,112,101,32,34,70,97,108,115,101,34,32,48,10,115,104,97,112,101,32,34,84,114,117,101,34,32,48,10,115,104,97,112,101,32,34,85,110,105,116,34,32,48,10,115,104,97,112,101,32,34,78,105,108,34,32,48,10,115,104,97,112,101,32,34,67,111,110,115,34,32,50,10,115,104,97,112,101,32,34,80,97,105,114,34,32,50,10,115,104,97,112,101,32,34,84,114,105,112,108,101,34,32,51,10,103,108,111,98,97,108,32,34,105,100,34,32,49,10,32,32,112,117,115,104,32,48,10,32,32,117,112,100,97,116,101,32,50,10,32,32,112,111,112,32,49,10,32,32,117,110,119,105,110,100,10]))],[],none,[],1,[],[],[]⟩]) (.seq (.reg [⟨[],[(2,(.call 13 (.cons (.call 33 .nil) .nil)))],[],none,[1],3,[],[],[]⟩]) (.seq (.reg [⟨[],[(3,(.ext 0 (.call 19 (.cons (.call 33 .nil) .nil)))),(4,(.ext 1 (.call 19 (.cons (.call 33 .nil) .nil))))],[],none,[1,2],7,[],[],[]⟩]) (.seq (.reg [⟨[(5,.box (.agg (.cons (.nilsl 2) (.cons (.nilsl 3) .nil))))],[(24,(.ext 1 (.call 21 (.cons (.sl 1) .nil))))],[],some (none,.store 2 (.sl 5) (.ext 0 (.call 21 (.cons (.sl 1) .nil)))),[1,2,3,4,5],7,[],[],[]⟩,⟨[],[(6,(.sl 24))],[],none,[1,2,3,4,5],1,[],[],[]⟩]) (.seq (.reg [⟨[],[(7,(.ext 0 (.call 24 (.cons (.call 33 .nil) .nil)))),(8,(.ext 1 (.call 24 (.cons (.call 33 .nil) .nil))))],[],none,[1,2,3,4,5,6],7,[],[],[]⟩]) (.seq (.reg [⟨[(9,.box (.agg (.cons (.nilsl 2) (.cons (.nilsl 3) .nil))))],[(34,(.ext 1 (.call 27 (.cons (.sl 7) .nil))))],[],some (none,.store 2 (.sl 9) (.ext 0 (.call 27 (.cons (.sl 7) .nil)))),[1,2,3,4,5,6,7,8,9],7,[],[],[]⟩,⟨[],[(10,(.sl 34))],[],none,[1,2,3,4,5,6,7,8,9],1,[],[],[]⟩]) (.seq (.reg [⟨[],[(11,(.call 15 (.cons (.ld 2 true (.sl 5)) (.cons (.call 33 .nil) .nil))))],[],none,[1,2,3,4,6,7,8,9,10],4,[[],[],[1,0],[0,1,2]],[],[]⟩]) (.seq (.reg [⟨[],[(12,(.call 15 (.cons (.ld 2 true (.sl 9)) (.cons (.call 33 .nil) .nil))))],[],none,[1,2,3,4,6,7,8,10,11],4,[[],[],[1,0],[0,1,2]],[],[]⟩]) (.seq (.reg [⟨[],[(0,(.and (.and (.and (.and (.and (.and (.and (.and (.bin .eql (.sl 2) (.int .i64 0)) (.bin .eql (.sl 4) (.int .i64 0))) (.bin .eql (.sl 3) (.sl 1))) (.bin .eql (.sl 6) (.int .i64 0))) (.bin .eql (.sl 8) (.int .i64 0))) (.bin .gtr (.len false (.sl 7)) (.int .i64 20))) (.bin .eql (.sl 10) (.int .i64 0))) (.sl 11)) (.sl 12)))],[],none,[],35,[],[],[]⟩]) (.seq (.tidy 0 [0]) .ret))))))))))), [(.sl 0)],false⟩
theorem j1I:q0J Go.Proofs.Tryz.prog 11 0 0 f11=true:=by kernel_rfl
/- 'sloth/slothref17.Same' -/
def f15_L0:C:= (.seq (.seq (.reg [⟨[],[(30,(.bin .lss (.sl 5) (.len false (.ld 1 false (.fa 0 (.sl 2))))))],[],none,[2,3,5],5,[],[],[]⟩]) (.cond (.sl 30) .skip (.seq (.tidy 0 [2,3]) (.exit 0)))) (.seq (.block 1 (.seq (.reg [⟨[],[(43,(.eqs true true [2,0] (.ld 2 true (.ia 2 (.ld 1 false (.fa 0 (.sl 2))) (.sl 5))) (.ld 2 true (.ia 2 (.ld 1 false (.fa 0 (.sl 3))) (.sl 5)))))],[],none,[2,3,5],11,[[],[0],[],[2,0,1],[1,0,2,3],[],[5],[],[7,5,6],[6,5,7,8],[8,7,5,6,9,3,2,0,1,4]],[],[]⟩]) (.cond (.sl 43) (.seq (.reg [⟨[],[(4,(.bool false))],[],none,[],1,[],[],[]⟩]) (.seq (.tidy 0 [4]) .ret)) .skip))) (.reg [⟨[],[(5,(.bin .add (.sl 5) (.int .i64 1)))],[],none,[2,3],3,[],[],[]⟩])))
def f15_L1:C:= (.seq (.seq (.reg [⟨[],[(86,(.bin .lss (.sl 9) (.len false (.ld 1 false (.fa 2 (.sl 7))))))],[],none,[2,3,6,7,8,9],5,[],[],[]⟩]) (.cond (.sl 86) .skip (.seq (.tidy 0 [2,3,6]) (.exit 4)))) (.seq (.block 5 (.seq (.reg [⟨[],[(99,(.eqs true true [0,0,0] (.ld 3 true (.ia 3 (.ld 1 false (.fa 2 (.sl 7))) (.sl 9))) (.ld 3 true (.ia 3 (.ld 1 false (.fa 2 (.sl 8))) (.sl 9)))))],[],none,[2,3,6,7,8,9],11,[[],[0],[],[2,0,1],[1,0,2,3],[],[5],[],[7,5,6],[6,5,7,8],[8,7,5,6,9,3,2,0,1,4]],[],[]⟩]) (.cond (.sl 99) (.seq (.reg [⟨[],[(4,(.bool false))],[],none,[],1,[],[],[]⟩]) (.seq (.tidy 0 [4]) .ret)) .skip))) (.reg [⟨[],[(9,(.bin .add (.sl 9) (.int .i64 1)))],[],none,[2,3,6,7,8],3,[],[],[]⟩])))
def f15_L2:C:= (.seq (.seq (.reg [⟨[],[(48,(.bin .lss (.sl 6) (.len false (.ld 1 false (.fa 1 (.sl 2))))))],[],none,[2,3,6],5,[],[],[]⟩]) (.cond (.sl 48) .skip (.seq (.tidy 0 []) (.exit 2)))) (.seq (.block 3 (.seq (.reg [⟨[(7,.box (.agg (.cons (.str []) (.cons (.int .i64 0) (.cons (.nilsl 3) .nil)))))],[],[],some (none,.store 3 (.sl 7) (.ld 3 true (.ia 3 (.ld 1 false (.fa 1 (.sl 2))) (.sl 6)))),[2,3,6,7],7,[],[],[]⟩]) (.seq (.reg [⟨[(8,.box (.agg (.cons (.str []) (.cons (.int .i64 0) (.cons (.nilsl 3) .nil)))))],[],[],some (none,.store 3 (.sl 8) (.ld 3 true (.ia 3 (.ld 1 false (.fa 1 (.sl 3))) (.sl 6)))),[2,3,6,7,8],7,[],[],[]⟩]) (.seq (.seq (.reg [⟨[],[(81,(.or (.or (.bin .neq (.ld 1 false (.fa 0 (.sl 7))) (.ld 1 false (.fa 0 (.sl 8)))) (.bin .neq (.ld 1 false (.fa 1 (.sl 7))) (.ld 1 false (.fa 1 (.sl 8))))) (.bin .neq (.len false (.ld 1 false (.fa 2 (.sl 7)))) (.len false (.ld 1 false (.fa 2 (.sl 8)))))))],[],none,[2,3,6,7,8],21,[],[],[]⟩]) (.cond (.sl 81) (.seq (.reg [⟨[],[(4,(.bool false))],[],none,[],1,[],[],[]⟩]) (.seq (.tidy 0 [4]) .ret)) .skip)) (.seq (.reg [⟨[],[(9,(.int .i64 0))],[],none,[2,3,6,7,8],1,[],[],[]⟩]) (.block 4 (.seq (.tidy 0 [2,3,6,7,8,9]) (.loop (.seq (.tidy 0 [2,3,6,7,8,9]) f15_L1))))))))) (.reg [⟨[],[(6,(.bin .add (.sl 6) (.int .i64 1)))],[],none,[2,3],3,[],[],[]⟩])))
def f15:Fun:=⟨ (.seq (.reg [⟨[(2,.box (.sl 0)),(3,.box (.sl 1))],[],[(.bool false)],none,[2,3],3,[],[],[]⟩]) (.seq (.seq (.reg [⟨[],[(25,(.or (.bin .neq (.len false (.ld 1 false (.fa 0 (.sl 2)))) (.len false (.ld 1 false (.fa 0 (.sl 3))))) (.bin .neq (.len false (.ld 1 false (.fa 1 (.sl 2)))) (.len false (.ld 1 false (.fa 1 (.sl 3)))))))],[],none,[2,3],16,[],[],[]⟩]) (.cond (.sl 25) (.seq (.reg [⟨[],[(4,(.bool false))],[],none,[],1,[],[],[]⟩]) (.seq (.tidy 0 [4]) .ret)) .skip)) (.seq (.seq (.reg [⟨[],[(5,(.int .i64 0))],[],none,[2,3],1,[],[],[]⟩]) (.block 0 (.seq (.tidy 0 [2,3,5]) (.loop (.seq (.tidy 0 [2,3,5]) f15_L0))))) (.seq (.seq (.reg [⟨[],[(6,(.int .i64 0))],[],none,[2,3],1,[],[],[]⟩]) (.block 2 (.seq (.tidy 0 [2,3,6]) (.loop (.seq (.tidy 0 [2,3,6]) f15_L2))))) (.seq (.reg [⟨[],[(4,(.bool true))],[],none,[],1,[],[],[]⟩]) (.seq (.tidy 0 [4]) .ret)))))), [(.sl 4)],false⟩
theorem j1E:q0J Go.Proofs.Tryz.prog 15 0 2 f15=true:=by kernel_rfl
/- 'sloth/code.Print' -/
def j1D:C:= (.seq (.reg [⟨[],[(21,(.bin .lss (.sl 20) (.sl 19)))],[],none,[1,5,18,19,20],1,[],[],[]⟩]) (.seq (.cond (.sl 21) .skip (.seq (.tidy 0 [1,5]) (.exit 0))) (.seq (.block 1 (.seq (.reg [⟨[(7,.box (.agg (.cons (.str []) (.cons (.int .i64 0) .nil))))],[],[],some (none,.store 2 (.sl 7) (.ld 2 true (.ia 2 (.sl 18) (.sl 20)))),[1,5,7,18,19,20],4,[],[],[]⟩]) (.reg [⟨[],[],[],some (some 34,.calle 47 (.cons (.sl 5) (.cons (.bin .add (.bin .add (.bin .add (.bin .add (.str [115,104,97,112,101,32]) (.call 48 (.cons (.ld 1 false (.fa 0 (.sl 7))) .nil))) (.str [32])) (.call 49 (.cons (.ld 1 false (.fa 1 (.sl 7))) .nil))) (.str [10])) .nil))),[1,5,18,19,20],11,[[],[0],[0,1],[1,0,2],[2,0,1,3],[],[5],[1,0,2,5,6],[6,5,7,3,1,0,2,4],[4,2,0,1,3,7,5,6,8],[8,6,5,7,3,1,0,2,4,9]],[],[]⟩]))) (.reg [⟨[],[(20,(.bin .add (.sl 20) (.int .i64 1)))],[],none,[1,5,18,19],2,[],[],[]⟩]))))
def j1C:C:= (.seq (.reg [⟨[],[(58,(.bin .lss (.sl 57) (.sl 56)))],[],none,[1,5,37,38,39,55,56,57],1,[],[],[]⟩]) (.seq (.cond (.sl 58) .skip (.seq (.tidy 0 [1,5,37,38,39]) (.exit 4))) (.seq (.block 5 (.seq (.reg [⟨[(11,.box (.agg (.cons (.int .i64 0) (.cons (.int .i64 0) (.cons (.int .i64 0) .nil)))))],[],[],some (none,.store 3 (.sl 11) (.ld 3 true (.ia 3 (.sl 55) (.sl 57)))),[1,5,11,37,38,39,55,56,57],4,[],[],[]⟩]) (.reg [⟨[],[],[],some (some 64,.calle 47 (.cons (.sl 5) (.cons (.call 50 (.cons (.ld 2 true (.sl 1)) (.cons (.ld 3 true (.sl 11)) .nil))) .nil))),[1,5,37,38,39,55,56,57],4,[],[],[]⟩]))) (.reg [⟨[],[(57,(.bin .add (.sl 57) (.int .i64 1)))],[],none,[1,5,37,38,39,55,56],2,[],[],[]⟩]))))
def j1B:C:= (.seq (.reg [⟨[],[(40,(.bin .lss (.sl 39) (.sl 38)))],[],none,[1,5,37,38,39],1,[],[],[]⟩]) (.seq (.cond (.sl 40) .skip (.seq (.tidy 0 [5]) (.exit 2))) (.seq (.block 3 (.seq (.reg [⟨[(9,.box (.agg (.cons (.str []) (.cons (.int .i64 0) (.cons (.nilsl 3) .nil)))))],[],[],some (none,.store 3 (.sl 9) (.ld 3 true (.ia 3 (.sl 37) (.sl 39)))),[1,5,9,37,38,39],4,[],[],[]⟩]) (.seq (.reg [⟨[],[],[],some (some 53,.calle 47 (.cons (.sl 5) (.cons (.bin .add (.bin .add (.bin .add (.bin .add (.str [103,108,111,98,97,108,32]) (.call 48 (.cons (.ld 1 false (.fa 0 (.sl 9))) .nil))) (.str [32])) (.call 49 (.cons (.ld 1 false (.fa 1 (.sl 9))) .nil))) (.str [10])) .nil))),[1,5,9,37,38,39],11,[[],[0],[0,1],[1,0,2],[2,0,1,3],[],[5],[1,0,2,5,6],[6,5,7,3,1,0,2,4],[4,2,0,1,3,7,5,6,8],[8,6,5,7,3,1,0,2,4,9]],[],[]⟩]) (.seq (.seq (.reg [⟨[],[(55,(.ld 1 false (.fa 2 (.sl 9)))),(56,(.len false (.ld 1 false (.fa 2 (.sl 9))))),(57,(.int .i64 0))],[],none,[1,5,37,38,39],4,[],[],[]⟩]) (.block 4 (.seq (.tidy 0 [1,5,37,38,39,55,56,57]) (.loop (.seq (.tidy 0 [1,5,37,38,39,55,56,57]) j1C))))) (.seq (.reg [⟨[],[],[],some (some 66,.calle 51 (.cons (.sl 5) .nil)),[1,5,37,38,39],1,[],[],[]⟩,⟨[],[(67,(.bin .gtr (.sl 66) (.int .i64 8388608)))],[],none,[1,5,37,38,39],1,[],[],[]⟩]) (.cond (.sl 67) (.seq (.reg [⟨[],[(2,(.str [])),(3,(.int .i64 4))],[],none,[],2,[],[],[]⟩]) (.seq (.tidy 0 [2,3]) .ret)) .skip)))))) (.reg [⟨[],[(39,(.bin .add (.sl 39) (.int .i64 1)))],[],none,[1,5,37,38],2,[],[],[]⟩]))))
def f19:Fun:=⟨ (.seq (.reg [⟨[(1,.box (.sl 0))],[],[(.int .i64 0),(.str [])],none,[1],3,[],[],[]⟩]) (.seq (.seq (.reg [⟨[],[(4,(.call 13 (.cons (.ld 2 true (.sl 1)) .nil)))],[],none,[1],3,[],[],[]⟩]) (.seq (.reg [⟨[],[(15,(.bin .neq (.sl 4) (.int .i64 0)))],[],none,[1,4],2,[],[],[]⟩]) (.cond (.sl 15) (.seq (.reg [⟨[],[(2,(.str [])),(3,(.sl 4))],[],none,[],3,[],[],[]⟩]) (.seq (.tidy 0 [2,3]) .ret)) .skip))) (.seq (.reg [⟨[(5,.bld 78 5)],[],[],none,[1,5],1,[],[],[]⟩]) (.seq (.seq (.reg [⟨[],[(18,(.ld 1 false (.fa 0 (.sl 1)))),(19,(.len false (.ld 1 false (.fa 0 (.sl 1))))),(20,(.int .i64 0))],[],none,[1,5],4,[],[],[]⟩]) (.block 0 (.seq (.tidy 0 [1,5,18,19,20]) (.loop (.seq (.tidy 0 [1,5,18,19,20]) j1D))))) (.seq (.seq (.reg [⟨[],[(37,(.ld 1 false (.fa 1 (.sl 1)))),(38,(.len false (.ld 1 false (.fa 1 (.sl 1))))),(39,(.int .i64 0))],[],none,[1,5],4,[],[],[]⟩]) (.block 2 (.seq (.tidy 0 [1,5,37,38,39]) (.loop (.seq (.tidy 0 [1,5,37,38,39]) j1B))))) (.seq (.seq (.reg [⟨[],[],[],some (some 69,.calle 51 (.cons (.sl 5) .nil)),[5],1,[],[],[]⟩,⟨[],[(70,(.bin .gtr (.sl 69) (.int .i64 8388608)))],[],none,[5],1,[],[],[]⟩]) (.cond (.sl 70) (.seq (.reg [⟨[],[(2,(.str [])),(3,(.int .i64 4))],[],none,[],2,[],[],[]⟩]) (.seq (.tidy 0 [2,3]) .ret)) .skip)) (.seq (.reg [⟨[],[],[],some (some 71,.calle 52 (.cons (.sl 5) .nil)),[],1,[],[],[]⟩,⟨[],[(2,(.sl 71)),(3,(.int .i64 0))],[],none,[],2,[],[],[]⟩]) (.seq (.tidy 0 [2,3]) .ret)))))))), [(.sl 2),(.sl 3)],false⟩
theorem f19_ok:q0J Go.Proofs.Tryz.prog 19 0 1 f19=true:=by kernel_rfl
/- 'sloth/code.Read' -/
def f21:Fun:=⟨ (.seq (.reg [⟨[(2,.box (.agg (.cons (.nilsl 2) (.cons (.nilsl 3) .nil)))),(3,.box (.int .i64 0))],[],[],none,[0,2,3],2,[],[],[]⟩]) (.seq (.seq (.reg [⟨[],[(7,(.bin .gtr (.len true (.sl 0)) (.int .i64 8388608)))],[],none,[0,2,3],3,[],[],[]⟩]) (.cond (.sl 7) (.seq (.reg [⟨[],[],[],some (none,.store 2 (.sl 2) (.agg (.cons (.nilsl 2) (.cons (.nilsl 3) .nil)))),[2,3],2,[],[],[]⟩,⟨[],[],[],some (none,.store 1 (.sl 3) (.int .i64 2)),[2,3],1,[],[],[]⟩]) (.seq (.tidy 0 [2,3]) .ret)) .skip)) (.seq .stuck (.seq (.reg [⟨[(12,.box (.set 0 1 (.sl 0) (.agg (.cons (.str []) (.cons (.int .i64 0) (.cons (.nilsl 3) (.cons (.nilsl 2) (.cons (.nilsl 3) .nil))))))))],[(4,(.sl 12))],[],none,[2,3],4,[],[],[]⟩]) (.seq (.reg [⟨[],[],[],some (some 14,.calle 60 (.cons (.sl 4) .nil)),[2,3,4],2,[],[],[]⟩]) (.seq (.reg [⟨[],[],[],some (some 16,.calle 61 (.cons (.sl 4) .nil)),[2,3,4],2,[],[],[]⟩]) (.seq (.seq (.reg [⟨[],[(21,(.call 34 (.cons (.ld 2 true (.fa 3 (.fa 0 (.sl 4)))) .nil)))],[],none,[2,3,4],5,[],[],[]⟩]) (.cond (.sl 21) (.seq (.reg [⟨[],[],[],some (none,.store 2 (.sl 2) (.agg (.cons (.nilsl 2) (.cons (.nilsl 3) .nil)))),[2,3],2,[],[],[]⟩,⟨[],[],[],some (none,.store 1 (.sl 3) (.int .i64 4)),[2,3],1,[],[],[]⟩]) (.seq (.tidy 0 [2,3]) .ret)) .skip)) (.seq (.reg [⟨[],[],[],some (none,.store 2 (.sl 2) (.ld 2 true (.fa 3 (.fa 0 (.sl 4))))),[2,3],5,[],[],[]⟩,⟨[],[],[],some (none,.store 1 (.sl 3) (.int .i64 0)),[2,3],1,[],[],[]⟩]) (.seq (.tidy 0 [2,3]) .ret))))))))), [(.ld 2 true (.sl 2)),(.ld 1 false (.sl 3))],false⟩
/- 'sloth/code.Bytes' -/
def j1A:C:= (.seq (.reg [⟨[],[(28,(.bin .lss (.sl 27) (.sl 26)))],[],none,[1,5,25,26,27],1,[],[],[]⟩]) (.seq (.cond (.sl 28) .skip (.seq (.tidy 0 [1,5]) (.exit 0))) (.seq (.block 1 (.seq (.reg [⟨[(7,.box (.agg (.cons (.str []) (.cons (.int .i64 0) .nil))))],[],[],some (none,.store 2 (.sl 7) (.ld 2 true (.ia 2 (.sl 25) (.sl 27)))),[1,5,7,25,26,27],4,[],[],[]⟩]) (.reg [⟨[],[(37,(.conv .u64 (.ld 1 false (.fa 1 (.sl 7)))))],[],some (some 34,.calle 69 (.cons (.sl 5) (.cons (.ld 1 false (.fa 0 (.sl 7))) .nil))),[1,25,26,27],7,[[],[],[1],[1,2,0],[],[4],[4,5],[5,4,6,0,2,1,3],[3,1,2,0,6,4,5,7]],[],[(.fa 1 (.sl 7)),(.ld 1 false (.fa 1 (.sl 7))),(.conv .u64 (.ld 1 false (.fa 1 (.sl 7))))]⟩,⟨[],[],[],some (some 38,.calle 68 (.cons (.sl 34) (.cons (.sl 37) .nil))),[1,25,26,27],1,[],[],[]⟩,⟨[],[(5,(.sl 38))],[],none,[1,25,26,27],1,[],[],[]⟩]))) (.reg [⟨[],[(27,(.bin .add (.sl 27) (.int .i64 1)))],[],none,[1,5,25,26],2,[],[],[]⟩]))))
def j1z:C:= (.seq (.reg [⟨[],[(70,(.bin .lss (.sl 69) (.sl 68)))],[],none,[5,47,48,49,67,68,69],1,[],[],[]⟩]) (.seq (.cond (.sl 70) .skip (.seq (.tidy 0 [5,47,48,49]) (.exit 4))) (.seq (.block 5 (.seq (.reg [⟨[(11,.box (.agg (.cons (.int .i64 0) (.cons (.int .i64 0) (.cons (.int .i64 0) .nil)))))],[],[],some (none,.store 3 (.sl 11) (.ld 3 true (.ia 3 (.sl 67) (.sl 69)))),[5,11,47,48,49,67,68,69],4,[],[],[]⟩]) (.reg [⟨[],[],[],some (some 75,.calle 70 (.cons (.sl 5) (.cons (.ld 3 true (.sl 11)) .nil))),[47,48,49,67,68,69],3,[],[],[]⟩,⟨[],[(5,(.sl 75))],[],none,[47,48,49,67,68,69],1,[],[],[]⟩]))) (.reg [⟨[],[(69,(.bin .add (.sl 69) (.int .i64 1)))],[],none,[5,47,48,49,67,68],2,[],[],[]⟩]))))
def j1y:C:= (.seq (.reg [⟨[],[(50,(.bin .lss (.sl 49) (.sl 48)))],[],none,[5,47,48,49],1,[],[],[]⟩]) (.seq (.cond (.sl 50) .skip (.seq (.tidy 0 [5]) (.exit 2))) (.seq (.block 3 (.seq (.reg [⟨[(9,.box (.agg (.cons (.str []) (.cons (.int .i64 0) (.cons (.nilsl 3) .nil)))))],[],[],some (none,.store 3 (.sl 9) (.ld 3 true (.ia 3 (.sl 47) (.sl 49)))),[5,9,47,48,49],4,[],[],[]⟩]) (.seq (.regp [0,1,2,4,5,6,8,9,10,11,3,7,12,13] [⟨[],[],[(.conv .u64 (.len false (.ld 1 false (.fa 2 (.sl 9))))),(.conv .u64 (.ld 1 false (.fa 1 (.sl 9))))],some (some 56,.calle 69 (.cons (.sl 5) (.cons (.ld 1 false (.fa 0 (.sl 9))) .nil))),[9,47,48,49],11,[[],[],[1],[],[3],[3,4],[],[6],[6,7],[7,6,8],[1,2,0],[4,3,5,0,2,1,10],[8,6,7,9,10,1,2,0,5,3,4,11],[11,4,3,5,0,2,1,10,9,7,6,8,12]],[],[(.fa 1 (.sl 9)),(.ld 1 false (.fa 1 (.sl 9))),(.conv .u64 (.ld 1 false (.fa 1 (.sl 9)))),(.fa 2 (.sl 9)),(.ld 1 false (.fa 2 (.sl 9))),(.len false (.ld 1 false (.fa 2 (.sl 9)))),(.conv .u64 (.len false (.ld 1 false (.fa 2 (.sl 9)))))]⟩,⟨[],[],[(.conv .u64 (.len false (.ld 1 false (.fa 2 (.sl 9)))))],some (some 60,.calle 68 (.cons (.sl 56) (.cons (.conv .u64 (.ld 1 false (.fa 1 (.sl 9)))) .nil))),[9,47,48,49],1,[],[],[(.fa 2 (.sl 9)),(.ld 1 false (.fa 2 (.sl 9))),(.len false (.ld 1 false (.fa 2 (.sl 9)))),(.conv .u64 (.len false (.ld 1 false (.fa 2 (.sl 9)))))]⟩,⟨[],[],[],some (some 65,.calle 68 (.cons (.sl 60) (.cons (.conv .u64 (.len false (.ld 1 false (.fa 2 (.sl 9))))) .nil))),[9,47,48,49],1,[],[],[]⟩,⟨[],[(5,(.sl 65))],[],none,[9,47,48,49],1,[],[],[]⟩]) (.seq (.reg [⟨[],[(67,(.ld 1 false (.fa 2 (.sl 9)))),(68,(.len false (.ld 1 false (.fa 2 (.sl 9))))),(69,(.int .i64 0))],[],none,[5,47,48,49],4,[],[],[]⟩]) (.block 4 (.seq (.tidy 0 [5,47,48,49,67,68,69]) (.loop (.seq (.tidy 0 [5,47,48,49,67,68,69]) j1z)))))))) (.reg [⟨[],[(49,(.bin .add (.sl 49) (.int .i64 1)))],[],none,[5,47,48],2,[],[],[]⟩]))))
def f24:Fun:=⟨ (.seq (.reg [⟨[(1,.box (.sl 0))],[],[(.int .i64 0),(.nilsl 1)],none,[1],3,[],[],[]⟩]) (.seq (.seq (.reg [⟨[],[(4,(.call 13 (.cons (.ld 2 true (.sl 1)) .nil)))],[],none,[1],3,[],[],[]⟩]) (.seq (.reg [⟨[],[(15,(.bin .neq (.sl 4) (.int .i64 0)))],[],none,[1,4],2,[],[],[]⟩]) (.cond (.sl 15) (.seq (.reg [⟨[],[(2,(.nilsl 1)),(3,(.sl 4))],[],none,[],3,[],[],[]⟩]) (.seq (.tidy 0 [2,3]) .ret)) .skip))) (.seq (.reg [⟨[(17,.lits 1 (.cons (.int .u8 83) (.cons (.int .u8 76) (.cons (.int .u8 84) (.cons (.int .u8 72) .nil)))))],[],[],none,[1,17],1,[],[],[]⟩,⟨[],[],[],some (some 18,.mark (.sl 17)),[1],1,[],[],[]⟩,⟨[],[],[],some (some 23,.calle 68 (.cons (.sl 18) (.cons (.conv .u64 (.len false (.ld 1 false (.fa 0 (.sl 1))))) .nil))),[1],5,[],[],[]⟩,⟨[],[(5,(.sl 23))],[],none,[1],1,[],[],[]⟩]) (.seq (.seq (.reg [⟨[],[(25,(.ld 1 false (.fa 0 (.sl 1)))),(26,(.len false (.ld 1 false (.fa 0 (.sl 1))))),(27,(.int .i64 0))],[],none,[1,5],4,[],[],[]⟩]) (.block 0 (.seq (.tidy 0 [1,5,25,26,27]) (.loop (.seq (.tidy 0 [1,5,25,26,27]) j1A))))) (.seq (.reg [⟨[],[],[],some (some 45,.calle 68 (.cons (.sl 5) (.cons (.conv .u64 (.len false (.ld 1 false (.fa 1 (.sl 1))))) .nil))),[1],6,[],[],[]⟩,⟨[],[(5,(.sl 45))],[],none,[1],1,[],[],[]⟩]) (.seq (.seq (.reg [⟨[],[(47,(.ld 1 false (.fa 1 (.sl 1)))),(48,(.len false (.ld 1 false (.fa 1 (.sl 1))))),(49,(.int .i64 0))],[],none,[5],4,[],[],[]⟩]) (.block 2 (.seq (.tidy 0 [5,47,48,49]) (.loop (.seq (.tidy 0 [5,47,48,49]) j1y))))) (.seq (.reg [⟨[],[],[],some (some 82,.app 1 (.sl 5) (.call 71 (.cons (.call 72 (.cons (.sl 5) .nil)) .nil))),[],5,[],[],[]⟩,⟨[],[(5,(.sl 82))],[],none,[],1,[],[],[]⟩]) (.seq (.seq (.reg [⟨[],[(85,(.bin .gtr (.len false (.sl 5)) (.int .i64 8388608)))],[],none,[5],3,[],[],[]⟩]) (.cond (.sl 85) (.seq (.reg [⟨[],[(2,(.nilsl 1)),(3,(.int .i64 4))],[],none,[],2,[],[],[]⟩]) (.seq (.tidy 0 [2,3]) .ret)) .skip)) (.seq (.reg [⟨[],[(2,(.sl 5)),(3,(.int .i64 0))],[],none,[],3,[],[],[]⟩]) (.seq (.tidy 0 [2,3]) .ret)))))))))), [(.sl 2),(.sl 3)],false⟩
/- 'sloth/code.Load' -/
def f27:Fun:=⟨ (.seq (.reg [⟨[(2,.box (.agg (.cons (.nilsl 2) (.cons (.nilsl 3) .nil)))),(3,.box (.int .i64 0))],[],[],none,[0,2,3],2,[],[],[]⟩]) (.seq (.seq (.reg [⟨[],[(8,(.bin .gtr (.len false (.sl 0)) (.int .i64 8388608)))],[],none,[0,2,3],3,[],[],[]⟩]) (.cond (.sl 8) (.seq (.reg [⟨[],[],[],some (none,.store 2 (.sl 2) (.agg (.cons (.nilsl 2) (.cons (.nilsl 3) .nil)))),[2,3],2,[],[],[]⟩,⟨[],[],[],some (none,.store 1 (.sl 3) (.int .i64 2)),[2,3],1,[],[],[]⟩]) (.seq (.tidy 0 [2,3]) .ret)) .skip)) (.seq .stuck (.seq (.reg [⟨[],[(4,(.bin .sub (.len false (.sl 0)) (.int .i64 4)))],[],none,[0,2,3],4,[],[],[]⟩]) (.seq (.seq (.reg [⟨[],[(34,(.or (.or (.bin .lss (.sl 4) (.int .i64 4)) (.bin .neq (.b2s (.cut false false true false 1 (.sl 0) .nil (.int .i64 4) .nil)) (.str [83,76,84,72]))) (.bin .neq (.b2s (.call 71 (.cons (.call 72 (.cons (.cut false false true false 1 (.sl 0) .nil (.sl 4) .nil) .nil)) .nil))) (.b2s (.cut false true false false 1 (.sl 0) (.sl 4) .nil .nil)))))],[],none,[0,2,3,4],21,[[],[0],[0,1],[1,0,2],[2,0,1,3],[3,1,0,2,4],[4,2,0,1,3,5],[5,3,4,6,1,0,2],[2,0,1,6,4,3,5,7],[7,5,3,4,6,1,0,2,8],[7,5,3,4,6,1,0,2,8],[10,8,2,0,1,6,4,3,5,7,9],[9,7,5,3,4,6,1,0,2,8,10,11],[11,10,8,2,0,1,6,4,3,5,7,9,12],[12,9,7,5,3,4,6,1,0,2,8,10,11,13],[7,5,3,4,6,1,0,2,8],[7,5,3,4,6,1,0,2,8],[16,8,2,0,1,6,4,3,5,7,15],[15,7,5,3,4,6,1,0,2,8,16,17],[17,16,15,18,13,11,10,8,2,0,1,6,4,3,5,7,9,12,14],[14,12,9,10,11,13,18,15,16,17,19,7,5,3,4,6,1,0,2,8]],[],[]⟩]) (.cond (.sl 34) (.seq (.reg [⟨[],[],[],some (none,.store 2 (.sl 2) (.agg (.cons (.nilsl 2) (.cons (.nilsl 3) .nil)))),[2,3],2,[],[],[]⟩,⟨[],[],[],some (none,.store 1 (.sl 3) (.int .i64 171)),[2,3],1,[],[],[]⟩]) (.seq (.tidy 0 [2,3]) .ret)) .skip)) (.seq (.reg [⟨[(40,.box (.set 0 1 (.cut false true true false 1 (.sl 0) (.int .i64 4) (.sl 4) .nil) (.agg (.cons (.nilsl 1) .nil))))],[(5,(.sl 40))],[],none,[2,3],6,[],[],[]⟩]) (.seq (.reg [⟨[],[],[],some (some 42,.calle 77 (.cons (.sl 5) .nil)),[2,3,5],2,[],[],[]⟩,⟨[],[],[],some (none,.store 2 (.sl 2) (.sl 42)),[2,3,5],1,[],[],[]⟩]) (.seq (.seq (.reg [⟨[],[(53,(.or (.bin .gtr (.len false (.ld 1 false (.fa 0 (.fa 0 (.sl 5))))) (.int .i64 0)) (.bin .neq (.call 13 (.cons (.ld 2 true (.sl 2)) .nil)) (.int .i64 0))))],[],none,[2,3],11,[],[],[]⟩]) (.cond (.sl 53) (.seq (.reg [⟨[],[],[],some (none,.store 2 (.sl 2) (.agg (.cons (.nilsl 2) (.cons (.nilsl 3) .nil)))),[2,3],2,[],[],[]⟩,⟨[],[],[],some (none,.store 1 (.sl 3) (.int .i64 171)),[2,3],1,[],[],[]⟩]) (.seq (.tidy 0 [2,3]) .ret)) .skip)) (.seq (.reg [⟨[],[],[],some (none,.store 2 (.sl 2) (.ld 2 true (.sl 2))),[2,3],2,[],[],[]⟩,⟨[],[],[],some (none,.store 1 (.sl 3) (.int .i64 0)),[2,3],1,[],[],[]⟩]) (.seq (.tidy 0 [2,3]) .ret)))))))))), [(.ld 2 true (.sl 2)),(.ld 1 false (.sl 3))],false⟩
/- 'sloth/slothlaw17.id' -/
def f33:Fun:=⟨ (.seq (.reg [⟨[(0,.box (.agg (.cons (.nilsl 2) (.cons (.nilsl 3) .nil))))],[],[],none,[0],1,[],[],[]⟩]) (.seq (.reg [⟨[(6,.lits 3 (.cons (.set 0 1 (.int .i64 1) (.agg (.cons (.int .i64 0) (.cons (.int .i64 0) (.cons (.int .i64 0) .nil))))) (.cons (.set 1 1 (.int .i64 2) (.set 0 1 (.int .i64 7) (.agg (.cons (.int .i64 0) (.cons (.int .i64 0) (.cons (.int .i64 0) .nil)))))) (.cons (.set 1 1 (.int .i64 1) (.set 0 1 (.int .i64 4) (.agg (.cons (.int .i64 0) (.cons (.int .i64 0) (.cons (.int .i64 0) .nil)))))) (.cons (.set 0 1 (.int .i64 17) (.agg (.cons (.int .i64 0) (.cons (.int .i64 0) (.cons (.int .i64 0) .nil))))) .nil)))))],[(1,(.sl 6))],[],none,[0],6,[],[],[]⟩]) (.seq (.reg [⟨[(7,.callo 78 .nil),(10,.lits 3 (.cons (.set 2 1 (.sl 1) (.set 1 1 (.int .i64 1) (.set 0 1 (.str [105,100]) (.agg (.cons (.str []) (.cons (.int .i64 0) (.cons (.nilsl 3) .nil))))))) .nil))],[],[],some (none,.store 2 (.sl 0) (.set 1 1 (.sl 10) (.set 0 1 (.sl 7) (.agg (.cons (.nilsl 2) (.cons (.nilsl 3) .nil)))))),[0],6,[],[],[]⟩]) (.seq (.tidy 0 [0]) .ret)))), [(.ld 2 true (.sl 0))],false⟩
/- 'sloth/code.quote' -/
def f48:Fun:=⟨ (.seq (.reg [⟨[],[],[(.str [])],none,[0],1,[],[],[]⟩]) (.seq (.reg [⟨[],[(2,(.bin .add (.bin .add (.str [34]) (.call 88 (.cons (.call 88 (.cons (.sl 0) (.cons (.str [92]) (.cons (.str [92,92]) .nil)))) (.cons (.str [34]) (.cons (.str [92,34]) .nil))))) (.str [34])))],[],none,[],6,[],[],[]⟩]) (.seq (.tidy 0 [2]) .ret))), [(.sl 2)],false⟩
theorem f48_ok:q0J Go.Proofs.Tryz.prog 48 0 1 f48=true:=by kernel_rfl
/- 'sloth/code.line' -/
def f50:Fun:=⟨ (.seq (.reg [⟨[(2,.box (.sl 0)),(3,.box (.sl 1))],[],[(.str [])],none,[2,3],3,[],[],[]⟩]) (.seq (.reg [⟨[(5,.box (.agg (.cons (.str []) (.cons (.int .i64 0) (.cons (.int .i64 0) .nil)))))],[(13,(.ext 1 (.call 79 (.cons (.ld 1 false (.fa 0 (.sl 3))) .nil))))],[],some (none,.store 3 (.sl 5) (.ext 0 (.call 79 (.cons (.ld 1 false (.fa 0 (.sl 3))) .nil)))),[2,3,5],8,[],[],[]⟩,⟨[],[],[(.sl 13)],none,[2,3,5],1,[],[],[]⟩]) (.seq (.reg [⟨[],[(7,(.str [10]))],[],none,[2,3,5],1,[],[],[]⟩]) (.seq (.block 0 (.seq (.block 3 (.seq (.block 2 (.seq (.block 1 (.seq (.seq (.seq (.reg [⟨[],[(14,(.bin .neq (.ld 1 false (.fa 2 (.sl 5))) (.int .i64 0)))],[],none,[2,3,5,7],4,[],[],[]⟩]) (.cond (.sl 14) (.seq (.tidy 0 [2,3,5,7]) (.exit 1)) .skip)) (.seq (.reg [⟨[],[(18,(.bin .neq (.ld 1 false (.fa 1 (.sl 5))) (.int .i64 0)))],[],none,[2,3,5,7],4,[],[],[]⟩]) (.cond (.sl 18) (.seq (.tidy 0 [2,3,5,7]) (.exit 2)) .skip))) (.seq (.tidy 0 [5,7]) (.exit 3)))) (.reg [⟨[],[(7,(.bin .add (.bin .add (.str [32]) (.call 49 (.cons (.ld 1 false (.fa 2 (.sl 3))) .nil))) (.sl 7)))],[],none,[2,3,5],7,[],[],[]⟩]))) (.reg [⟨[],[(7,(.bin .add (.bin .add (.str [32]) (.call 90 (.cons (.ld 2 true (.sl 2)) (.cons (.ld 1 false (.fa 1 (.sl 5))) (.cons (.ld 1 false (.fa 1 (.sl 3))) .nil))))) (.sl 7)))],[],none,[5],10,[],[],[]⟩]))) (.seq (.reg [⟨[],[(7,(.bin .add (.bin .add (.str [32,32]) (.ld 1 false (.fa 0 (.sl 5)))) (.sl 7)))],[],none,[],6,[],[],[]⟩]) (.seq (.tidy 0 [7]) (.exit 0))))) (.seq (.reg [⟨[],[(4,(.sl 7))],[],none,[],2,[],[],[]⟩]) (.seq (.tidy 0 [4]) .ret)))))), [(.sl 4)],false⟩
theorem f50_ok:q0J Go.Proofs.Tryz.prog 50 0 2 f50=true:=by kernel_rfl
/- '(*sloth/code.reader).table' -/
def j1j:C:= (.seq (.seq (.reg [⟨[],[(7,(.bin .eql (.sl 2) (.str [115,104,97,112,101])))],[],none,[0,2],2,[],[],[]⟩]) (.cond (.sl 7) .skip (.seq (.keep [0,2]) (.exit 0)))) (.seq (.block 1 (.regl [⟨[],[],[(.ld 1 false (.fa 0 (.fa 3 (.fa 0 (.sl 0)))))],some (some 17,.calle 97 (.cons (.sl 0) .nil)),[0],9,[[],[],[1],[1,2],[2,1,3],[3,1,2,4],[],[6],[],[6,7,8],[8,9,6,7],[7,6,9,8,10],[10,8,9,6,7,11,4,2,1,3,5],[12,11,10,9,8,7,6,5,4,3,2,1,0],[0,1,2,3,4,5,6,7,8,9,10,11,12,13],[13,12,11,10,9,8,7,6,5,4,3,2,1,0,14],[14,0,1,2,3,4,5,6,7,8,9,10,11,12,13,15]],[],[(.sl 0),(.fa 0 (.sl 0)),(.fa 3 (.fa 0 (.sl 0))),(.fa 0 (.fa 3 (.fa 0 (.sl 0)))),(.ld 1 false (.fa 0 (.fa 3 (.fa 0 (.sl 0)))))]⟩,⟨[],[],[(.ld 1 false (.fa 0 (.fa 3 (.fa 0 (.sl 0)))))],some (some 19,.calle 98 (.cons (.sl 0) .nil)),[0,17],1,[],[],[(.sl 0),(.fa 0 (.sl 0)),(.fa 3 (.fa 0 (.sl 0))),(.fa 0 (.fa 3 (.fa 0 (.sl 0)))),(.ld 1 false (.fa 0 (.fa 3 (.fa 0 (.sl 0)))))]⟩,⟨[(21,.lits 2 (.cons (.set 1 1 (.sl 19) (.set 0 1 (.sl 17) (.agg (.cons (.str []) (.cons (.int .i64 0) .nil))))) .nil))],[],[],some (some 22,.app 2 (.ld 1 false (.fa 0 (.fa 3 (.fa 0 (.sl 0))))) (.sl 21)),[0],3,[],[],[(.sl 0)]⟩,⟨[],[],[],some (none,.store 1 (.fa 0 (.fa 3 (.fa 0 (.sl 0)))) (.sl 22)),[0],4,[],[],[]⟩])) (.reg [⟨[],[],[],some (some 9,.calle 96 (.cons (.sl 0) .nil)),[0],2,[],[],[]⟩,⟨[],[(2,(.sl 9))],[],none,[0],1,[],[],[]⟩])))
def j1i:C:= (.seq (.seq (.reg [⟨[],[(44,(.and (.bin .neq (.sl 2) (.str [])) (.bin .neq (.sl 2) (.str [103,108,111,98,97,108]))))],[],none,[0,2,3],6,[],[],[]⟩]) (.cond (.sl 44) .skip (.seq (.keep [0,2,3]) (.exit 4)))) (.seq (.block 5 (.regl [⟨[],[],[],some (some 60,.calle 99 (.cons (.sl 0) (.cons (.sl 2) (.cons (.len false (.ld 1 false (.fa 1 (.fa 3 (.fa 0 (.sl 0)))))) (.cons (.len false (.ld 1 false (.fa 2 (.sl 3)))) .nil))))),[0,3],14,[[],[0],[],[],[],[4],[4,5],[5,4,6],[6,4,5,7],[7,5,4,6,8],[],[10],[10,11],[11,10,12,8,6,4,5,7,9,3,2],[2,3,9,7,5,4,6,8,12,10,11,13],[13,11,10,12,8,6,4,5,7,9,3,2,14,0,1],[15,14,13,12,11,10,9,8,7,6,5,4,3,2,1,0],[0,1,2,3,4,5,6,7,8,9,10,11,12,13,14,15,16]],[],[(.fa 2 (.sl 3)),(.ld 1 false (.fa 2 (.sl 3)))]⟩,⟨[(61,.lits 3 (.cons (.sl 60) .nil))],[],[],some (some 62,.app 3 (.ld 1 false (.fa 2 (.sl 3))) (.sl 61)),[0,3],2,[],[],[]⟩,⟨[],[],[],some (none,.store 1 (.fa 2 (.sl 3)) (.sl 62)),[0,3],2,[],[],[]⟩])) (.reg [⟨[],[],[],some (some 46,.calle 96 (.cons (.sl 0) .nil)),[0,3],2,[],[],[]⟩,⟨[],[(2,(.sl 46))],[],none,[0,3],1,[],[],[]⟩])))
def j1h:C:= (.seq (.seq (.reg [⟨[],[(27,(.bin .neq (.sl 2) (.str [])))],[],none,[0,2],2,[],[],[]⟩]) (.cond (.sl 27) .skip (.seq (.keep []) (.exit 2)))) (.block 3 (.seq (.seq (.reg [⟨[],[(29,(.bin .neq (.sl 2) (.str [103,108,111,98,97,108])))],[],none,[0],2,[],[],[]⟩]) (.cond (.sl 29) .stuck .skip)) (.seq (.reg [⟨[],[],[],some (some 33,.calle 97 (.cons (.sl 0) .nil)),[0],2,[],[],[]⟩,⟨[],[],[],some (some 35,.calle 98 (.cons (.sl 0) .nil)),[0,33],2,[],[],[]⟩,⟨[(3,.box (.agg (.cons (.str []) (.cons (.int .i64 0) (.cons (.nilsl 3) .nil)))))],[],[],some (none,.store 3 (.sl 3) (.set 1 1 (.sl 35) (.set 0 1 (.sl 33) (.agg (.cons (.str []) (.cons (.int .i64 0) (.cons (.nilsl 3) .nil))))))),[0,3],3,[],[],[]⟩]) (.seq (.seq (.reg [⟨[],[],[],some (some 38,.calle 96 (.cons (.sl 0) .nil)),[0,3],2,[],[],[]⟩,⟨[],[(2,(.sl 38))],[],none,[0,3],1,[],[],[]⟩]) (.block 4 (.seq (.keep [0,2,3]) (.loop (.seq (.keep [0,2,3]) j1i))))) (.regl [⟨[(71,.lits 3 (.cons (.ld 3 true (.sl 3)) .nil))],[],[],some (some 72,.app 3 (.ld 1 false (.fa 1 (.fa 3 (.fa 0 (.sl 0))))) (.sl 71)),[0,2],9,[[],[],[1],[1,2],[2,1,3],[3,1,2,4],[],[6],[6,7,4,2,1,3,5],[8,7,6,5,4,3,2,1,0],[0,1,2,3,4,5,6,7,8,9],[9,8,7,6,5,4,3,2,1,0,10],[10,0,1,2,3,4,5,6,7,8,9,11]],[],[(.sl 0)]⟩,⟨[],[],[],some (none,.store 1 (.fa 1 (.fa 3 (.fa 0 (.sl 0)))) (.sl 72)),[0,2],4,[],[],[]⟩]))))))
def f60:Fun:=⟨ (.seq (.reg [⟨[],[],[],some (some 5,.calle 96 (.cons (.sl 0) .nil)),[0],2,[],[],[]⟩,⟨[],[(2,(.sl 5))],[],none,[0],1,[],[],[]⟩]) (.seq (.block 0 (.seq (.keep [0,2]) (.loop (.seq (.keep [0,2]) j1j)))) (.block 2 (.seq (.keep [0,2]) (.loop (.seq (.keep [0,2]) j1h)))))), [],false⟩
/- '(*sloth/code.reader).resolve' -/
def j1g:C:= (.seq (.reg [⟨[],[(26,(.bin .lss (.sl 25) (.sl 24)))],[],none,[0,2,3,23,24,25],1,[],[],[]⟩]) (.seq (.cond (.sl 26) .skip (.seq (.keep [0,2,3]) (.exit 0))) (.seq (.block 1 (.seq (.reg [⟨[(5,.box (.agg (.cons (.str []) (.cons (.int .i64 0) .nil))))],[(4,(.sl 25))],[],some (none,.store 2 (.sl 5) (.ld 2 true (.ia 2 (.sl 23) (.sl 25)))),[0,2,3,5,23,24,25],6,[],[],[]⟩]) (.seq (.reg [⟨[],[(7,(.ext 1 (.lkp true 2 (.int .i64 0) (.sl 2) (.ld 1 false (.fa 0 (.sl 5))))))],[(.ext 0 (.lkp true 2 (.int .i64 0) (.sl 2) (.ld 1 false (.fa 0 (.sl 5)))))],none,[0,2,3,4,5,23,24,25],9,[],[],[]⟩]) (.seq (.reg [⟨[],[(38,(.un .not (.sl 7)))],[],none,[0,2,3,4,5,23,24,25],2,[],[],[]⟩]) (.cond (.sl 38) (.reg [⟨[],[],[],some (none,.mset 2 (.sl 2) (.ld 1 false (.fa 0 (.sl 5))) (.sl 4)),[0,2,3,23,24,25],5,[],[],[]⟩]) .skip))))) (.reg [⟨[],[(25,(.bin .add (.sl 25) (.int .i64 1)))],[],none,[0,2,3,23,24],2,[],[],[]⟩]))))
def j1f:C:= (.seq (.reg [⟨[],[(51,(.bin .lss (.sl 50) (.sl 49)))],[],none,[0,2,3,48,49,50],1,[],[],[]⟩]) (.seq (.cond (.sl 51) .skip (.seq (.keep [0,2,3]) (.exit 2))) (.seq (.block 3 (.seq (.reg [⟨[(9,.box (.agg (.cons (.str []) (.cons (.int .i64 0) (.cons (.nilsl 3) .nil)))))],[(8,(.sl 50))],[],some (none,.store 3 (.sl 9) (.ld 3 true (.ia 3 (.sl 48) (.sl 50)))),[0,2,3,9,48,49,50],6,[],[],[]⟩]) (.seq (.reg [⟨[],[(11,(.ext 1 (.lkp true 2 (.int .i64 0) (.sl 3) (.ld 1 false (.fa 0 (.sl 9))))))],[(.ext 0 (.lkp true 2 (.int .i64 0) (.sl 3) (.ld 1 false (.fa 0 (.sl 9)))))],none,[0,2,3,8,9,48,49,50],9,[],[],[]⟩]) (.seq (.reg [⟨[],[(63,(.un .not (.sl 11)))],[],none,[0,2,3,8,9,48,49,50],2,[],[],[]⟩]) (.cond (.sl 63) (.reg [⟨[],[],[],some (none,.mset 2 (.sl 3) (.ld 1 false (.fa 0 (.sl 9))) (.sl 8)),[0,2,3,48,49,50],5,[],[],[]⟩]) .skip))))) (.reg [⟨[],[(50,(.bin .add (.sl 50) (.int .i64 1)))],[],none,[0,2,3,48,49],2,[],[],[]⟩]))))
def j1e:C:= (.seq (.reg [⟨[],[(75,(.bin .lss (.sl 74) (.sl 73)))],[],none,[0,2,3,72,73,74],1,[],[],[]⟩]) (.seq (.cond (.sl 75) .skip (.seq (.keep []) (.exit 4))) (.seq (.block 5 (.seq (.reg [⟨[(13,.box (.agg (.cons (.int .i64 0) (.cons (.int .i64 0) (.cons (.str []) .nil)))))],[],[],some (none,.store 3 (.sl 13) (.ld 3 true (.ia 3 (.sl 72) (.sl 74)))),[0,2,3,13,72,73,74],4,[],[],[]⟩]) (.seq (.reg [⟨[],[(14,(.ia 3 (.ld 1 false (.fa 2 (.ia 3 (.ld 1 false (.fa 1 (.fa 3 (.fa 0 (.sl 0))))) (.ld 1 false (.fa 0 (.sl 13)))))) (.ld 1 false (.fa 1 (.sl 13)))))],[],none,[0,2,3,13,72,73,74],14,[[],[0],[0,1],[1,0,2],[2,0,1,3],[],[5],[5,6,3,1,0,2,4],[4,2,0,1,3,6,5,7],[7,5,6,3,1,0,2,4,8],[],[10],[10,11,8,4,2,0,1,3,6,5,7,9],[9,7,5,6,3,1,0,2,4,8,11,10,12]],[],[]⟩]) (.seq (.reg [⟨[],[(15,(.ext 0 (.lkp true 2 (.int .i64 0) (.sl 2) (.ld 1 false (.fa 2 (.sl 13)))))),(16,(.ext 1 (.lkp true 2 (.int .i64 0) (.sl 2) (.ld 1 false (.fa 2 (.sl 13))))))],[],none,[0,2,3,13,14,72,73,74],9,[],[],[]⟩]) (.seq (.seq (.reg [⟨[],[(102,(.bin .eql (.ld 1 false (.fa 0 (.fa 0 (.sl 14)))) (.int .i64 2)))],[],none,[0,2,3,13,14,15,16,72,73,74],5,[],[],[]⟩]) (.cond (.sl 102) (.reg [⟨[],[(15,(.ext 0 (.lkp true 2 (.int .i64 0) (.sl 3) (.ld 1 false (.fa 2 (.sl 13)))))),(16,(.ext 1 (.lkp true 2 (.int .i64 0) (.sl 3) (.ld 1 false (.fa 2 (.sl 13))))))],[],none,[0,2,3,14,72,73,74],9,[],[],[]⟩]) .skip)) (.seq (.seq (.reg [⟨[],[(111,(.un .not (.sl 16)))],[],none,[0,2,3,14,15,72,73,74],2,[],[],[]⟩]) (.cond (.sl 111) .stuck .skip)) (.reg [⟨[],[],[],some (none,.store 1 (.fa 1 (.fa 0 (.sl 14))) (.sl 15)),[0,2,3,72,73,74],5,[],[],[]⟩]))))))) (.reg [⟨[],[(74,(.bin .add (.sl 74) (.int .i64 1)))],[],none,[0,2,3,72,73],2,[],[],[]⟩]))))
def f61:Fun:=⟨ (.seq (.reg [⟨[(17,.mkm),(18,.mkm)],[(2,(.sl 17)),(3,(.sl 18))],[],none,[0],4,[],[],[]⟩]) (.seq (.seq (.reg [⟨[],[(23,(.ld 1 false (.fa 0 (.fa 3 (.fa 0 (.sl 0)))))),(24,(.len false (.ld 1 false (.fa 0 (.fa 3 (.fa 0 (.sl 0))))))),(25,(.int .i64 0))],[],none,[0,2,3],7,[],[],[]⟩]) (.block 0 (.seq (.keep [0,2,3,23,24,25]) (.loop (.seq (.keep [0,2,3,23,24,25]) j1g))))) (.seq (.seq (.reg [⟨[],[(48,(.ld 1 false (.fa 1 (.fa 3 (.fa 0 (.sl 0)))))),(49,(.len false (.ld 1 false (.fa 1 (.fa 3 (.fa 0 (.sl 0))))))),(50,(.int .i64 0))],[],none,[0,2,3],7,[],[],[]⟩]) (.block 2 (.seq (.keep [0,2,3,48,49,50]) (.loop (.seq (.keep [0,2,3,48,49,50]) j1f))))) (.seq (.reg [⟨[],[(72,(.ld 1 false (.fa 2 (.fa 0 (.sl 0))))),(73,(.len false (.ld 1 false (.fa 2 (.fa 0 (.sl 0)))))),(74,(.int .i64 0))],[],none,[0,2,3],6,[],[],[]⟩]) (.block 4 (.seq (.keep [0,2,3,72,73,74]) (.loop (.seq (.keep [0,2,3,72,73,74]) j1e)))))))), [],false⟩
/- 'sloth/code.put' -/
def j1d:C:= (.seq (.seq (.reg [⟨[],[(6,(.bin .gtr (.sl 1) (.int .u64 127)))],[],none,[0,1],2,[],[],[]⟩]) (.cond (.sl 6) .skip (.seq (.tidy 1 [0,1]) (.exit 0)))) (.seq (.block 1 (.reg [⟨[(13,.lits 1 (.cons (.bin .or (.conv .u8 (.sl 1)) (.int .u8 128)) .nil))],[],[],some (some 14,.app 1 (.sl 0) (.sl 13)),[1],6,[],[],[]⟩,⟨[],[(0,(.sl 14))],[],none,[1],1,[],[],[]⟩])) (.reg [⟨[],[(1,(.sh false (.sl 1) (.int .u64 7)))],[],none,[0],3,[],[],[]⟩])))
def f68:Fun:=⟨ (.seq (.reg [⟨[],[],[(.nilsl 1)],none,[0,1],1,[],[],[]⟩]) (.seq (.block 0 (.seq (.tidy 1 [0,1]) (.loop (.seq (.tidy 1 [0,1]) j1d)))) (.seq (.reg [⟨[(18,.lits 1 (.cons (.conv .u8 (.sl 1)) .nil))],[],[],some (some 19,.app 1 (.sl 0) (.sl 18)),[],5,[],[],[]⟩,⟨[],[(4,(.sl 19))],[],none,[],1,[],[],[]⟩]) (.seq (.tidy 1 [4]) .ret)))), [(.sl 4)],false⟩
/- 'sloth/code.putName' -/
def f69:Fun:=⟨ (.seq (.reg [⟨[],[],[(.nilsl 1)],none,[0,1],1,[],[],[]⟩]) (.seq (.reg [⟨[],[],[],some (some 9,.calle 68 (.cons (.sl 0) (.cons (.conv .u64 (.len true (.sl 1))) .nil))),[1],5,[],[],[]⟩,⟨[],[],[],some (some 11,.app 1 (.sl 9) (.s2r (.sl 1))),[],2,[],[],[]⟩,⟨[],[(4,(.sl 11))],[],none,[],1,[],[],[]⟩]) (.seq (.tidy 1 [4]) .ret))), [(.sl 4)],false⟩
/- 'sloth/code.putInstr' -/
def f70:Fun:=⟨ (.seq (.reg [⟨[(3,.box (.sl 1))],[],[(.nilsl 1)],none,[0,3],2,[],[],[]⟩]) (.seq (.reg [⟨[(5,.box (.agg (.cons (.str []) (.cons (.int .i64 0) (.cons (.int .i64 0) .nil)))))],[(12,(.ext 1 (.call 79 (.cons (.ld 1 false (.fa 0 (.sl 3))) .nil))))],[],some (none,.store 3 (.sl 5) (.ext 0 (.call 79 (.cons (.ld 1 false (.fa 0 (.sl 3))) .nil)))),[0,3,5],8,[],[],[]⟩,⟨[],[],[(.sl 12)],none,[0,3,5],1,[],[],[]⟩]) (.seq (.reg [⟨[],[],[],some (some 17,.calle 68 (.cons (.sl 0) (.cons (.conv .u64 (.ld 1 false (.fa 0 (.sl 3)))) .nil))),[3,5],5,[],[],[]⟩,⟨[],[(0,(.sl 17))],[],none,[3,5],1,[],[],[]⟩]) (.seq (.seq (.reg [⟨[],[(20,(.bin .eql (.ld 1 false (.fa 1 (.sl 5))) (.int .i64 3)))],[],none,[0,3,5],3,[],[],[]⟩]) (.cond (.sl 20) (.reg [⟨[],[],[],some (some 25,.calle 68 (.cons (.sl 0) (.cons (.call 100 (.cons (.ld 1 false (.fa 1 (.sl 3))) .nil)) .nil))),[3,5],5,[],[],[]⟩,⟨[],[(0,(.sl 25))],[],none,[3,5],1,[],[],[]⟩]) (.seq (.reg [⟨[],[(28,(.bin .neq (.ld 1 false (.fa 1 (.sl 5))) (.int .i64 0)))],[],none,[0,3,5],3,[],[],[]⟩]) (.cond (.sl 28) (.reg [⟨[],[],[],some (some 33,.calle 68 (.cons (.sl 0) (.cons (.conv .u64 (.ld 1 false (.fa 1 (.sl 3)))) .nil))),[3,5],5,[],[],[]⟩,⟨[],[(0,(.sl 33))],[],none,[3,5],1,[],[],[]⟩]) .skip)))) (.seq (.seq (.reg [⟨[],[(36,(.bin .neq (.ld 1 false (.fa 2 (.sl 5))) (.int .i64 0)))],[],none,[0,3],3,[],[],[]⟩]) (.cond (.sl 36) (.reg [⟨[],[],[],some (some 41,.calle 68 (.cons (.sl 0) (.cons (.conv .u64 (.ld 1 false (.fa 2 (.sl 3)))) .nil))),[],5,[],[],[]⟩,⟨[],[(0,(.sl 41))],[],none,[],1,[],[],[]⟩]) .skip)) (.seq (.reg [⟨[],[(4,(.sl 0))],[],none,[],2,[],[],[]⟩]) (.seq (.tidy 1 [4]) .ret))))))), [(.sl 4)],false⟩
/- 'sloth/code.four' -/
def f71:Fun:=⟨ (.seq (.reg [⟨[],[],[(.nilsl 1)],none,[0],1,[],[],[]⟩]) (.seq (.reg [⟨[(14,.lits 1 (.cons (.conv .u8 (.sl 0)) (.cons (.conv .u8 (.sh false (.sl 0) (.int .u64 8))) (.cons (.conv .u8 (.sh false (.sl 0) (.int .u64 16))) (.cons (.conv .u8 (.sh false (.sl 0) (.int .u64 24))) .nil)))))],[(2,(.sl 14))],[],none,[],13,[],[],[]⟩]) (.seq (.tidy 0 [2]) .ret))), [(.sl 2)],false⟩
/- 'sloth/code.sum' -/
def j1c:C:= (.seq (.reg [⟨[],[(18,(.bin .lss (.sl 17) (.int .i64 8)))],[],none,[3,7,8,9,17],1,[],[],[]⟩]) (.seq (.cond (.sl 18) .skip (.seq (.tidy 0 [3,7,8,9]) (.exit 2))) (.seq (.block 3 (.seq (.reg [⟨[],[(6,(.bin .and (.sl 3) (.int .u32 1)))],[],none,[3,7,8,9,17],3,[],[],[]⟩]) (.seq (.reg [⟨[],[(3,(.sh false (.sl 3) (.int .u64 1)))],[],none,[6,7,8,9,17],3,[],[],[]⟩]) (.seq (.reg [⟨[],[(24,(.bin .eql (.sl 6) (.int .u32 1)))],[],none,[3,7,8,9,17],2,[],[],[]⟩]) (.cond (.sl 24) (.reg [⟨[],[(3,(.bin .xor (.sl 3) (.int .u32 3988292384)))],[],none,[7,8,9,17],3,[],[],[]⟩]) .skip))))) (.reg [⟨[],[(17,(.bin .add (.sl 17) (.int .i64 1)))],[],none,[3,7,8,9],2,[],[],[]⟩]))))
def j1b:C:= (.seq (.reg [⟨[],[(10,(.bin .lss (.sl 9) (.sl 8)))],[],none,[3,7,8,9],1,[],[],[]⟩]) (.seq (.cond (.sl 10) .skip (.seq (.tidy 0 [3]) (.exit 0))) (.seq (.block 1 (.seq (.reg [⟨[],[(5,(.ld 1 false (.ia 1 (.sl 7) (.sl 9))))],[],none,[3,7,8,9],3,[],[],[]⟩]) (.seq (.reg [⟨[],[(3,(.bin .xor (.sl 3) (.conv .u32 (.sl 5))))],[],none,[7,8,9],5,[],[],[]⟩]) (.seq (.reg [⟨[],[(17,(.int .i64 0))],[],none,[3,7,8,9],1,[],[],[]⟩]) (.block 2 (.seq (.tidy 0 [3,7,8,9,17]) (.loop (.seq (.tidy 0 [3,7,8,9,17]) j1c)))))))) (.reg [⟨[],[(9,(.bin .add (.sl 9) (.int .i64 1)))],[],none,[3,7,8],2,[],[],[]⟩]))))
def f72:Fun:=⟨ (.seq (.reg [⟨[],[],[(.int .u32 0)],none,[0],1,[],[],[]⟩]) (.seq (.reg [⟨[],[(3,(.int .u32 4294967295))],[],none,[0],1,[],[],[]⟩]) (.seq (.seq (.reg [⟨[],[(7,(.sl 0)),(8,(.len false (.sl 0))),(9,(.int .i64 0))],[],none,[3],3,[],[],[]⟩]) (.block 0 (.seq (.tidy 0 [3,7,8,9]) (.loop (.seq (.tidy 0 [3,7,8,9]) j1b))))) (.seq (.reg [⟨[],[(2,(.un .xor (.sl 3)))],[],none,[],3,[],[],[]⟩]) (.seq (.tidy 0 [2]) .ret))))), [(.sl 2)],false⟩
/- '(*sloth/code.loader).table' -/
def j1a:C:= (.seq (.reg [⟨[],[(8,(.bin .lss (.sl 7) (.sl 6)))],[],none,[0,2,3,6,7],1,[],[],[]⟩]) (.seq (.cond (.sl 8) .skip (.seq (.tidy 1 [0,2,3]) (.exit 0))) (.seq (.block 1 (.regl [⟨[],[],[(.ld 1 false (.fa 0 (.sl 3)))],some (some 12,.calle 102 (.cons (.sl 0) .nil)),[0,2,3,6,7],5,[[],[0],[],[2],[],[2,3,4],[4,5,2,3],[3,2,5,4,6],[6,4,5,2,3,7,0,1],[8,7,6,5,4,3,2,1,0],[0,1,2,3,4,5,6,7,8,9]],[],[(.fa 0 (.sl 3)),(.ld 1 false (.fa 0 (.sl 3))),(.sl 0)]⟩,⟨[],[],[(.ld 1 false (.fa 0 (.sl 3)))],some (some 14,.calle 103 (.cons (.sl 0) .nil)),[0,2,3,6,7,12],1,[],[],[(.fa 0 (.sl 3)),(.ld 1 false (.fa 0 (.sl 3)))]⟩,⟨[(16,.lits 2 (.cons (.set 1 1 (.sl 14) (.set 0 1 (.sl 12) (.agg (.cons (.str []) (.cons (.int .i64 0) .nil))))) .nil))],[],[],some (some 17,.app 2 (.ld 1 false (.fa 0 (.sl 3))) (.sl 16)),[0,2,3,6,7],3,[],[],[]⟩,⟨[],[],[],some (none,.store 1 (.fa 0 (.sl 3)) (.sl 17)),[0,2,3,6,7],2,[],[],[]⟩])) (.reg [⟨[],[(7,(.bin .add (.sl 7) (.int .i64 1)))],[],none,[0,2,3,6],2,[],[],[]⟩]))))
def j09:C:= (.seq (.reg [⟨[],[(32,(.bin .lss (.sl 31) (.sl 30)))],[],none,[0,2,3,4,21,22,30,31],1,[],[],[]⟩]) (.seq (.cond (.sl 32) .skip (.seq (.tidy 1 [0,2,3,4,21,22]) (.exit 4))) (.seq (.block 5 (.regl [⟨[],[],[(.ld 1 false (.fa 2 (.sl 4)))],some (some 36,.calle 104 (.cons (.sl 0) .nil)),[0,2,3,4,21,22,30,31],4,[[],[0],[],[2],[2,3],[3,2,4,0,1],[5,4,3,2,1,0],[0,1,2,3,4,5,6]],[],[(.fa 2 (.sl 4)),(.ld 1 false (.fa 2 (.sl 4)))]⟩,⟨[(37,.lits 3 (.cons (.sl 36) .nil))],[],[],some (some 38,.app 3 (.ld 1 false (.fa 2 (.sl 4))) (.sl 37)),[0,2,3,4,21,22,30,31],2,[],[],[]⟩,⟨[],[],[],some (none,.store 1 (.fa 2 (.sl 4)) (.sl 38)),[0,2,3,4,21,22,30,31],2,[],[],[]⟩])) (.reg [⟨[],[(31,(.bin .add (.sl 31) (.int .i64 1)))],[],none,[0,2,3,4,21,22,30],2,[],[],[]⟩]))))
def j08:C:= (.seq (.reg [⟨[],[(23,(.bin .lss (.sl 22) (.sl 21)))],[],none,[0,2,3,21,22],1,[],[],[]⟩]) (.seq (.cond (.sl 23) .skip (.seq (.tidy 1 [2,3]) (.exit 2))) (.seq (.block 3 (.seq (.reg [⟨[],[],[],some (some 25,.calle 102 (.cons (.sl 0) .nil)),[0,2,3,21,22],2,[],[],[]⟩,⟨[],[],[],some (some 27,.calle 103 (.cons (.sl 0) .nil)),[0,2,3,21,22,25],2,[],[],[]⟩,⟨[(4,.box (.agg (.cons (.str []) (.cons (.int .i64 0) (.cons (.nilsl 3) .nil)))))],[],[],some (none,.store 3 (.sl 4) (.set 1 1 (.sl 27) (.set 0 1 (.sl 25) (.agg (.cons (.str []) (.cons (.int .i64 0) (.cons (.nilsl 3) .nil))))))),[0,2,3,4,21,22],3,[],[],[]⟩]) (.seq (.seq (.reg [⟨[],[],[],some (some 30,.calle 101 (.cons (.sl 0) .nil)),[0,2,3,4,21,22],2,[],[],[]⟩,⟨[],[(31,(.int .i64 0))],[],none,[0,2,3,4,21,22,30],1,[],[],[]⟩]) (.block 4 (.seq (.tidy 1 [0,2,3,4,21,22,30,31]) (.loop (.seq (.tidy 1 [0,2,3,4,21,22,30,31]) j09))))) (.reg [⟨[(44,.lits 3 (.cons (.ld 3 true (.sl 4)) .nil))],[],[],some (some 45,.app 3 (.ld 1 false (.fa 1 (.sl 3))) (.sl 44)),[0,2,3,21,22],5,[],[],[]⟩,⟨[],[],[],some (none,.store 1 (.fa 1 (.sl 3)) (.sl 45)),[0,2,3,21,22],2,[],[],[]⟩])))) (.reg [⟨[],[(22,(.bin .add (.sl 22) (.int .i64 1)))],[],none,[0,2,3,21],2,[],[],[]⟩]))))
def f77:Fun:=⟨ (.seq (.reg [⟨[(2,.box (.agg (.cons (.nilsl 2) (.cons (.nilsl 3) .nil))))],[],[],none,[0,2],1,[],[],[]⟩]) (.seq (.reg [⟨[(3,.box (.agg (.cons (.nilsl 2) (.cons (.nilsl 3) .nil))))],[],[],none,[0,2,3],1,[],[],[]⟩]) (.seq (.seq (.reg [⟨[],[],[],some (some 6,.calle 101 (.cons (.sl 0) .nil)),[0,2,3],2,[],[],[]⟩,⟨[],[(7,(.int .i64 0))],[],none,[0,2,3,6],1,[],[],[]⟩]) (.block 0 (.seq (.tidy 1 [0,2,3,6,7]) (.loop (.seq (.tidy 1 [0,2,3,6,7]) j1a))))) (.seq (.seq (.reg [⟨[],[],[],some (some 21,.calle 101 (.cons (.sl 0) .nil)),[0,2,3],2,[],[],[]⟩,⟨[],[(22,(.int .i64 0))],[],none,[0,2,3,21],1,[],[],[]⟩]) (.block 2 (.seq (.tidy 1 [0,2,3,21,22]) (.loop (.seq (.tidy 1 [0,2,3,21,22]) j08))))) (.seq (.reg [⟨[],[],[],some (none,.store 2 (.sl 2) (.ld 2 true (.sl 3))),[2],2,[],[],[]⟩]) (.seq (.tidy 1 [2]) .ret)))))), [(.ld 2 true (.sl 2))],false⟩
/- 'strings.ReplaceAll' -/
def f88:Fun:=⟨ (.seq (.reg [⟨[],[],[(.str [])],none,[0,1,2],1,[],[],[]⟩]) (.seq (.reg [⟨[],[(6,(.call 106 (.cons (.sl 0) (.cons (.sl 1) (.cons (.sl 2) (.cons (.int .i64 (-1)) .nil))))))],[],none,[],5,[],[],[]⟩]) (.seq (.tidy 0 [6]) .ret))), [(.sl 6)],false⟩
/- 'sloth/code.piece' -/
def f90:Fun:=⟨ (.seq (.reg [⟨[(3,.box (.sl 0))],[],[(.str [])],none,[1,2,3],2,[],[],[]⟩]) (.seq (.seq (.reg [⟨[],[(7,(.sl 1))],[],none,[2,3],1,[],[],[]⟩]) (.block 0 (.seq (.reg [⟨[],[(8,(.bin .eql (.sl 7) (.int .i64 4)))],[],none,[2,3,7],2,[],[],[]⟩]) (.cond (.sl 8) (.seq (.reg [⟨[],[(6,(.call 48 (.cons (.ld 1 false (.fa 0 (.ia 3 (.ld 1 false (.fa 1 (.sl 3))) (.sl 2)))) .nil)))],[],none,[],8,[],[],[]⟩]) (.seq (.tidy 0 [6]) .ret)) (.seq (.reg [⟨[],[(17,(.bin .eql (.sl 7) (.int .i64 5)))],[],none,[2,3,7],2,[],[],[]⟩]) (.cond (.sl 17) (.seq (.reg [⟨[],[(6,(.call 48 (.cons (.ld 1 false (.fa 0 (.ia 2 (.ld 1 false (.fa 0 (.sl 3))) (.sl 2)))) .nil)))],[],none,[],8,[],[],[]⟩]) (.seq (.tidy 0 [6]) .ret)) (.seq (.reg [⟨[],[(26,(.bin .eql (.sl 7) (.int .i64 6)))],[],none,[2],2,[],[],[]⟩]) (.cond (.sl 26) (.seq (.reg [⟨[],[(6,(.ld 1 false (.ia 1 (.call 108 .nil) (.sl 2))))],[],none,[],5,[],[],[]⟩]) (.seq (.tidy 0 [6]) .ret)) .skip)))))))) (.seq (.reg [⟨[],[(6,(.call 49 (.cons (.sl 2) .nil)))],[],none,[],3,[],[],[]⟩]) (.seq (.tidy 0 [6]) .ret)))), [(.sl 6)],false⟩
theorem f90_ok:q0J Go.Proofs.Tryz.prog 90 0 3 f90=true:=by kernel_rfl
/- '(*sloth/code.reader).word' -/
def j00:C:= (.seq (.seq (.reg [⟨[],[(55,(.and (.and (.and (.bin .lss (.ld 1 false (.fa 1 (.fa 0 (.sl 0)))) (.len true (.ld 1 false (.fa 0 (.fa 0 (.sl 0)))))) (.bin .geq (.ix (.ld 1 false (.fa 0 (.fa 0 (.sl 0)))) (.ld 1 false (.fa 1 (.fa 0 (.sl 0))))) (.int .u8 33))) (.bin .leq (.ix (.ld 1 false (.fa 0 (.fa 0 (.sl 0)))) (.ld 1 false (.fa 1 (.fa 0 (.sl 0))))) (.int .u8 126))) (.bin .neq (.ix (.ld 1 false (.fa 0 (.fa 0 (.sl 0)))) (.ld 1 false (.fa 1 (.fa 0 (.sl 0))))) (.int .u8 34))))],[],none,[0,3],46,[[],[0],[0,1],[1,0,2],[],[4],[4,5],[5,4,6],[6,4,5,7],[7,5,4,6,8,2,0,1,3],[3,1,0,2,8,6,4,5,7,9],[9,7,5,4,6,8,2,0,1,3,10],[10,3,1,0,2,8,6,4,5,7,9,11],[11,9,7,5,4,6,8,2,0,1,3,10,12],[12,10,3,1,0,2,8,6,4,5,7,9,11,13],[9,7,5,4,6,8,2,0,1,3,10],[10,3,1,0,2,8,6,4,5,7,9,15],[15,9,7,5,4,6,8,2,0,1,3,10,16],[16,10,3,1,0,2,8,6,4,5,7,9,15,17],[17,15,16,18,13,11,9,7,5,4,6,8,2,0,1,3,10,12,14],[14,12,10,3,1,0,2,8,6,4,5,7,9,11,13,18,16,15,17,19],[19,17,15,16,18,13,11,12,14,20,9,7,5,4,6,8,2,0,1,3,10],[10,3,1,0,2,8,6,4,5,7,9,20,14,12,11,13,18,16,15,17,19,21],[21,19,17,15,16,18,13,11,12,14,20,9,7,5,4,6,8,2,0,1,3,10,22],[22,10,3,1,0,2,8,6,4,5,7,9,20,14,12,11,13,18,16,15,17,19,21,23],[23,21,19,17,15,16,18,13,11,12,14,20,9,7,5,4,6,8,2,0,1,3,10,22,24],[24,22,10,3,1,0,2,8,6,4,5,7,9,20,14,12,11,13,18,16,15,17,19,21,23,25],[21,19,17,15,16,18,13,11,12,14,20,9,7,5,4,6,8,2,0,1,3,10,22],[22,10,3,1,0,2,8,6,4,5,7,9,20,14,12,11,13,18,16,15,17,19,21,27],[27,21,19,17,15,16,18,13,11,12,14,20,9,7,5,4,6,8,2,0,1,3,10,22,28],[28,22,10,3,1,0,2,8,6,4,5,7,9,20,14,12,11,13,18,16,15,17,19,21,27,29],[29,27,28,30,25,23,21,19,17,15,16,18,13,11,12,14,20,9,7,5,4,6,8,2,0,1,3,10,22,24,26],[26,24,22,10,3,1,0,2,8,6,4,5,7,9,20,14,12,11,13,18,16,15,17,19,21,23,25,30,28,27,29,31],[31,29,27,28,30,25,23,24,26,32,21,19,17,15,16,18,13,11,12,14,20,9,7,5,4,6,8,2,0,1,3,10,22],[22,10,3,1,0,2,8,6,4,5,7,9,20,14,12,11,13,18,16,15,17,19,21,32,26,24,23,25,30,28,27,29,31,33],[33,31,29,27,28,30,25,23,24,26,32,21,19,17,15,16,18,13,11,12,14,20,9,7,5,4,6,8,2,0,1,3,10,22,34],[34,22,10,3,1,0,2,8,6,4,5,7,9,20,14,12,11,13,18,16,15,17,19,21,32,26,24,23,25,30,28,27,29,31,33,35],[35,33,31,29,27,28,30,25,23,24,26,32,21,19,17,15,16,18,13,11,12,14,20,9,7,5,4,6,8,2,0,1,3,10,22,34,36],[36,34,22,10,3,1,0,2,8,6,4,5,7,9,20,14,12,11,13,18,16,15,17,19,21,32,26,24,23,25,30,28,27,29,31,33,35,37],[33,31,29,27,28,30,25,23,24,26,32,21,19,17,15,16,18,13,11,12,14,20,9,7,5,4,6,8,2,0,1,3,10,22,34],[34,22,10,3,1,0,2,8,6,4,5,7,9,20,14,12,11,13,18,16,15,17,19,21,32,26,24,23,25,30,28,27,29,31,33,39],[39,33,31,29,27,28,30,25,23,24,26,32,21,19,17,15,16,18,13,11,12,14,20,9,7,5,4,6,8,2,0,1,3,10,22,34,40],[40,34,22,10,3,1,0,2,8,6,4,5,7,9,20,14,12,11,13,18,16,15,17,19,21,32,26,24,23,25,30,28,27,29,31,33,39,41],[41,39,40,42,37,35,33,31,29,27,28,30,25,23,24,26,32,21,19,17,15,16,18,13,11,12,14,20,9,7,5,4,6,8,2,0,1,3,10,22,34,36,38],[38,36,34,22,10,3,1,0,2,8,6,4,5,7,9,20,14,12,11,13,18,16,15,17,19,21,32,26,24,23,25,30,28,27,29,31,33,35,37,42,40,39,41,43],[43,41,39,40,42,37,35,36,38,44,33,31,29,27,28,30,25,23,24,26,32,21,19,17,15,16,18,13,11,12,14,20,9,7,5,4,6,8,2,0,1,3,10,22,34]],[],[]⟩]) (.cond (.sl 55) .skip (.seq (.keep [0,3]) (.exit 0)))) (.block 1 (.reg [⟨[],[],[],some (none,.store 1 (.fa 1 (.fa 0 (.sl 0))) (.bin .add (.ld 1 false (.fa 1 (.fa 0 (.sl 0)))) (.int .i64 1))),[0,3],8,[],[],[]⟩])))
def f96:Fun:=⟨ (.seq (.reg [⟨[],[],[(.str [])],none,[0],1,[],[],[]⟩]) (.seq (.reg [⟨[],[],[],some (some 5,.calle 109 (.cons (.sl 0) .nil)),[0],2,[],[],[]⟩]) (.seq (.reg [⟨[],[(3,(.ld 1 false (.fa 1 (.fa 0 (.sl 0)))))],[],none,[0],5,[],[],[]⟩]) (.seq (.block 0 (.seq (.keep [0,3]) (.loop (.seq (.keep [0,3]) j00)))) (.seq (.seq (.reg [⟨[],[(80,(.and (.bin .eql (.ld 1 false (.fa 1 (.fa 0 (.sl 0)))) (.sl 3)) (.bin .lss (.ld 1 false (.fa 1 (.fa 0 (.sl 0)))) (.len true (.ld 1 false (.fa 0 (.fa 0 (.sl 0))))))))],[],none,[0,3],18,[[],[0],[0,1],[1,0,2],[],[4,2,0,1,3],[3,1,0,2,4,5],[5,4,2,0,1,3,6],[6,3,1,0,2,4,5,7],[7,5,4,2,0,1,3,6,8],[8,6,3,1,0,2,4,5,7,9],[5,4,2,0,1,3,6],[6,3,1,0,2,4,5,11],[11,5,4,2,0,1,3,6,12],[12,6,3,1,0,2,4,5,11,13],[13,11,5,4,2,0,1,3,6,12,14],[14,12,11,13,15,9,7,5,4,2,0,1,3,6,8,10],[10,8,7,9,15,13,11,12,14,16,5,4,2,0,1,3,6]],[],[]⟩]) (.cond (.sl 80) .stuck .skip)) (.seq (.reg [⟨[],[(2,(.cut true true true false 0 (.ld 1 false (.fa 0 (.fa 0 (.sl 0)))) (.sl 3) (.ld 1 false (.fa 1 (.fa 0 (.sl 0)))) .nil))],[],none,[],11,[[],[0],[0,1],[1,0,2],[],[],[5],[5,6],[6,5,7],[7,5,6,8,4,2,0,1,3],[3,1,0,2,4,8,6,5,7,9]],[],[]⟩]) (.seq (.keep [2]) .ret))))))), [(.sl 2)],false⟩
/- '(*sloth/code.reader).name' -/
def j0Z:C:= (.seq (.seq (.reg [⟨[],[(58,(.and (.bin .lss (.ld 1 false (.fa 1 (.fa 0 (.sl 0)))) (.len true (.ld 1 false (.fa 0 (.fa 0 (.sl 0)))))) (.bin .neq (.ix (.ld 1 false (.fa 0 (.fa 0 (.sl 0)))) (.ld 1 false (.fa 1 (.fa 0 (.sl 0))))) (.int .u8 34))))],[],none,[0,3],22,[[],[0],[0,1],[1,0,2],[],[4],[4,5],[5,4,6],[6,4,5,7],[7,5,4,6,8,2,0,1,3],[3,1,0,2,8,6,4,5,7,9],[9,7,5,4,6,8,2,0,1,3,10],[10,3,1,0,2,8,6,4,5,7,9,11],[11,9,7,5,4,6,8,2,0,1,3,10,12],[12,10,3,1,0,2,8,6,4,5,7,9,11,13],[9,7,5,4,6,8,2,0,1,3,10],[10,3,1,0,2,8,6,4,5,7,9,15],[15,9,7,5,4,6,8,2,0,1,3,10,16],[16,10,3,1,0,2,8,6,4,5,7,9,15,17],[17,15,16,18,13,11,9,7,5,4,6,8,2,0,1,3,10,12,14],[14,12,10,3,1,0,2,8,6,4,5,7,9,11,13,18,16,15,17,19],[19,17,15,16,18,13,11,12,14,20,9,7,5,4,6,8,2,0,1,3,10]],[],[]⟩]) (.cond (.sl 58) .skip (.seq (.keep [0,3]) (.exit 0)))) (.seq (.block 1 (.seq (.seq (.reg [⟨[],[(75,(.bin .eql (.ix (.ld 1 false (.fa 0 (.fa 0 (.sl 0)))) (.ld 1 false (.fa 1 (.fa 0 (.sl 0))))) (.int .u8 92)))],[],none,[0,3],10,[[],[0],[0,1],[1,0,2],[],[4],[4,5],[5,4,6],[6,4,5,7,2,0,1,3],[3,1,0,2,7,5,4,6,8]],[],[]⟩]) (.cond (.sl 75) (.seq (.reg [⟨[],[],[],some (none,.store 1 (.fa 1 (.fa 0 (.sl 0))) (.bin .add (.ld 1 false (.fa 1 (.fa 0 (.sl 0)))) (.int .i64 1))),[0,3],8,[],[],[]⟩]) (.seq (.reg [⟨[],[(116,(.or (.bin .eql (.ld 1 false (.fa 1 (.fa 0 (.sl 0)))) (.len true (.ld 1 false (.fa 0 (.fa 0 (.sl 0)))))) (.and (.bin .neq (.ix (.ld 1 false (.fa 0 (.fa 0 (.sl 0)))) (.ld 1 false (.fa 1 (.fa 0 (.sl 0))))) (.int .u8 34)) (.bin .neq (.ix (.ld 1 false (.fa 0 (.fa 0 (.sl 0)))) (.ld 1 false (.fa 1 (.fa 0 (.sl 0))))) (.int .u8 92)))))],[],none,[0,3],34,[[],[0],[0,1],[1,0,2],[],[4],[4,5],[5,4,6],[6,4,5,7],[7,5,4,6,8,2,0,1,3],[3,1,0,2,8,6,4,5,7,9],[9,7,5,4,6,8,2,0,1,3,10],[10,3,1,0,2,8,6,4,5,7,9,11],[11,9,7,5,4,6,8,2,0,1,3,10,12],[12,10,3,1,0,2,8,6,4,5,7,9,11,13],[9,7,5,4,6,8,2,0,1,3,10],[10,3,1,0,2,8,6,4,5,7,9,15],[15,9,7,5,4,6,8,2,0,1,3,10,16],[16,10,3,1,0,2,8,6,4,5,7,9,15,17],[17,15,16,18,13,11,9,7,5,4,6,8,2,0,1,3,10,12,14],[14,12,10,3,1,0,2,8,6,4,5,7,9,11,13,18,16,15,17,19],[19,17,15,16,18,13,11,9,7,5,4,6,8,2,0,1,3,10,12,14,20],[20,14,12,10,3,1,0,2,8,6,4,5,7,9,11,13,18,16,15,17,19,21],[21,19,17,15,16,18,13,11,9,7,5,4,6,8,2,0,1,3,10,12,14,20,22],[22,20,14,12,10,3,1,0,2,8,6,4,5,7,9,11,13,18,16,15,17,19,21,23],[23,21,19,17,15,16,18,13,11,9,7,5,4,6,8,2,0,1,3,10,12,14,20,22,24],[20,14,12,10,3,1,0,2,8,6,4,5,7,9,11,13,18,16,15,17,19,21],[21,19,17,15,16,18,13,11,9,7,5,4,6,8,2,0,1,3,10,12,14,20,26],[26,20,14,12,10,3,1,0,2,8,6,4,5,7,9,11,13,18,16,15,17,19,21,27],[27,21,19,17,15,16,18,13,11,9,7,5,4,6,8,2,0,1,3,10,12,14,20,26,28],[28,26,27,29,24,22,20,14,12,10,3,1,0,2,8,6,4,5,7,9,11,13,18,16,15,17,19,21,23,25],[25,23,21,19,17,15,16,18,13,11,9,7,5,4,6,8,2,0,1,3,10,12,14,20,22,24,29,27,26,28,30],[30,28,26,27,29,24,22,23,25,31,20,14,12,10,3,1,0,2,8,6,4,5,7,9,11,13,18,16,15,17,19,21],[21,19,17,15,16,18,13,11,12,14,20,31,25,23,22,24,29,27,26,28,30,32,9,7,5,4,6,8,2,0,1,3,10]],[],[]⟩]) (.cond (.sl 116) .stuck .skip))) .skip)) (.reg [⟨[],[],[],some (some 128,.calle 110 (.cons (.sl 3) (.cons (.ix (.ld 1 false (.fa 0 (.fa 0 (.sl 0)))) (.ld 1 false (.fa 1 (.fa 0 (.sl 0))))) .nil))),[0,3],10,[[],[0],[0,1],[1,0,2],[],[4],[4,5],[5,4,6],[6,4,5,7,2,0,1,3],[3,1,0,2,7,5,4,6,8]],[],[]⟩]))) (.reg [⟨[],[],[],some (none,.store 1 (.fa 1 (.fa 0 (.sl 0))) (.bin .add (.ld 1 false (.fa 1 (.fa 0 (.sl 0)))) (.int .i64 1))),[0,3],8,[],[],[]⟩])))
def f97:Fun:=⟨ (.seq (.reg [⟨[],[],[(.str [])],none,[0],1,[],[],[]⟩]) (.seq (.reg [⟨[],[],[],some (some 5,.calle 109 (.cons (.sl 0) .nil)),[0],2,[],[],[]⟩]) (.seq (.reg [⟨[(3,.bld 78 5)],[],[],none,[0,3],1,[],[],[]⟩]) (.seq (.seq (.reg [⟨[],[(27,(.or (.bin .eql (.ld 1 false (.fa 1 (.fa 0 (.sl 0)))) (.len true (.ld 1 false (.fa 0 (.fa 0 (.sl 0)))))) (.bin .neq (.ix (.ld 1 false (.fa 0 (.fa 0 (.sl 0)))) (.ld 1 false (.fa 1 (.fa 0 (.sl 0))))) (.int .u8 34))))],[],none,[0,3],22,[[],[0],[0,1],[1,0,2],[],[4],[4,5],[5,4,6],[6,4,5,7],[7,5,4,6,8,2,0,1,3],[3,1,0,2,8,6,4,5,7,9],[9,7,5,4,6,8,2,0,1,3,10],[10,3,1,0,2,8,6,4,5,7,9,11],[11,9,7,5,4,6,8,2,0,1,3,10,12],[12,10,3,1,0,2,8,6,4,5,7,9,11,13],[9,7,5,4,6,8,2,0,1,3,10],[10,3,1,0,2,8,6,4,5,7,9,15],[15,9,7,5,4,6,8,2,0,1,3,10,16],[16,10,3,1,0,2,8,6,4,5,7,9,15,17],[17,15,16,18,13,11,9,7,5,4,6,8,2,0,1,3,10,12,14],[14,12,10,3,1,0,2,8,6,4,5,7,9,11,13,18,16,15,17,19],[19,17,15,16,18,13,11,12,14,20,9,7,5,4,6,8,2,0,1,3,10]],[],[]⟩]) (.cond (.sl 27) .stuck .skip)) (.seq (.seq (.reg [⟨[],[],[],some (none,.store 1 (.fa 1 (.fa 0 (.sl 0))) (.bin .add (.ld 1 false (.fa 1 (.fa 0 (.sl 0)))) (.int .i64 1))),[0,3],8,[],[],[]⟩]) (.block 0 (.seq (.keep [0,3]) (.loop (.seq (.keep [0,3]) j0Z))))) (.seq (.seq (.reg [⟨[],[(139,(.bin .eql (.ld 1 false (.fa 1 (.fa 0 (.sl 0)))) (.len true (.ld 1 false (.fa 0 (.fa 0 (.sl 0)))))))],[],some (some 140,.calle 52 (.cons (.sl 3) .nil)),[0,3],12,[[],[0],[0,1],[1,0,2],[],[4],[4,5],[5,4,6],[6,4,5,7],[7,5,4,6,8,2,0,1,3],[3,1,0,2,8,6,4,5,7,9],[9,7,5,4,6,8,2,0,1,3,10],[10,3,1,0,2,8,6,4,5,7,9,11],[11,9,7,5,4,6,8,2,0,1,3,10,12],[12,11,13,9,7,5,4,6,8,2,0,1,3,10]],[((.bin .eql (.ld 1 false (.fa 1 (.fa 0 (.sl 0)))) (.len true (.ld 1 false (.fa 0 (.fa 0 (.sl 0)))))),false)],[]⟩,⟨[],[(143,(.or (.sl 139) (.un .not (.call 35 (.cons (.sl 140) .nil)))))],[],none,[0,3],3,[],[],[]⟩]) (.cond (.sl 143) .stuck .skip)) (.seq (.reg [⟨[],[],[],some (none,.store 1 (.fa 1 (.fa 0 (.sl 0))) (.bin .add (.ld 1 false (.fa 1 (.fa 0 (.sl 0)))) (.int .i64 1))),[3],8,[],[],[]⟩]) (.seq (.reg [⟨[],[],[],some (some 153,.calle 52 (.cons (.sl 3) .nil)),[],1,[],[],[]⟩,⟨[],[(2,(.sl 153))],[],none,[],1,[],[],[]⟩]) (.seq (.keep [2]) .ret))))))))), [(.sl 2)],false⟩
/- '(*sloth/code.reader).number' -/
def f98:Fun:=⟨ (.seq (.reg [⟨[],[],[(.int .i64 0)],none,[0],1,[],[],[]⟩]) (.seq (.reg [⟨[],[],[],some (some 7,.calle 96 (.cons (.sl 0) .nil)),[],2,[],[],[]⟩,⟨[],[(3,(.sl 7))],[],none,[],1,[],[],[]⟩]) (.seq (.reg [⟨[],[(4,(.ext 0 (.call 111 (.cons (.sl 3) .nil)))),(5,(.ext 1 (.call 111 (.cons (.sl 3) .nil))))],[],none,[3],7,[],[],[]⟩]) (.seq (.seq (.reg [⟨[],[(28,(.or (.or (.or (.eqs true false [5] (.sl 5) .nilif) (.bin .neq (.call 49 (.cons (.sl 4) .nil)) (.sl 3))) (.bin .lss (.sl 4) (.int .i64 (-4611686018427387904)))) (.bin .gtr (.sl 4) (.int .i64 4611686018427387903))))],[],none,[4],16,[],[],[]⟩]) (.cond (.sl 28) .stuck .skip)) (.seq (.reg [⟨[],[(2,(.sl 4))],[],none,[],2,[],[],[]⟩]) (.seq (.keep [2]) .ret)))))), [(.sl 2)],false⟩
/- '(*sloth/code.reader).instr' -/
def j0Y:C:= (.seq (.block 1 (.seq (.reg [⟨[(10,.box (.agg (.cons (.str []) (.cons (.int .i64 0) (.cons (.int .i64 0) .nil)))))],[(19,(.ext 1 (.call 79 (.cons (.sl 9) .nil))))],[],some (none,.store 3 (.sl 10) (.ext 0 (.call 79 (.cons (.sl 9) .nil)))),[0,1,2,3,8,9,10],7,[],[],[]⟩,⟨[],[(11,(.sl 19))],[],none,[0,1,2,3,8,9,10],1,[],[],[]⟩]) (.seq (.seq (.reg [⟨[],[(21,(.un .not (.sl 11)))],[],none,[0,1,2,3,8,9,10],2,[],[],[]⟩]) (.cond (.sl 21) .stuck .skip)) (.seq (.seq (.reg [⟨[],[(27,(.bin .neq (.ld 1 false (.fa 0 (.sl 10))) (.sl 1)))],[],none,[0,1,2,3,8,9,10],4,[],[],[]⟩]) (.cond (.sl 27) (.seq (.keep [0,1,2,3,8,9]) (.exit 1)) .skip)) (.seq (.reg [⟨[(12,.box (.agg (.cons (.int .i64 0) (.cons (.int .i64 0) (.cons (.int .i64 0) .nil)))))],[],[],some (none,.store 3 (.sl 12) (.set 0 1 (.sl 9) (.agg (.cons (.int .i64 0) (.cons (.int .i64 0) (.cons (.int .i64 0) .nil)))))),[0,2,3,8,10,12],4,[],[],[]⟩]) (.seq (.seq (.reg [⟨[],[(32,(.bin .neq (.ld 1 false (.fa 1 (.sl 10))) (.int .i64 0)))],[],none,[0,2,3,8,10,12],3,[],[],[]⟩]) (.cond (.sl 32) (.reg [⟨[],[],[],some (some 38,.calle 112 (.cons (.sl 0) (.cons (.ld 1 false (.fa 1 (.sl 10))) (.cons (.sl 2) (.cons (.sl 3) .nil))))),[0,8,10,12],6,[],[],[]⟩,⟨[],[],[],some (none,.store 1 (.fa 1 (.sl 12)) (.sl 38)),[0,8,10,12],2,[],[],[]⟩]) .skip)) (.seq (.seq (.reg [⟨[],[(42,(.bin .neq (.ld 1 false (.fa 2 (.sl 10))) (.int .i64 0)))],[],none,[0,8,12],3,[],[],[]⟩]) (.cond (.sl 42) (.reg [⟨[],[],[],some (some 44,.calle 98 (.cons (.sl 0) .nil)),[8,12],2,[],[],[]⟩,⟨[],[],[],some (none,.store 1 (.fa 2 (.sl 12)) (.sl 44)),[8,12],2,[],[],[]⟩]) .skip)) (.seq (.reg [⟨[],[],[],some (none,.store 3 (.sl 8) (.ld 3 true (.sl 12))),[8],2,[],[],[]⟩]) (.seq (.keep [8]) .ret))))))))) (.reg [⟨[],[(9,(.bin .add (.sl 9) (.int .i64 1)))],[],none,[0,1,2,3,8],3,[],[],[]⟩]))
def f99:Fun:=⟨ (.seq (.reg [⟨[(8,.box (.agg (.cons (.int .i64 0) (.cons (.int .i64 0) (.cons (.int .i64 0) .nil)))))],[],[],none,[0,1,2,3,8],1,[],[],[]⟩]) (.seq (.reg [⟨[],[(9,(.int .i64 1))],[],none,[0,1,2,3,8],1,[],[],[]⟩]) (.block 0 (.seq (.keep [0,1,2,3,8,9]) (.loop (.seq (.keep [0,1,2,3,8,9]) j0Y)))))), [(.ld 3 true (.sl 8))],false⟩
/- 'sloth/code.folded' -/
def f100:Fun:=⟨ (.seq (.reg [⟨[],[],[(.int .u64 0)],none,[0],1,[],[],[]⟩]) (.seq (.seq (.reg [⟨[],[(4,(.bin .lss (.sl 0) (.int .i64 0)))],[],none,[0],2,[],[],[]⟩]) (.cond (.sl 4) (.seq (.reg [⟨[],[(2,(.bin .add (.bin .mul (.int .u64 2) (.conv .u64 (.un .neg (.bin .add (.sl 0) (.int .i64 1))))) (.int .u64 1)))],[],none,[],7,[],[],[]⟩]) (.seq (.tidy 0 [2]) .ret)) .skip)) (.seq (.reg [⟨[],[(2,(.bin .mul (.int .u64 2) (.conv .u64 (.sl 0))))],[],none,[],4,[],[],[]⟩]) (.seq (.tidy 0 [2]) .ret)))), [(.sl 2)],false⟩
/- '(*sloth/code.loader).count' -/
def f101:Fun:=⟨ (.seq (.reg [⟨[],[],[(.int .i64 0)],none,[0],1,[],[],[]⟩]) (.seq (.reg [⟨[],[],[],some (some 5,.calle 103 (.cons (.sl 0) .nil)),[0],2,[],[],[]⟩,⟨[],[(3,(.sl 5))],[],none,[0],1,[],[],[]⟩]) (.seq (.seq (.reg [⟨[],[(12,(.bin .gtr (.sl 3) (.len false (.ld 1 false (.fa 0 (.fa 0 (.sl 0)))))))],[],none,[3],7,[],[],[]⟩]) (.cond (.sl 12) .stuck .skip)) (.seq (.reg [⟨[],[(2,(.sl 3))],[],none,[],2,[],[],[]⟩]) (.seq (.tidy 1 [2]) .ret))))), [(.sl 2)],false⟩
/- '(*sloth/code.loader).name' -/
def f102:Fun:=⟨ (.seq (.reg [⟨[],[],[(.str [])],none,[0],1,[],[],[]⟩]) (.seq (.reg [⟨[],[],[],some (some 6,.calle 101 (.cons (.sl 0) .nil)),[0],2,[],[],[]⟩,⟨[],[(3,(.sl 6))],[],none,[0],1,[],[],[]⟩]) (.seq (.reg [⟨[],[(4,(.b2s (.cut false false true false 1 (.ld 1 false (.fa 0 (.fa 0 (.sl 0)))) .nil (.sl 3) .nil)))],[],none,[0,3],8,[],[],[]⟩]) (.seq (.reg [⟨[],[],[],some (none,.store 1 (.fa 0 (.fa 0 (.sl 0))) (.cut false true false false 1 (.ld 1 false (.fa 0 (.fa 0 (.sl 0)))) (.sl 3) .nil .nil)),[4],10,[],[],[]⟩]) (.seq (.reg [⟨[],[(2,(.sl 4))],[],none,[],2,[],[],[]⟩]) (.seq (.tidy 1 [2]) .ret)))))), [(.sl 2)],false⟩
/- '(*sloth/code.loader).number' -/
def f103:Fun:=⟨ (.seq (.reg [⟨[],[],[(.int .i64 0)],none,[0],1,[],[],[]⟩]) (.seq (.reg [⟨[],[],[],some (some 5,.calle 113 (.cons (.sl 0) .nil)),[],2,[],[],[]⟩,⟨[],[(3,(.sl 5))],[],none,[],1,[],[],[]⟩]) (.seq (.seq (.reg [⟨[],[(7,(.bin .gtr (.sl 3) (.int .u64 9223372036854775807)))],[],none,[3],2,[],[],[]⟩]) (.cond (.sl 7) .stuck .skip)) (.seq (.reg [⟨[],[(2,(.conv .i64 (.sl 3)))],[],none,[],3,[],[],[]⟩]) (.seq (.tidy 1 [2]) .ret))))), [(.sl 2)],false⟩
/- '(*sloth/code.loader).instr' -/
def f104:Fun:=⟨ (.seq (.reg [⟨[(2,.box (.agg (.cons (.int .i64 0) (.cons (.int .i64 0) (.cons (.int .i64 0) .nil)))))],[],[],none,[0,2],1,[],[],[]⟩]) (.seq (.reg [⟨[],[],[],some (some 7,.calle 103 (.cons (.sl 0) .nil)),[0,2],2,[],[],[]⟩,⟨[(3,.box (.agg (.cons (.int .i64 0) (.cons (.int .i64 0) (.cons (.int .i64 0) .nil)))))],[],[],some (none,.store 3 (.sl 3) (.set 0 1 (.sl 7) (.agg (.cons (.int .i64 0) (.cons (.int .i64 0) (.cons (.int .i64 0) .nil)))))),[0,2,3],3,[],[],[]⟩]) (.seq (.reg [⟨[(4,.box (.agg (.cons (.str []) (.cons (.int .i64 0) (.cons (.int .i64 0) .nil)))))],[(14,(.ext 1 (.call 79 (.cons (.ld 1 false (.fa 0 (.sl 3))) .nil))))],[],some (none,.store 3 (.sl 4) (.ext 0 (.call 79 (.cons (.ld 1 false (.fa 0 (.sl 3))) .nil)))),[0,2,3,4],8,[],[],[]⟩,⟨[],[(5,(.sl 14))],[],none,[0,2,3,4],1,[],[],[]⟩]) (.seq (.block 0 (.seq (.reg [⟨[],[(15,(.un .not (.sl 5)))],[],none,[0,2,3,4],3,[],[],[]⟩]) (.cond (.sl 15) .stuck (.seq (.reg [⟨[],[(20,(.bin .eql (.ld 1 false (.fa 1 (.sl 4))) (.int .i64 3)))],[],none,[0,2,3,4],4,[],[],[]⟩]) (.cond (.sl 20) (.reg [⟨[],[],[],some (some 25,.calle 114 (.cons (.sl 0) .nil)),[0,2,3,4],2,[],[],[]⟩,⟨[],[],[],some (none,.store 1 (.fa 1 (.sl 3)) (.sl 25)),[0,2,3,4],2,[],[],[]⟩]) (.seq (.reg [⟨[],[(27,(.bin .neq (.ld 1 false (.fa 1 (.sl 4))) (.int .i64 0)))],[],none,[0,2,3,4],4,[],[],[]⟩]) (.cond (.sl 27) (.reg [⟨[],[],[],some (some 32,.calle 103 (.cons (.sl 0) .nil)),[0,2,3,4],2,[],[],[]⟩,⟨[],[],[],some (none,.store 1 (.fa 1 (.sl 3)) (.sl 32)),[0,2,3,4],2,[],[],[]⟩]) .skip))))))) (.seq (.seq (.reg [⟨[],[(36,(.bin .neq (.ld 1 false (.fa 2 (.sl 4))) (.int .i64 0)))],[],none,[0,2,3],3,[],[],[]⟩]) (.cond (.sl 36) (.reg [⟨[],[],[],some (some 38,.calle 103 (.cons (.sl 0) .nil)),[2,3],2,[],[],[]⟩,⟨[],[],[],some (none,.store 1 (.fa 2 (.sl 3)) (.sl 38)),[2,3],2,[],[],[]⟩]) .skip)) (.seq (.reg [⟨[],[],[],some (none,.store 3 (.sl 2) (.ld 3 true (.sl 3))),[2],2,[],[],[]⟩]) (.seq (.tidy 1 [2]) .ret))))))), [(.ld 3 true (.sl 2))],false⟩
/- 'strings.Replace' -/
def z9F:C:= (.seq (.reg [⟨[],[(54,(.bin .lss (.sl 53) (.sl 52)))],[],none,[0,1,2,10,11,52,53],1,[],[],[]⟩]) (.seq (.cond (.sl 54) .skip (.seq (.tidy 0 [0,10,11]) (.exit 0))) (.seq (.block 1 (.seq (.reg [⟨[],[(12,(.bin .add (.sl 11) (.call 117 (.cons (.cut true true false false 0 (.sl 0) (.sl 11) .nil .nil) (.cons (.sl 1) .nil)))))],[],none,[0,1,2,10,11,52,53],8,[],[],[]⟩]) (.seq (.reg [⟨[],[],[],some (some 66,.calle 47 (.cons (.sl 10) (.cons (.cut true true true false 0 (.sl 0) (.sl 11) (.sl 12) .nil) .nil))),[0,1,2,10,12,52,53],5,[],[],[]⟩]) (.seq (.reg [⟨[],[],[],some (some 68,.calle 47 (.cons (.sl 10) (.cons (.sl 2) .nil))),[0,1,2,10,12,52,53],2,[],[],[]⟩]) (.reg [⟨[],[(11,(.bin .add (.sl 12) (.len true (.sl 1))))],[],none,[0,1,2,10,52,53],5,[],[],[]⟩]))))) (.reg [⟨[],[(53,(.bin .add (.sl 53) (.int .i64 1)))],[],none,[0,1,2,10,11,52],2,[],[],[]⟩]))))
def z9E:C:= (.seq (.reg [⟨[],[(79,(.bin .lss (.sl 78) (.sl 77)))],[],none,[0,2,10,11,77,78],1,[],[],[]⟩]) (.seq (.cond (.sl 79) .skip (.seq (.tidy 0 [0,10,11]) (.exit 2))) (.seq (.block 3 (.seq (.reg [⟨[],[(14,(.ext 1 (.call 118 (.cons (.cut true true false false 0 (.sl 0) (.sl 11) .nil .nil) .nil))))],[(.ext 0 (.call 118 (.cons (.cut true true false false 0 (.sl 0) (.sl 11) .nil .nil) .nil)))],none,[0,2,10,11,77,78],9,[],[],[]⟩]) (.seq (.reg [⟨[],[(15,(.bin .add (.sl 11) (.sl 14)))],[],none,[0,2,10,11,77,78],4,[],[],[]⟩]) (.seq (.reg [⟨[],[],[],some (some 94,.calle 47 (.cons (.sl 10) (.cons (.cut true true true false 0 (.sl 0) (.sl 11) (.sl 15) .nil) .nil))),[0,2,10,15,77,78],5,[],[],[]⟩]) (.seq (.reg [⟨[],[],[],some (some 96,.calle 47 (.cons (.sl 10) (.cons (.sl 2) .nil))),[0,2,10,15,77,78],2,[],[],[]⟩]) (.reg [⟨[],[(11,(.sl 15))],[],none,[0,2,10,77,78],2,[],[],[]⟩])))))) (.reg [⟨[],[(78,(.bin .add (.sl 78) (.int .i64 1)))],[],none,[0,2,10,11,77],2,[],[],[]⟩]))))
def f106:Fun:=⟨ (.seq (.reg [⟨[],[],[(.str [])],none,[0,1,2,3],1,[],[],[]⟩]) (.seq (.seq (.reg [⟨[],[(22,(.or (.bin .eql (.sl 1) (.sl 2)) (.bin .eql (.sl 3) (.int .i64 0))))],[],none,[0,1,2,3],7,[],[],[]⟩]) (.cond (.sl 22) (.seq (.reg [⟨[],[(8,(.sl 0))],[],none,[],2,[],[],[]⟩]) (.seq (.tidy 0 [8]) .ret)) .skip)) (.seq (.seq (.reg [⟨[],[(9,(.call 115 (.cons (.sl 0) (.cons (.sl 1) .nil))))],[],none,[0,1,2,3],4,[],[],[]⟩]) (.seq (.reg [⟨[],[(28,(.bin .eql (.sl 9) (.int .i64 0)))],[],none,[0,1,2,3,9],2,[],[],[]⟩]) (.cond (.sl 28) (.seq (.reg [⟨[],[(8,(.sl 0))],[],none,[],2,[],[],[]⟩]) (.seq (.tidy 0 [8]) .ret)) (.seq (.reg [⟨[],[(36,(.or (.bin .lss (.sl 3) (.int .i64 0)) (.bin .lss (.sl 9) (.sl 3))))],[],none,[0,1,2,3,9],7,[],[],[]⟩]) (.cond (.sl 36) (.reg [⟨[],[(3,(.sl 9))],[],none,[0,1,2],2,[],[],[]⟩]) .skip))))) (.seq (.reg [⟨[(10,.bld 78 5)],[],[],none,[0,1,2,3,10],1,[],[],[]⟩]) (.seq (.reg [⟨[],[],[(.call 116 (.cons (.sl 10) (.cons (.bin .add (.len true (.sl 0)) (.bin .mul (.sl 3) (.bin .sub (.len true (.sl 2)) (.len true (.sl 1))))) .nil)))],none,[0,1,2,3,10],11,[],[],[]⟩]) (.seq (.reg [⟨[],[(11,(.int .i64 0))],[],none,[0,1,2,3,10],1,[],[],[]⟩]) (.seq (.seq (.reg [⟨[],[(51,(.bin .gtr (.len true (.sl 1)) (.int .i64 0)))],[],none,[0,1,2,3,10,11],3,[],[],[]⟩]) (.cond (.sl 51) (.seq (.reg [⟨[],[(52,(.sl 3)),(53,(.int .i64 0))],[],none,[0,1,2,10,11],2,[],[],[]⟩]) (.block 0 (.seq (.tidy 0 [0,1,2,10,11,52,53]) (.loop (.seq (.tidy 0 [0,1,2,10,11,52,53]) z9F))))) (.seq (.reg [⟨[],[],[],some (some 75,.calle 47 (.cons (.sl 10) (.cons (.sl 2) .nil))),[0,2,3,10,11],2,[],[],[]⟩]) (.seq (.reg [⟨[],[(77,(.bin .sub (.sl 3) (.int .i64 1))),(78,(.int .i64 0))],[],none,[0,2,10,11],3,[],[],[]⟩]) (.block 2 (.seq (.tidy 0 [0,2,10,11,77,78]) (.loop (.seq (.tidy 0 [0,2,10,11,77,78]) z9E)))))))) (.seq (.reg [⟨[],[],[],some (some 102,.calle 47 (.cons (.sl 10) (.cons (.cut true true false false 0 (.sl 0) (.sl 11) .nil .nil) .nil))),[10],4,[],[],[]⟩]) (.seq (.reg [⟨[],[],[],some (some 103,.calle 52 (.cons (.sl 10) .nil)),[],1,[],[],[]⟩,⟨[],[(8,(.sl 103))],[],none,[],1,[],[],[]⟩]) (.seq (.tidy 0 [8]) .ret)))))))))), [(.sl 8)],false⟩
/- 'sloth/code.operators' -/
def f108:Fun:=⟨ (.seq (.reg [⟨[],[],[(.nilsl 1)],none,[],1,[],[],[]⟩]) (.seq (.reg [⟨[(1,.lits 1 (.cons (.str []) (.cons (.str [43]) (.cons (.str [45]) (.cons (.str [42]) (.cons (.str [47]) (.cons (.str [37]) (.cons (.str [61,61]) (.cons (.str [47,61]) (.cons (.str [60]) (.cons (.str [60,61]) (.cons (.str [62]) (.cons (.str [62,61]) .nil)))))))))))))],[(0,(.sl 1))],[],none,[],2,[],[],[]⟩]) (.seq (.tidy 0 [0]) .ret))), [(.sl 0)],false⟩
theorem f108_ok:q0J Go.Proofs.Tryz.prog 108 0 0 f108=true:=by kernel_rfl
/- '(*sloth/code.reader).blanks' -/
def z9D:C:= (.seq (.seq (.reg [⟨[],[(24,(.and (.bin .lss (.ld 1 false (.fa 1 (.fa 0 (.sl 0)))) (.len true (.ld 1 false (.fa 0 (.fa 0 (.sl 0)))))) (.bin .geq (.call 123 (.cons (.str [32,9,10,13]) (.cons (.ix (.ld 1 false (.fa 0 (.fa 0 (.sl 0)))) (.ld 1 false (.fa 1 (.fa 0 (.sl 0))))) .nil))) (.int .i64 0))))],[],none,[0],23,[[],[0],[0,1],[1,0,2],[],[4],[4,5],[5,4,6],[6,4,5,7],[7,5,4,6,8,2,0,1,3],[3,1,0,2,8,6,4,5,7,9],[9,7,5,4,6,8,2,0,1,3,10],[10,3,1,0,2,8,6,4,5,7,9,11],[11,9,7,5,4,6,8,2,0,1,3,10,12],[12,10,3,1,0,2,8,6,4,5,7,9,11,13],[9,7,5,4,6,8,2,0,1,3,10],[10,3,1,0,2,8,6,4,5,7,9,15],[15,9,7,5,4,6,8,2,0,1,3,10,16],[16,10,3,1,0,2,8,6,4,5,7,9,15,17],[17,15,16,18,13,11,9,7,5,4,6,8,2,0,1,3,10,12,14],[14,12,10,3,1,0,2,8,6,4,5,7,9,11,13,18,16,15,17,19],[19,17,15,16,18,13,11,9,7,5,4,6,8,2,0,1,3,10,12,14,20],[20,14,12,11,13,18,16,15,17,19,21,9,7,5,4,6,8,2,0,1,3,10]],[],[]⟩]) (.cond (.sl 24) .skip (.seq (.keep []) (.exit 0)))) (.block 1 (.reg [⟨[],[],[],some (none,.store 1 (.fa 1 (.fa 0 (.sl 0))) (.bin .add (.ld 1 false (.fa 1 (.fa 0 (.sl 0)))) (.int .i64 1))),[0],8,[],[],[]⟩])))
def f109:Fun:=⟨ (.block 0 (.seq (.keep [0]) (.loop (.seq (.keep [0]) z9D)))), [],false⟩
/- '(*sloth/code.reader).piece' -/
def z9C:C:= (.seq (.reg [⟨[],[(37,(.bin .lss (.sl 36) (.sl 35)))],[],none,[0,9,34,35,36],1,[],[],[]⟩]) (.seq (.cond (.sl 37) .skip (.seq (.keep [0]) (.exit 1))) (.seq (.block 2 (.seq (.reg [⟨[],[(10,(.sl 36)),(11,(.ld 1 false (.ia 1 (.sl 34) (.sl 36))))],[],none,[0,9,34,35,36],5,[],[],[]⟩]) (.seq (.reg [⟨[],[(47,(.and (.bin .eql (.sl 11) (.sl 9)) (.bin .gtr (.sl 10) (.int .i64 0))))],[],none,[0,9,10,34,35,36],7,[],[],[]⟩]) (.cond (.sl 47) (.seq (.reg [⟨[],[(8,(.sl 10))],[],none,[],2,[],[],[]⟩]) (.seq (.keep [8]) .ret)) .skip)))) (.reg [⟨[],[(36,(.bin .add (.sl 36) (.int .i64 1)))],[],none,[0,9,34,35],2,[],[],[]⟩]))))
def f112:Fun:=⟨ (.seq (.reg [⟨[],[],[(.int .i64 0)],none,[0,1,2,3],1,[],[],[]⟩]) (.seq (.seq (.reg [⟨[],[(12,(.sl 1))],[],none,[0,2,3],1,[],[],[]⟩]) (.block 0 (.seq (.seq (.reg [⟨[],[(13,(.bin .eql (.sl 12) (.int .i64 4)))],[],none,[0,2,3,12],2,[],[],[]⟩]) (.cond (.sl 13) .skip (.reg [⟨[],[(13,(.bin .eql (.sl 12) (.int .i64 5)))],[],none,[0,2,3,12],2,[],[],[]⟩]))) (.cond (.sl 13) (.seq (.regl [⟨[],[],[(.sl 3),(.sl 2),(.ld 1 false (.fa 2 (.fa 0 (.sl 0))))],some (some 24,.calle 97 (.cons (.sl 0) .nil)),[0,2,3],9,[[],[],[1],[1,2],[2,1,3],[],[],[],[7],[7,8,6,5],[5,6,8,7,9],[9,7,8,6,5,10,3,1,2,4],[11,10,9,8,7,6,5,4,3,2,1,0],[0,1,2,3,4,5,6,7,8,9,10,11,12],[12,11,10,9,8,7,6,5,4,3,2,1,0,13]],[],[(.sl 0),(.fa 0 (.sl 0)),(.fa 2 (.fa 0 (.sl 0))),(.ld 1 false (.fa 2 (.fa 0 (.sl 0)))),(.sl 2),(.sl 3)]⟩,⟨[(26,.lits 3 (.cons (.set 2 1 (.sl 24) (.set 1 1 (.sl 3) (.set 0 1 (.sl 2) (.agg (.cons (.int .i64 0) (.cons (.int .i64 0) (.cons (.str []) .nil))))))) .nil))],[],[],some (some 27,.app 3 (.ld 1 false (.fa 2 (.fa 0 (.sl 0)))) (.sl 26)),[0],3,[],[],[(.sl 0)]⟩,⟨[],[],[],some (none,.store 1 (.fa 2 (.fa 0 (.sl 0))) (.sl 27)),[],3,[],[],[]⟩]) (.seq (.reg [⟨[],[(8,(.int .i64 0))],[],none,[],1,[],[],[]⟩]) (.seq (.keep [8]) .ret))) (.seq (.reg [⟨[],[(30,(.bin .eql (.sl 12) (.int .i64 6)))],[],none,[0],2,[],[],[]⟩]) (.cond (.sl 30) (.seq (.reg [⟨[],[],[],some (some 33,.calle 96 (.cons (.sl 0) .nil)),[0],2,[],[],[]⟩,⟨[],[(9,(.sl 33))],[],none,[0],1,[],[],[]⟩]) (.seq (.seq (.reg [⟨[],[(34,(.call 108 .nil)),(35,(.len false (.call 108 .nil))),(36,(.int .i64 0))],[],none,[0,9],3,[],[],[]⟩]) (.block 1 (.seq (.keep [0,9,34,35,36]) (.loop (.seq (.keep [0,9,34,35,36]) z9C))))) .stuck)) .skip)))))) (.seq (.reg [⟨[],[],[],some (some 53,.calle 98 (.cons (.sl 0) .nil)),[],2,[],[],[]⟩,⟨[],[(8,(.sl 53))],[],none,[],1,[],[],[]⟩]) (.seq (.keep [8]) .ret)))), [(.sl 8)],false⟩
/- '(*sloth/code.loader).folded' -/
def z9B:C:= (.seq (.seq (.reg [⟨[],[(7,(.bin .lss (.sl 4) (.int .i64 64)))],[],none,[0,2,3,4],2,[],[],[]⟩]) (.cond (.sl 7) .skip (.seq (.tidy 1 [2]) (.exit 0)))) (.seq (.block 1 (.seq (.reg [⟨[],[],[],some (some 11,.calle 126 (.cons (.sl 0) .nil)),[0,2,3,4],2,[],[],[]⟩,⟨[],[(5,(.sl 11))],[],none,[0,2,3,4],1,[],[],[]⟩]) (.seq (.seq (.reg [⟨[],[(25,(.or (.and (.bin .eql (.sl 4) (.int .i64 63)) (.bin .gtr (.sl 5) (.int .u8 1))) (.and (.bin .gtr (.sl 4) (.int .i64 0)) (.bin .eql (.sl 5) (.int .u8 0)))))],[],none,[0,2,3,4,5],14,[],[],[]⟩]) (.cond (.sl 25) .stuck .skip)) (.seq (.reg [⟨[],[(3,(.bin .or (.sl 3) (.sh true (.conv .u64 (.bin .and (.sl 5) (.int .u8 127))) (.sl 4))))],[],none,[0,2,4,5],8,[],[],[]⟩]) (.seq (.reg [⟨[],[(36,(.bin .lss (.sl 5) (.int .u8 128)))],[],none,[0,2,3,4],2,[],[],[]⟩]) (.cond (.sl 36) (.seq (.reg [⟨[],[(2,(.sl 3))],[],none,[],2,[],[],[]⟩]) (.seq (.tidy 1 [2]) .ret)) .skip)))))) (.reg [⟨[],[(4,(.bin .add (.sl 4) (.int .i64 7)))],[],none,[0,2,3],3,[],[],[]⟩])))
def f113:Fun:=⟨ (.seq (.reg [⟨[],[(2,(.int .u64 0))],[],none,[0],1,[],[],[]⟩]) (.seq (.reg [⟨[],[(3,(.int .u64 0))],[],none,[0,2],1,[],[],[]⟩]) (.seq (.seq (.reg [⟨[],[(4,(.int .i64 0))],[],none,[0,2,3],1,[],[],[]⟩]) (.block 0 (.seq (.tidy 1 [0,2,3,4]) (.loop (.seq (.tidy 1 [0,2,3,4]) z9B))))) .stuck))), [(.sl 2)],false⟩
/- '(*sloth/code.loader).signed' -/
def f114:Fun:=⟨ (.seq (.reg [⟨[],[],[(.int .i64 0)],none,[0],1,[],[],[]⟩]) (.seq (.reg [⟨[],[],[],some (some 5,.calle 113 (.cons (.sl 0) .nil)),[],2,[],[],[]⟩,⟨[],[(3,(.sl 5))],[],none,[],1,[],[],[]⟩]) (.seq (.seq (.reg [⟨[],[(8,(.bin .eql (.bin .and (.sl 3) (.int .u64 1)) (.int .u64 1)))],[],none,[3],3,[],[],[]⟩]) (.cond (.sl 8) (.seq (.reg [⟨[],[(2,(.bin .sub (.un .neg (.conv .i64 (.sh false (.sl 3) (.int .u64 1)))) (.int .i64 1)))],[],none,[],6,[],[],[]⟩]) (.seq (.tidy 1 [2]) .ret)) .skip)) (.seq (.reg [⟨[],[(2,(.conv .i64 (.sh false (.sl 3) (.int .u64 1))))],[],none,[],4,[],[],[]⟩]) (.seq (.tidy 1 [2]) .ret))))), [(.sl 2)],false⟩
/- '(*sloth/code.loader).take' -/
def f126:Fun:=⟨ (.seq (.reg [⟨[],[],[(.int .u8 0)],none,[0],1,[],[],[]⟩]) (.seq (.seq (.reg [⟨[],[(9,(.bin .eql (.len false (.ld 1 false (.fa 0 (.fa 0 (.sl 0))))) (.int .i64 0)))],[],none,[0],6,[],[],[]⟩]) (.cond (.sl 9) .stuck .skip)) (.seq (.reg [⟨[],[(3,(.ld 1 false (.ia 1 (.ld 1 false (.fa 0 (.fa 0 (.sl 0)))) (.int .i64 0))))],[],none,[0],7,[],[],[]⟩]) (.seq (.reg [⟨[],[],[],some (none,.store 1 (.fa 0 (.fa 0 (.sl 0))) (.cut false true false false 1 (.ld 1 false (.fa 0 (.fa 0 (.sl 0)))) (.int .i64 1) .nil .nil)),[3],9,[],[],[]⟩]) (.seq (.reg [⟨[],[(2,(.sl 3))],[],none,[],2,[],[],[]⟩]) (.seq (.tidy 1 [2]) .ret)))))), [(.sl 2)],false⟩
def eB8:List Blk→Option (List UInt8)
  |[.map [(.nils 78,.bsl 1 0 n)],.map [(.emps 5,.d false .nilp),(.str bytes,.d false .nilp)]]=>if n=bytes.length∧n≤1000000 then some bytes else none
  |_=>none
theorem z1k{bs:List Blk}{bytes:List UInt8}(h:eB8 bs=some bytes):bs=[bldB 78 1 bytes.length,bufB 5 bytes]∧bytes.length≤1000000:=by
  unfold eB8 at h
  split at h
  · split at h
    · rename_i hc
      obtain⟨h1,h2⟩:=hc
      simp only[Option.some.injEq] at h
      subst h
      subst h1
      exact⟨rfl,h2⟩
    · cases h
  · cases h
def j1W:FuncId→List V→List Blk→Option (V×List Blk×List Nat)
  |110,[.ptr 0 0 0,.d false (.int .u8 c)],bs=>match eB8 bs with
    |some bytes=>if 0≤c∧c<256 then some (.d false .nilif,[bldB 78 1 (bytes++[UInt8.ofNat c.toNat]).length,bufB 5 (bytes++[UInt8.ofNat c.toNat])],[1]) else none
    |none=>none
  |47,[.ptr 0 0 0,.d false (.str s)],bs=>match eB8 bs with
    |some bytes=>if s.length≤1000000 then some (.tup [.d false (.int .i64 s.length),.d false .nilif],[bldB 78 1 (bytes++s).length,bufB 5 (bytes++s)],[1]) else none
    |none=>none
  |51,[.ptr 0 0 0],bs=>match eB8 bs with
    |some bytes=>some (.d false (.int .i64 bytes.length),[bldB 78 1 bytes.length,bufB 5 bytes],[])
    |none=>none
  |52,[.ptr 0 0 0],bs=>match eB8 bs with
    |some bytes=>some (.d false (.str bytes),[bldB 78 1 bytes.length,bufB 5 bytes],[1])
    |none=>none
  |_,_,_=>none
theorem z2n:∀ n:Nat,n<10→Lib.itoa n=[UInt8.ofNat (48+n)]:=by
  intro n h
  unfold Lib.itoa
  rw[if_neg (by omega),Int.toNat_natCast,Lib.decDigits]
  simp [h]
theorem z2J:∀ n:Nat,n<10→Lib.atoi [UInt8.ofNat (48+n)]=some (n:Int):=by decide
def z8j:FuncId→List V→Option (V×List Blk)
  |49,[.d _ (.int .i64 n)]=>if 0≤n∧n<10 then some (.d false (.str [UInt8.ofNat (48+n.toNat)]),[]) else none
  |111,[.d _ (.str [c])]=>if 48≤c.toNat∧c.toNat<58 then some (.tup [.d false (.int .i64 (c.toNat - 48:Nat)),.d false .nilif],[]) else none
  |123,[.d _ (.str s),.d _ (.int .u8 c)]=>if 0≤c∧c<256 then some (.d false (.int .i64 (Lib.indexByte s (UInt8.ofNat c.toNat))),[]) else none
  |115,[.d _ (.str s),.d _ (.str [c])]=>some (.d false (.int .i64 (s.count c)),[])
  |_,_=>none
def KS8:Cx:=⟨z8j,j1W,GT,fun _=>false,[]⟩
theorem z5L:KS8.Sound Tryz.prog:=by
  refine⟨fun f args r news h=>?_,fun f args r news h=>(by cases h),fun f args blks r blks' mv h=>?_⟩
  · simp only[KS8] at h ⊢
    unfold z8j at h
    split at h
    · refine⟨by kernel_rfl,?_⟩
      split at h
      · rename_i a n hc
        simp only[Option.some.injEq,Prod.mk.injEq] at h
        obtain⟨rfl,rfl⟩:=h
        have e:=z2n n.toNat (by omega)
        have e2:((n.toNat:Nat):Int)=n:=by omega
        rw[e2] at e
        rw[←e]
        exact z3Y n a (by omega) (by omega)
      · cases h
    · refine⟨by kernel_rfl,?_⟩
      split at h
      · rename_i a c hc
        simp only[Option.some.injEq,Prod.mk.injEq] at h
        obtain⟨rfl,rfl⟩:=h
        have e:=z2J (c.toNat - 48) (by omega)
        have e2:UInt8.ofNat (48+(c.toNat - 48))=c:=by
          rw[show 48+(c.toNat - 48)=c.toNat by omega];simp
        rw[e2] at e
        exact z3Z [c] a _ (by simp) e
      · cases h
    · refine⟨by kernel_rfl,?_⟩
      split at h
      · rename_i a s b c hc
        simp only[Option.some.injEq,Prod.mk.injEq] at h
        obtain⟨rfl,rfl⟩:=h
        have:=z17 s (UInt8.ofNat c.toNat) a b
        have e:((UInt8.ofNat c.toNat).toNat:Int)=c:=by
          rw[UInt8.toNat_ofNat'];omega
        rw[e] at this
        exact this
      · cases h
    · refine⟨by kernel_rfl,?_⟩
      simp only[Option.some.injEq,Prod.mk.injEq] at h
      obtain⟨rfl,rfl⟩:=h
      exact z18 _ _ _ _
    · cases h
  · simp only[KS8] at h ⊢
    unfold j1W at h
    split at h
    · refine⟨by kernel_rfl,?_⟩
      split at h
      · rename_i bytes hb
        obtain⟨rfl,hl⟩:=z1k hb
        split at h
        · rename_i c _ hc
          simp only[Option.some.injEq,Prod.mk.injEq] at h
          obtain⟨rfl,rfl,rfl⟩:=h
          have:=q8i (G:=GT) tB_wb bytes (UInt8.ofNat c.toNat) (by omega)
          have e:((UInt8.ofNat c.toNat).toNat:Int)=c:=by
            rw[UInt8.toNat_ofNat'];omega
          rw[e] at this
          exact this
        · cases h
      · cases h
    · refine⟨by kernel_rfl,?_⟩
      split at h
      · rename_i bytes hb
        obtain⟨rfl,hl⟩:=z1k hb
        split at h
        · simp only[Option.some.injEq,Prod.mk.injEq] at h
          obtain⟨rfl,rfl,rfl⟩:=h
          exact q6Y tB_ws bytes _ (by omega)
        · cases h
      · cases h
    · refine⟨by kernel_rfl,?_⟩
      split at h
      · rename_i bytes hb
        obtain⟨rfl,hl⟩:=z1k hb
        simp only[Option.some.injEq,Prod.mk.injEq] at h
        obtain⟨rfl,rfl,rfl⟩:=h
        exact z9P Tryz.lays170 bytes
      · cases h
    · refine⟨by kernel_rfl,?_⟩
      split at h
      · rename_i bytes hb
        obtain⟨rfl,hl⟩:=z1k hb
        simp only[Option.some.injEq,Prod.mk.injEq] at h
        obtain⟨rfl,rfl,rfl⟩:=h
        exact z2B Tryz.lays169 Tryz.Builder_Extra_169 bytes
      · cases h
    · cases h
end Go.Vm
end

section
namespace Go.Vm
set_option maxRecDepth 20000
open Go.Proofs
def h2(a b:Table):List (Nat×Blk):=[(0,.mix 2 [tabV a]),(1,.mix 2 [tabV b])]
def noV:Ex×S:=(.ret,⟨[(4,.d false (.bool false))],[],0,[]⟩)
def y0(a b:Table)(r:Bool):Ex×S:=if r then(.exit 0,⟨[(2,.ptr 0 0 0),(3,.ptr 1 0 0)],h2 a b,2,[]⟩) else noV
theorem y0_t(a b):y0 a b true=(.exit 0,⟨[(2,.ptr 0 0 0),(3,.ptr 1 0 0)],h2 a b,2,[]⟩):=rfl
theorem y0_f(a b):y0 a b false=(.ret,⟨[(4,.d false (.bool false))],[],0,[]⟩):=rfl
structure Big(a:Table):Prop where
 sh:(a.shapes.length:Int)≤9223372036854775807
 gl:(a.globals.length:Int)≤9223372036854775807
 cd:∀ g∈a.globals,(g.code.length:Int)≤9223372036854775807
theorem z8O(K:Cx)(a b:Table)(ha:Big a)(hab:a.shapes.length=b.shapes.length):∀(k i:Nat),i+k=a.shapes.length→
  lp K 0 [2,3,5] f15_L0 ⟨[(2,.ptr 0 0 0),(3,.ptr 1 0 0),(5,.d false (.int .i64 i))],h2 a b,2,[]⟩=some (y0 a b (decide (a.shapes.drop i=b.shapes.drop i))):=by
 have hl:=ha.sh
 intro k
 induction k with
 |zero=>
  intro i hi
  rw[q0I f15_L0.eq_1,List.drop_of_length_le (by omega),List.drop_of_length_le (by omega)]
  simp only[decide_true,y0_t,h2,tabV]
  simp(disch:=first|decide|omega|(simp only[LN];first|done|omega)) only[SV,SW,Nat.reduceBEq,reduceCtorEq,Nat.reduceAdd]
 |succ k ih=>
  intro i hi
  have hcast:((i+1:Nat):Int)=(i:Int)+1:=by omega
  have ih:=ih (i+1) (by omega)
  rw[hcast] at ih
  rw[q0I f15_L0.eq_1,q0F (by omega:i<a.shapes.length),q0F (by omega:i<b.shapes.length)]
  generalize hx:nth a.shapes (i:Int)=x
  generalize hy:nth b.shapes (i:Int)=y
  by_cases e:x=y
  ·subst e
   rw[show decide (x :: a.shapes.drop (i+1)=x :: b.shapes.drop (i+1))=decide (a.shapes.drop (i+1)=b.shapes.drop (i+1)) by simp]
   simp only[h2,tabV] at ih ⊢
   simp(disch:=first|decide|omega|(simp only[LN];first|done|omega)) only[SV,SW,Nat.reduceBEq,hx,q0g,Nat.reduceAdd,hy,q1r,q0s,q0D,reduceCtorEq]
   exact ih
  ·have hd:decide (x :: a.shapes.drop (i+1)=y :: b.shapes.drop (i+1))=false:=by simp [e]
   rw[hd,y0_f]
   clear ih
   simp only[h2,tabV]
   by_cases e1:x.name=y.name
   ·have e2:(x.fields==y.fields)=false:=by
     simp only[beq_eq_false_iff_ne];intro e3;apply e;cases x;cases y;simp_all
    clear e
    simp(disch:=first|decide|omega|(simp only[LN];first|done|omega)) only[SV,SW,Nat.reduceBEq,hx,q0g,e1,Nat.reduceAdd,hy,q1r,q0s,q0D,e2]
   ·clear e
    simp(disch:=first|decide|omega|(simp only[LN];first|done|omega)) only[SV,SW,Nat.reduceBEq,hx,q0g,Nat.reduceAdd,hy,q1r,q0s,q0D,e1]
def h4(a b:Table)(g h:Glob):List (Nat×Blk):=[(0,.mix 2 [tabV a]),(1,.mix 2 [tabV b]),(2,.mix 3 [[.d false (.str g.name),.d false (.int .i64 g.arity),.d false (.sl 3 (g.code.map q0j))]]),(3,.mix 3 [[.d false (.str h.name),.d false (.int .i64 h.arity),.d false (.sl 3 (h.code.map q0j))]])]
def y1(a b:Table)(j:Nat)(r:Bool):Ex×S:=if r then(.exit 4,⟨[(2,.ptr 0 0 0),(3,.ptr 1 0 0),(6,.d false (.int .i64 j))],h2 a b,2,[]⟩) else noV
theorem y1_t(a b j):y1 a b j true=(.exit 4,⟨[(2,.ptr 0 0 0),(3,.ptr 1 0 0),(6,.d false (.int .i64 j))],h2 a b,2,[]⟩):=rfl
theorem y1_f(a b j):y1 a b j false=(.ret,⟨[(4,.d false (.bool false))],[],0,[]⟩):=rfl
theorem z8N(K:Cx)(a b:Table)(g h:Glob)(hgh:g.code.length=h.code.length)(hl:(g.code.length:Int)≤9223372036854775807)(j:Nat):∀(k i:Nat),i+k=g.code.length→
  lp K 0 [2,3,6,7,8,9] f15_L1 ⟨[(2,.ptr 0 0 0),(3,.ptr 1 0 0),(6,.d false (.int .i64 j)),(7,.ptr 2 0 0),(8,.ptr 3 0 0),(9,.d false (.int .i64 i))],h4 a b g h,4,[]⟩=some (y1 a b j (decide (g.code.drop i=h.code.drop i))):=by
 intro k
 induction k with
 |zero=>
  intro i hi
  rw[q0I f15_L1.eq_1,List.drop_of_length_le (by omega),List.drop_of_length_le (by omega)]
  simp only[decide_true,y1_t,h4,h2,tabV]
  simp(disch:=first|decide|omega|(simp only[LN];first|done|omega)) only[SV,SW,Nat.reduceBEq,reduceCtorEq,Nat.reduceAdd]
 |succ k ih=>
  intro i hi
  have hcast:((i+1:Nat):Int)=(i:Int)+1:=by omega
  have ih:=ih (i+1) (by omega)
  rw[hcast] at ih
  rw[q0I f15_L1.eq_1,q0F (by omega:i<g.code.length),q0F (by omega:i<h.code.length)]
  generalize hx:nth g.code (i:Int)=x
  generalize hy:nth h.code (i:Int)=y
  by_cases e:x=y
  ·subst e
   rw[show decide (x :: g.code.drop (i+1)=x :: h.code.drop (i+1))=decide (g.code.drop (i+1)=h.code.drop (i+1)) by simp]
   simp only[h4,h2,tabV] at ih ⊢
   simp(disch:=first|decide|omega|(simp only[LN];first|done|omega)) only[SV,SW,Nat.reduceBEq,hx,q0e,Nat.reduceAdd,hy,q1r,q0s,q0D,reduceCtorEq,Nat.reduceEqDiff]
   exact ih
  ·have hd:decide (x :: g.code.drop (i+1)=y :: h.code.drop (i+1))=false:=by simp [e]
   rw[hd,y1_f]
   clear ih
   simp only[h4,h2,tabV]
   by_cases e1:x.op=y.op
   ·by_cases e2:x.a=y.a
    ·have e3:(x.b==y.b)=false:=by
      simp only[beq_eq_false_iff_ne];intro e3;apply e;cases x;cases y;simp_all
     have e2:(x.a==y.a)=true:=by simpa using e2
     have e1:(x.op==y.op)=true:=by simpa using e1
     clear e
     simp(disch:=first|decide|omega|(simp only[LN];first|done|omega)) only[SV,SW,Nat.reduceBEq,hx,q0e,Nat.reduceAdd,hy,q1r,q0s,q0D,e1,e2,e3]
    ·have e2:(x.a==y.a)=false:=by simpa using e2
     have e1:(x.op==y.op)=true:=by simpa using e1
     clear e
     simp(disch:=first|decide|omega|(simp only[LN];first|done|omega)) only[SV,SW,Nat.reduceBEq,hx,q0e,Nat.reduceAdd,hy,q1r,q0s,q0D,e1,e2]
   ·have e1:(x.op==y.op)=false:=by simpa using e1
    clear e
    simp(disch:=first|decide|omega|(simp only[LN];first|done|omega)) only[SV,SW,Nat.reduceBEq,hx,q0e,Nat.reduceAdd,hy,q1r,q0s,q0D,e1]
def y2(r:Bool):Ex×S:=if r then(.exit 2,⟨[],[],0,[]⟩) else noV
theorem y2_t:y2 true=(.exit 2,⟨[],[],0,[]⟩):=rfl
theorem y2_f:y2 false=(.ret,⟨[(4,.d false (.bool false))],[],0,[]⟩):=rfl
set_option maxHeartbeats 1000000 in
theorem z8M(K:Cx)(a b:Table)(ha:Big a)(hab:a.globals.length=b.globals.length):∀(k i:Nat),i+k=a.globals.length→
  lp K 0 [2,3,6] f15_L2 ⟨[(2,.ptr 0 0 0),(3,.ptr 1 0 0),(6,.d false (.int .i64 i))],h2 a b,2,[]⟩=some (y2 (decide (a.globals.drop i=b.globals.drop i))):=by
 have hl:=ha.gl
 intro k
 induction k with
 |zero=>
  intro i hi
  rw[q0I f15_L2.eq_1,List.drop_of_length_le (by omega),List.drop_of_length_le (by omega)]
  simp only[decide_true,y2_t,h2,tabV]
  simp(disch:=first|decide|omega|(simp only[LN];first|done|omega)) only[SV,SW,Nat.reduceBEq]
 |succ k ih=>
  intro i hi
  have hcast:((i+1:Nat):Int)=(i:Int)+1:=by omega
  have ih:=ih (i+1) (by omega)
  rw[hcast] at ih
  rw[q0I f15_L2.eq_1,q0F (by omega:i<a.globals.length),q0F (by omega:i<b.globals.length)]
  have hmem:nth a.globals (i:Int)∈a.globals:=List.mem_of_getElem? (q0U (by omega))
  generalize hx:nth a.globals (i:Int)=x at *
  generalize hy:nth b.globals (i:Int)=y
  have hcd:=ha.cd x hmem
  clear hmem
  by_cases e0:x.name=y.name
  ·have d0:decide (x.name=y.name)=true:=decide_eq_true e0
   by_cases e1:x.arity=y.arity
   ·have e1':(x.arity==y.arity)=true:=by simpa using e1
    have n1:(x.arity != y.arity)=false:=by simp [e1]
    by_cases e2:x.code.length=y.code.length
    ·have n2:((x.code.length:Int) != (y.code.length:Int))=false:=by simp [e2]
     have l1:=z8N K a b x y e2 hcd i x.code.length 0 (by omega)
     simp only[Int.natCast_zero,List.drop_zero] at l1
     have e2':=e2
     clear e2
     by_cases e3:x.code=y.code
     ·have e:x=y:=by cases x;cases y;simp_all
      rw[show decide (x :: a.globals.drop (i+1)=y :: b.globals.drop (i+1))=decide (a.globals.drop (i+1)=b.globals.drop (i+1)) by simp [e]]
      rw[decide_eq_true e3,y1_t] at l1
      clear e e1 e2' e0
      simp only[h4,h2,tabV] at ih l1 ⊢
      simp(disch:=first|decide|omega|(simp only[LN];first|done|omega)) only[SV,SW,Nat.reduceBEq,Nat.reduceAdd,hx,q0k,lose,hy,d0,n1,n2,reduceCtorEq,Nat.reduceEqDiff,l1]
      exact ih
     ·have hd:decide (x :: a.globals.drop (i+1)=y :: b.globals.drop (i+1))=false:=by
       simp only[decide_eq_false_iff_not,List.cons.injEq,not_and];intro e;exact absurd (by rw[e]) e3
      rw[hd,y2_f]
      rw[decide_eq_false e3,y1_f] at l1
      clear e1 e2' ih e3 hd e0
      simp only[h4,h2,tabV] at l1 ⊢
      simp(disch:=first|decide|omega|(simp only[LN];first|done|omega)) only[SV,SW,Nat.reduceBEq,Nat.reduceAdd,hx,q0k,lose,hy,d0,n1,n2,reduceCtorEq,Nat.reduceEqDiff,l1]
    ·have hd:decide (x :: a.globals.drop (i+1)=y :: b.globals.drop (i+1))=false:=by
      simp only[decide_eq_false_iff_not,List.cons.injEq,not_and];intro e;exact absurd (by rw[e]) e2
     have n2:((x.code.length:Int) != (y.code.length:Int))=true:=by simp;omega
     rw[hd,y2_f]
     clear e1 e2 ih hd e0
     simp only[h2,tabV]
     simp(disch:=first|decide|omega|(simp only[LN];first|done|omega)) only[SV,SW,Nat.reduceBEq,Nat.reduceAdd,hx,q0k,lose,hy,d0,n1,n2]
   ·have hd:decide (x :: a.globals.drop (i+1)=y :: b.globals.drop (i+1))=false:=by
     simp only[decide_eq_false_iff_not,List.cons.injEq,not_and];intro e;exact absurd (by rw[e]) e1
    have n1:(x.arity != y.arity)=true:=by simp [e1]
    rw[hd,y2_f]
    clear e1 ih hd e0
    simp only[h2,tabV]
    simp(disch:=first|decide|omega|(simp only[LN];first|done|omega)) only[SV,SW,Nat.reduceBEq,Nat.reduceAdd,hx,q0k,lose,hy,d0,n1]
  ·have hd:decide (x :: a.globals.drop (i+1)=y :: b.globals.drop (i+1))=false:=by
    simp only[decide_eq_false_iff_not,List.cons.injEq,not_and];intro e;exact absurd (by rw[e]) e0
   have d0:decide (x.name=y.name)=false:=decide_eq_false e0
   rw[hd,y2_f]
   clear ih hd e0
   simp only[h2,tabV]
   simp(disch:=first|decide|omega|(simp only[LN];first|done|omega)) only[SV,SW,Nat.reduceBEq,Nat.reduceAdd,hx,q0k,lose,hy,d0]
set_option maxHeartbeats 1000000 in
theorem z9G(K:Cx)(a b:Table)(ha:Big a)(hb:Big b):q0o K f15 [.agg (tabV a),.agg (tabV b)] []=some (.d false (.bool (decide (a=b))),[],[]):=by
 have hne:∀ {x y:Bool},a≠b→decide (a=b)=false:=fun h=>decide_eq_false h
 have b1:=hb.sh
 have b2:=hb.gl
 by_cases hs:a.shapes.length=b.shapes.length
 ·by_cases hg:a.globals.length=b.globals.length
  ·have n1:((a.shapes.length:Int) != (b.shapes.length:Int))=false:=by simp [hs]
   have n2:((a.globals.length:Int) != (b.globals.length:Int))=false:=by simp [hg]
   have l0:=z8O K a b ha hs a.shapes.length 0 (by omega)
   have l2:=z8M K a b ha hg a.globals.length 0 (by omega)
   simp only[Int.natCast_zero,List.drop_zero] at l0 l2
   by_cases e1:a.shapes=b.shapes
   ·rw[decide_eq_true e1,y0_t] at l0
    by_cases e2:a.globals=b.globals
    ·rw[decide_eq_true e2,y2_t] at l2
     rw[show decide (a=b)=true from decide_eq_true (by cases a;cases b;simp_all)]
     clear hs hg e1 e2
     simp only[h2,tabV] at l0 l2 ⊢
     simp(disch:=first|decide|omega|(simp only[LN];first|done|omega)) only[SV,SW,f15,Nat.reduceAdd,Nat.reduceBEq,n1,n2,reduceCtorEq,l0,l2,q0b]
    ·rw[decide_eq_false e2,y2_f] at l2
     rw[show decide (a=b)=false from decide_eq_false (fun h=>e2 (by rw[h]))]
     clear hs hg e1 e2
     simp only[h2,tabV] at l0 l2 ⊢
     simp(disch:=first|decide|omega|(simp only[LN];first|done|omega)) only[SV,SW,f15,Nat.reduceAdd,Nat.reduceBEq,n1,n2,reduceCtorEq,l0,l2,q0b]
   ·rw[decide_eq_false e1,y0_f] at l0
    rw[show decide (a=b)=false from decide_eq_false (fun h=>e1 (by rw[h]))]
    clear hs hg e1 l2
    simp only[h2,tabV] at l0 ⊢
    simp(disch:=first|decide|omega|(simp only[LN];first|done|omega)) only[SV,SW,f15,Nat.reduceAdd,Nat.reduceBEq,n1,n2,reduceCtorEq,l0,q0b]
  ·have n2:((a.globals.length:Int) != (b.globals.length:Int))=true:=by simp;omega
   rw[show decide (a=b)=false from decide_eq_false (fun h=>hg (by rw[h]))]
   have n1:((a.shapes.length:Int) != (b.shapes.length:Int))=false:=by simp [hs]
   clear hs hg
   simp only[tabV]
   simp(disch:=first|decide|omega|(simp only[LN];first|done|omega)) only[SV,SW,f15,Nat.reduceAdd,Nat.reduceBEq,n1,n2,q0b]
 ·have n1:((a.shapes.length:Int) != (b.shapes.length:Int))=true:=by simp;omega
  rw[show decide (a=b)=false from decide_eq_false (fun h=>hs (by rw[h]))]
  clear hs
  simp only[tabV]
  simp(disch:=first|decide|omega|(simp only[LN];first|done|omega)) only[SV,SW,f15,Nat.reduceAdd,Nat.reduceBEq,n1,q0b]
end Go.Vm
end

section
namespace Go.Vm
set_option maxRecDepth 20000
open Go.Proofs
def gL(z:Bool)(L:Gl):Blk:=if L=[] then .dat z 3 [behD,behD] else .mix 3 (L.map rowG++[behG z,behG z])
theorem z6N{p:Nat}{gs:List Glob}:numG p gs=[]↔gs=[]:=by
 cases gs <;> simp [numG]
theorem gB_L(z p gs):gB z p gs=gL z (numG p gs):=by
 unfold gB gL;simp only[z6N]
theorem q72:∀(gs:List Glob)(p:Nat),(numG p gs).map (·.2)=gs
 |[],_=>rfl
 |g :: r,p=>by simp only[numG,List.map_cons,q72 r]
def q7e(p:Nat)(t:Table):Gl:=if t.globals=[] then [] else(numG p (t.globals.map q24)).set (i0 t) (p+(t.globals.length - 1),(q9U t).2)
def q5y(t:Table):Table:=⟨t.shapes,(q7e 2 t).map (·.2)⟩
theorem q8E(p:Nat)(t:Table):(q7e p t).length=t.globals.length:=by
 unfold q7e
 split
 ·rename_i h;simp [h]
 ·simp [q1c]
theorem z8E(z t):q39 z t=gL z (q7e 2 t):=by
 unfold q39 q7e gL
 by_cases h:t.globals=[]
 ·simp only[if_pos h,if_true]
 ·have:¬((numG 2 (t.globals.map q24)).set (i0 t) (2+(t.globals.length - 1),(q9U t).2)=[]):=by
   intro e
   have:=congrArg List.length e
   simp [q1c] at this
   exact h this
  simp only[if_neg h,if_neg this]
  rfl
theorem z6m{H:List (Nat×Blk)}{z:Bool}{q:Nat×Glob}(h:look H q.1=some (cB z q.2)):mapO (q0d 5 H) (rowG q)=some (q0l q.2):=by
 have e:q0d 5 H (.bsx q.1 0 q.2.code.length)=some (.sl 3 (q.2.code.map q0j)):=by
  simp only[q0d,h,cB]
  rw[if_pos (by simp [finI])]
  congr 2
  rw[List.drop_zero,←List.map_take]
  unfold finI
  rw[List.take_append_of_le_length (Nat.le_refl _),List.take_length]
 simp only[rowG,mapO,e]
 rfl
theorem q8B{H:List (Nat×Blk)}{z:Bool}:∀(L:Gl),(∀ q∈L,look H q.1=some (cB z q.2))→mapO (fun r:List V=>mapO (q0d 5 H) r) (L.map rowG)=some (L.map fun q=>q0l q.2)
 |[],_=>rfl
 |q :: L,h=>by
  simp only[List.map_cons,mapO,z6m (h q (by simp)),q8B L fun q hq=>h q (by simp [hq])]
theorem z7T{H:List (Nat×Blk)}{b:Nat}{z:Bool}{L:Gl}(hg:look H b=some (gL z L))(hL:∀ q∈L,look H q.1=some (cB z q.2)):q0d 6 H (.bsx b 0 L.length)=some (.sl 3 (L.map fun q=>q0l q.2)):=by
 unfold gL at hg
 by_cases h:L=[]
 ·subst h
  rw[if_pos rfl] at hg
  simp only[q0d,hg];rfl
 ·rw[if_neg h] at hg
  simp only[q0d,hg]
  rw[if_pos (by simp),List.drop_zero,List.take_append_of_le_length (by simp),List.take_of_length_le (by simp),q8B L hL]
  rfl
theorem z7S{H:List (Nat×Blk)}{b:Nat}{z:Bool}{t:Table}(h:look H b=some (.dat z 2 ((finS t).map q0c))):q0d 6 H (.bsx b 0 t.shapes.length)=some (.sl 2 (t.shapes.map q0c)):=by
 simp only[q0d,h]
 rw[if_pos (by simp [finS])]
 congr 2
 rw[List.drop_zero,←List.map_take]
 unfold finS
 rw[List.take_append_of_le_length (Nat.le_refl _),List.take_length]
theorem j0m{H:List (Nat×Blk)}{z:Bool}{p:Nat}{gs:List Glob}(h:∀ j,j<gs.length→look H (p+j)=some (cB z (nth gs j))):∀ q∈numG p gs,look H q.1=some (cB z q.2):=by
 intro q hq
 obtain⟨j,hj⟩:=List.getElem?_of_mem hq
 rw[q4o] at hj
 have hl:j<gs.length:=by
  rcases Nat.lt_or_ge j gs.length with h|h
  ·exact h
  ·rw[List.getElem?_eq_none h] at hj;cases hj
 rw[q0U hl] at hj
 obtain rfl:=Option.some.inj hj
 exact h j hl
theorem TB.view{H:List (Nat×Blk)}{p:Nat}{z:Bool}{t:Table}(h:TB H p z t):q0d 6 H (.bsx p 0 t.shapes.length)=some (.sl 2 (t.shapes.map q0c))∧q0d 6 H (.bsx (p+1) 0 t.globals.length)=some (.sl 3 (t.globals.map q0l)):=by
 refine⟨z7S h.s,?_⟩
 have hg:=h.g
 rw[gB_L] at hg
 have:=z7T hg (j0m h.c)
 rw[q1c] at this
 rw[this]
 congr 2
 conv=>rhs;rw[←q72 t.globals (p+2)]
 rw[List.map_map];rfl
theorem z6F(g:Nat→Nat)(L:Gl):(L.map rowG).map (renL g)=(L.map fun q=>(g q.1,q.2)).map rowG:=by
 rw[List.map_map,List.map_map];rfl
theorem z4R(g:Nat→Nat)(z:Bool)(L:Gl):(gL z L).ren g=gL z (L.map fun q=>(g q.1,q.2)):=by
 unfold gL
 by_cases h:L=[]
 ·subst h;rfl
 ·rw[if_neg h,if_neg (by simpa using h)]
  simp only[Blk.ren,List.map_append,z6F]
  rfl
theorem z7C(L:Gl):(L.map rowG).map dimL=L.map rowG:=by
 rw[List.map_map];rfl
theorem j0W(z:Bool)(L:Gl):(gL z L).dim=gL false L:=by
 unfold gL
 by_cases h:L=[]
 ·subst h;rfl
 ·rw[if_neg h,if_neg h]
  simp only[Blk.dim,List.map_append,z7C]
  rfl
theorem q73(g:Nat→Nat):∀(gs:List Glob)(p q:Nat),(∀ i,i<gs.length→g (p+i)=q+i)→(numG p gs).map (fun x=>(g x.1,x.2))=numG q gs
 |[],_,_,_=>rfl
 |a :: r,p,q,h=>by
  have h0:=h 0 (by simp)
  simp only[numG,List.map_cons,Nat.add_zero] at h0 ⊢
  rw[h0,q73 g r (p+1) (q+1) fun i hi=>by have:=h (i+1) (by simp;omega);rw[show p+1+i=p+(i+1) by omega,show q+1+i=q+(i+1) by omega];exact this]
theorem TB.handed{H:List (Nat×Blk)}{p:Nat}{z:Bool}{t:Table}(h:TB H p z t):handed H (List.range' p (t.globals.length+2))=some (tblk false 2 t):=by
 unfold Vm.handed
 refine q6u (by simp [q1O]) fun j b hb=>?_
 obtain⟨hj,rfl⟩:=z8U _ _ _ _ hb
 match j,hj with
 |0,_=>simp only[Nat.add_zero,h.s];rfl
 |1,_=>
  show(look H (p+1)).map _=some (gB false 2 t.globals)
  rw[h.g,gB_L,gB_L]
  simp only[Option.map_some,j0W,z4R]
  congr 2
  exact q73 (List.range' p (t.globals.length+2)).idxOf t.globals (p+2) 2 fun i hi=>by rw[show p+2+i=p+(2+i) by omega];exact q98 (by omega)
 |j+2,hj=>
  rw[show p+(j+2)=p+2+j by omega,h.c j (by omega)]
  simp only[tblk,List.getElem?_cons_succ,List.getElem?_map,q0U (show j<t.globals.length by omega),Option.map_some]
  rfl
theorem z4Q(pr:Nat→Bool)(z:Bool)(L:Gl)(h:∀ q∈L,pr q.1=true):(gL z L).within pr=true:=by
 unfold gL
 by_cases he:L=[]
 ·rw[if_pos he];rfl
 ·rw[if_neg he]
  simp only[Blk.within,List.all_append,Bool.and_eq_true,List.all_eq_true]
  refine⟨fun r hr=>?_,fun r hr=>?_⟩
  ·obtain⟨q,hq,rfl⟩:=List.mem_map.1 hr
   simp only[rowG,withinL,V.within,h q hq,Bool.and_self]
  ·simp only[List.mem_cons,List.not_mem_nil,or_false,or_self] at hr
   subst hr;rfl
theorem TB.closed{H:List (Nat×Blk)}{p:Nat}{z:Bool}{t:Table}(h:TB H p z t):closedB H (List.range' p (t.globals.length+2))=true:=by
 unfold closedB
 rw[List.all_eq_true]
 intro b hb
 rw[List.mem_range'_1] at hb
 obtain⟨j,rfl⟩:∃ j,b=p+j:=⟨b - p,by omega⟩
 match j,hb with
 |0,_=>simp only[Nat.add_zero,h.s];rfl
 |1,_=>
  simp only[h.g,gB_L]
  exact z4Q _ _ _ fun q hq=>by have:=q5K _ _ q hq;rw[q1w,decide_eq_true_eq];omega
 |j+2,hb=>
  rw[show p+(j+2)=p+2+j by omega]
  simp only[h.c j (by omega),cB];rfl
theorem z5p{C:Cx}{H:List (Nat×Blk)}{p nx:Nat}{z:Bool}{t:Table}{f:FuncId}{r:V}{blks':List Blk}(hT:TB H p z t)(hC:C.eff f [.agg [.bsx 0 0 t.shapes.length,.bsx 1 0 t.globals.length]] (tblk false 2 t)=some (r,blks',[]))(hl:blks'.length=t.globals.length+2) :
  q5C C nx H f [.agg [.bsx p 0 t.shapes.length,.bsx (p+1) 0 t.globals.length]] (List.range' p (t.globals.length+2))=some (putAll H (q0E (List.range' p (t.globals.length+2)) nx) 0 blks',r.ren (q0E (List.range' p (t.globals.length+2)) nx),.many [],nx):=by
 have c0:(List.range' p (t.globals.length+2)).contains p=true:=by rw[q1w,decide_eq_true_eq];omega
 have c1:(List.range' p (t.globals.length+2)).contains (p+1)=true:=by rw[q1w,decide_eq_true_eq];omega
 have x0:(List.range' p (t.globals.length+2)).idxOf p=0:=by have:=q98 (p:=p) (m:=t.globals.length+2) (j:=0) (by omega);rwa [Nat.add_zero] at this
 have x1:(List.range' p (t.globals.length+2)).idxOf (p+1)=1:=q98 (by omega)
 have hnd:(List.range' p (t.globals.length+2)).Nodup:=List.nodup_range' (step:=1)
 unfold q5C
 simp only[hnd,decide_true,List.all_cons,List.all_nil,V.within,withinL,c0,c1,hT.closed,Bool.and_self,if_true,hT.handed,List.map_cons,List.map_nil,V.dim,dimL,V.ren,renL,x0,x1,hC,hl,List.length_range',Nat.le_refl,q3I,Nat.sub_self,Nat.add_zero]
theorem q2c(g:Nat→Nat)(b:Nat):∀(l:List Blk)(k:Nat)(H:List (Nat×Blk)),(∀ j,j<l.length→g (k+j)≠b)→look (putAll H g k l) b=look H b
 |[],_,_,_=>rfl
 |x :: l,k,H,h=>by
  simp only[putAll]
  rw[q2c g b l (k+1) _ fun j hj=>by have:=h (j+1) (by simp;omega);rwa [show k+(j+1)=k+1+j by omega] at this]
  exact q0a _ _ (by have:=h 0 (by simp);simpa using this)
theorem q3M(g:Nat→Nat):∀(l:List Blk)(k:Nat)(H:List (Nat×Blk)),(∀ i j,i<l.length→j<l.length→g (k+i)=g (k+j)→i=j)→∀ j x,l[j]? = some x→look (putAll H g k l) (g (k+j))=some (x.ren g)
 |[],_,_,_,j,x,hx=>by simp at hx
 |y :: l,k,H,h,0,x,hx=>by
  obtain rfl:y=x:=by simpa using hx
  simp only[putAll]
  rw[q2c g _ l (k+1) _ fun j hj e=>by have:=h (j+1) 0 (by simp;omega) (by simp) (by rw[show k+(j+1)=k+1+j by omega];exact e);omega]
  exact q0u _ _ _
 |y :: l,k,H,h,j+1,x,hx=>by
  simp only[putAll]
  rw[show k+(j+1)=k+1+j by omega]
  exact q3M g l (k+1) _ (fun i j hi hj e=>by have:=h (i+1) (j+1) (by simp;omega) (by simp;omega) (by rw[show k+(i+1)=k+1+i by omega,show k+(j+1)=k+1+j by omega];exact e);omega) j x (by simpa using hx)
theorem q7Q{p m nx j:Nat}(h:j<m):q0E (List.range' p m) nx j=p+j:=by
 unfold q0E
 have:(List.range' p m)[j]? = some (p+j):=by simp [h]
 rw[this]
theorem z6H{H:List (Nat×Blk)}{p nx:Nat}{l:List Blk}:(∀ j x,l[j]? = some x→look (putAll H (q0E (List.range' p l.length) nx) 0 l) (p+j)=some (x.ren (q0E (List.range' p l.length) nx)))∧
  ∀ b,b<p∨p+l.length≤b→look (putAll H (q0E (List.range' p l.length) nx) 0 l) b=look H b:=by
 refine⟨fun j x hx=>?_,fun b hb=>?_⟩
 ·have hj:=(List.getElem?_eq_some_iff.1 hx).1
  have:=q3M (q0E (List.range' p l.length) nx) l 0 H (fun i j hi hj e=>by
   rw[Nat.zero_add,Nat.zero_add,q7Q hi,q7Q hj] at e;omega) j x hx
  rwa [Nat.zero_add,q7Q hj] at this
 ·exact q2c _ b l 0 H fun j hj e=>by rw[Nat.zero_add,q7Q hj] at e;omega
theorem TB.back{H:List (Nat×Blk)}{p nx:Nat}{z:Bool}{t:Table}(h:TB H p z t):TB (putAll H (q0E (List.range' p (t.globals.length+2)) nx) 0 (tblk false 2 t)) p false t:=by
 obtain⟨h1,_⟩:=z6H (H:=H) (p:=p) (nx:=nx) (l:=tblk false 2 t)
 rw[q1O] at h1
 refine⟨?_,?_,fun j hj=>?_⟩
 ·have:=h1 0 _ rfl
  exact this
 ·have:=h1 1 _ rfl
  rw[this,gB_L,gB_L,z4R]
  congr 2
  exact q73 (q0E (List.range' p (t.globals.length+2)) nx) t.globals 2 (p+2) fun i hi=>by rw[q7Q (by omega)];omega
 ·have:=h1 (j+2) (cB false (nth t.globals j)) (by simp only[tblk,List.getElem?_cons_succ,List.getElem?_map,q0U hj,Option.map_some])
  rw[show p+2+j=p+(j+2) by omega,this];rfl
theorem z3H{H:List (Nat×Blk)}{p nx:Nat}{t:Table}:q0d 6 (putAll H (q0E (List.range' p (t.globals.length+2)) nx) 0 (q2D t)) (.bsx p 0 t.shapes.length)=some (.sl 2 (t.shapes.map q0c))∧
  q0d 6 (putAll H (q0E (List.range' p (t.globals.length+2)) nx) 0 (q2D t)) (.bsx (p+1) 0 t.globals.length)=some (.sl 3 ((q5y t).globals.map q0l)):=by
 have hl:(q2D t).length=t.globals.length+2:=by simp [q2D]
 obtain⟨h1,_⟩:=z6H (H:=H) (p:=p) (nx:=nx) (l:=q2D t)
 rw[hl] at h1
 have hc:∀ j,j<t.globals.length→look (putAll H (q0E (List.range' p (t.globals.length+2)) nx) 0 (q2D t)) (p+2+j)=some (cB false (q24 (nth t.globals j))):=fun j hj=>by
  have:=h1 (j+2) (cB false (q24 (nth t.globals j))) (by simp only[q2D,List.getElem?_cons_succ,List.getElem?_map,q0U hj,Option.map_some])
  rw[show p+2+j=p+(j+2) by omega,this];rfl
 have hg:=h1 1 _ rfl
 rw[z8E,z4R] at hg
 have hm:∀ x∈q7e 2 t,2≤x.1∧x.1<t.globals.length+2:=by
  intro x hx
  unfold q7e at hx
  split at hx
  ·simp at hx
  ·rename_i hne
   have:=z0m t hne
   rcases List.mem_or_eq_of_mem_set hx with hx|rfl
   ·have:=q5K _ _ x hx
    simp only[List.length_map] at this;omega
   ·simp only;omega
 have he:∀ x∈q7e 2 t,x.2.code=(q24 (nth t.globals (x.1 - 2:Nat))).code:=by
  intro x hx
  unfold q7e at hx
  split at hx
  ·simp at hx
  ·rename_i hne
   have:=z0m t hne
   rcases List.mem_or_eq_of_mem_set hx with hx|rfl
   ·obtain⟨j,hj⟩:=List.getElem?_of_mem hx
    rw[q4o] at hj
    have hlt:j<t.globals.length:=by
     rcases Nat.lt_or_ge j t.globals.length with h|h
     ·exact h
     ·rw[List.getElem?_eq_none (by simpa using h)] at hj;cases hj
    rw[q0U (by simpa using hlt),z6O hlt] at hj
    obtain rfl:=Option.some.inj hj
    simp
   ·simp only[q9U,q24]
    rw[show 2+(t.globals.length - 1) - 2=t.globals.length - 1 by omega,show((t.globals.length:Int) - 1)=((t.globals.length - 1:Nat):Int) by omega]
 refine⟨z7S (h1 0 _ rfl),?_⟩
 have hv:=z7T hg (fun q hq=>by
  obtain⟨x,hx,rfl⟩:=List.mem_map.1 hq
  obtain⟨m1,m2⟩:=hm x hx
  simp only
  rw[q7Q m2]
  have:=hc (x.1 - 2) (by omega)
  rw[show p+2+(x.1 - 2)=p+x.1 by omega] at this
  rw[this,cB,cB,he x hx])
 rw[List.length_map,q8E] at hv
 rw[hv]
 simp only[q5y,List.map_map]
 rfl
end Go.Vm
end

section
namespace Go.Vm
theorem q4c{sh:List Shape}{x:Instr}{d:Int}(g:1≤x.op∧x.op<18)(hd:1≤d):q0t sh x d=(q06 sh x d,q3L sh x d&&decide (q06 sh x d≤8000)):=by
 obtain⟨op,a,b⟩:=x
 rcases z4c g with h|h|h|h|h|h|h|h|h|h|h|h|h|h|h|h|h
 all_goals
  simp only at h
  subst h
  simp [q0t,q06,q3L]
 rotate_right
 ·by_cases h:d=1 <;> simp [h]
 ·by_cases k:8000<a
  ·simp [k];omega
  ·simp [k];omega
end Go.Vm
end

section
namespace Go.Vm
def q1l(ng:Nat)(sh:List Shape)(g:Glob):Int:=
 if q1S ng sh.length g.code.length g.code g.code.length 0=0 then
  if g.code.length=0 then 174 else depL sh g.code g.code.length 0 ((List.replicate g.code.length 0).set 0 (g.arity+1))
 else q1S ng sh.length g.code.length g.code g.code.length 0
def q0B(most:Int):List (List UInt8×Int)→List (List UInt8)→Bool
 |[],_=>true
 |(n,k) :: r,seen=>if q1p n&&!seen.contains n&&decide (0≤k)&&decide (k≤most) then q0B most r (seen++[n]) else false
def q47(sh:List Shape):Nat→Nat→Bool
 |0,_=>true
 |k+1,i=>if i<sh.length∧nth sh i=nth givenS i then q47 sh k (i+1) else false
def q6K(sh:List Shape):Bool:=q47 sh 7 0
def q3P(ng:Nat)(sh:List Shape):List Glob→Int
 |[]=>0
 |g :: r=>if q1l ng sh g=0 then q3P ng sh r else q1l ng sh g
def q5v(t:Table):Int:=
 if q2M t then 4 else
 if q0B 8 (t.shapes.map fun s=>(s.name,s.fields)) []=false then 172 else
 if q6K t.shapes=false then 172 else
 if q0B 24 (t.globals.map fun g=>(g.name,g.arity)) []=false then 172 else
 q3P t.globals.length t.shapes t.globals
theorem q2Z(most:Int):∀(l:List (List UInt8×Int))(seen:List (List UInt8)),q0B most l seen=true→∀ p∈l,q1p p.1=true∧0≤p.2∧p.2≤most:=by
 intro l
 induction l with
 |nil=>intro seen _ p hp;simp at hp
 |cons q l ih=>
  obtain⟨n,k⟩:=q
  intro seen h p hp
  simp only[q0B] at h
  split at h
  ·rename_i hc
   simp only[Bool.and_eq_true,decide_eq_true_eq] at hc
   rcases List.mem_cons.1 hp with rfl|hp
   ·exact⟨hc.1.1.1,hc.1.2,hc.2⟩
   ·exact ih _ h p hp
  ·cases h
theorem z2q:∀(l:List Glob)(n m:Int),q1M l n=some m→∀ g∈l,(g.code.length:Int)≤8000:=by
 intro l
 induction l with
 |nil=>intro n m _ g hg;simp at hg
 |cons q l ih=>
  intro n m h g hg
  simp only[q1M] at h
  split at h
  ·cases h
  ·rcases List.mem_cons.1 hg with rfl|hg
   ·omega
   ·exact ih _ _ h g hg
theorem z1a{t:Table}(h:q2M t=false):t.shapes.length≤2000∧t.globals.length≤2000∧∀ g∈t.globals,g.code.length≤8000:=by
 unfold q2M at h
 cases hg:q1M t.globals 0 with
 |none=>rw[hg] at h;cases h
 |some n=>
  rw[hg] at h
  simp only[Bool.or_eq_false_iff,decide_eq_false_iff_not] at h
  exact⟨by omega,by omega,fun g hm=>by have:=z2q _ _ _ hg g hm;omega⟩
end Go.Vm
end

section
namespace Go.Vm
def K21(K:Cx):Prop:=∀ s:List UInt8,(s.length:Int)≤9223372036854775807→K.call 35 [.d false (.str s)]=some (.d false (.bool (q1p s)),[])
def q58(t:Table)(r:Bool×List (List UInt8)):Ex×S:=if r.1 then(.exit 0,⟨[(1,.ptr 0 0 0),(3,.map 1)],[(0,.mix 2 [[.d false (.sl 2 (t.shapes.map q0c)),.d false (.sl 3 (t.globals.map q0l))]]),(1,.map (q17 r.2))],2,[]⟩) else(.ret,⟨[(2,.d false (.int .i64 172))],[],0,[]⟩)
theorem q1v(t m):q58 t (false,m)=(.ret,⟨[(2,.d false (.int .i64 172))],[],0,[]⟩):=rfl
theorem q57(t m):q58 t (true,m)=(.exit 0,⟨[(1,.ptr 0 0 0),(3,.map 1)],[(0,.mix 2 [[.d false (.sl 2 (t.shapes.map q0c)),.d false (.sl 3 (t.globals.map q0l))]]),(1,.map (q17 m))],2,[]⟩):=rfl
theorem q92(K:Cx)(h21:K21 K)(t:Table)(hl:t.shapes.length≤2000)(hn:∀ s∈t.shapes,(s.name.length:Int)≤9223372036854775807):∀(k i:Nat)(seen:List (List UInt8)),i+k=t.shapes.length→
  lp K 0 [1,3,17,18,19] f13_L0 ⟨[(1,.ptr 0 0 0),(3,.map 1),(17,.d false (.sl 2 (t.shapes.map q0c))),(18,.d false (.int .i64 t.shapes.length)),(19,.d false (.int .i64 i))],[(0,.mix 2 [[.d false (.sl 2 (t.shapes.map q0c)),.d false (.sl 3 (t.globals.map q0l))]]),(1,.map (q17 seen))],2,[]⟩ =
  some (q58 t (q0B 8 ((t.shapes.drop i).map fun s=>(s.name,s.fields)) seen,seen++(t.shapes.drop i).map (·.name))):=by
 intro k
 induction k with
 |zero=>
  intro i seen hi
  rw[q0I f13_L0.eq_1,List.drop_of_length_le (by omega)]
  simp only[List.map_nil,q0B,List.append_nil]
  simp(disch:=first|decide|omega|(simp only[LN];first|done|omega)) only[SV,SW,Nat.reduceBEq,reduceCtorEq,Nat.reduceAdd,q57]
 |succ k ih=>
  intro i seen hi
  have hcast:((i+1:Nat):Int)=(i:Int)+1:=by omega
  have hlt:i<t.shapes.length:=by omega
  rw[q0I f13_L0.eq_1,q0F hlt]
  have hnm:=hn _ (q1h (l:=t.shapes) (i:=(i:Int)) (by omega) (by omega))
  have hc:=h21 _ hnm
  have ih:=fun seen=>ih (i+1) seen (by omega)
  rw[hcast] at ih
  simp only[List.map_cons,q0B]
  generalize hs:nth t.shapes (i:Int)=s at hc hnm
  generalize q1p s.name=b1 at hc
  clear hnm hn
  cases hse:seen.contains s.name with
  |true=>
   cases b1 with
   |false=>
    simp only[Bool.false_and]
    simp(disch:=first|decide|omega|(simp only[LN];first|done|omega)) only[SV,SW,Nat.reduceBEq,Nat.reduceAdd,hs,q0g,lose,q0d,hc,hse,q1v]
   |true=>
    simp only[Bool.not_true,Bool.and_false,Bool.false_and]
    simp(disch:=first|decide|omega|(simp only[LN];first|done|omega)) only[SV,SW,Nat.reduceBEq,Nat.reduceAdd,hs,q0g,lose,q0d,hc,hse,q1v]
  |false=>
   cases b1 with
   |false=>
    simp only[Bool.false_and]
    simp(disch:=first|decide|omega|(simp only[LN];first|done|omega)) only[SV,SW,Nat.reduceBEq,Nat.reduceAdd,hs,q0g,lose,q0d,hc,hse,q1v]
   |true=>
    by_cases g1:0≤s.fields
    ·by_cases g2:s.fields≤8
     ·have ih:=ih (seen++[s.name])
      have e1:decide (0≤s.fields)=true:=by simpa using g1
      have e2:decide (s.fields≤8)=true:=by simpa using g2
      have hset:=q8T s.name seen hse
      simp only[e1,e2,Bool.not_false,Bool.and_self,if_true]
      rw[List.append_assoc] at ih
      simp(disch:=first|decide|omega|(simp only[LN];first|done|omega)) only[SV,SW,Nat.reduceBEq,Nat.reduceAdd,hs,q0g,lose,q0d,hc,hse,q9u,q7k,z4n,hset,z0N,reduceCtorEq]
      exact ih
     ·have e2:decide (s.fields≤8)=false:=by simpa using g2
      simp only[e2,Bool.and_false]
      simp(disch:=first|decide|omega|(simp only[LN];first|done|omega)) only[SV,SW,Nat.reduceBEq,Nat.reduceAdd,hs,q0g,lose,q0d,hc,hse,q1v]
    ·have e2:decide (0≤s.fields)=false:=by simpa using g1
     simp only[e2,Bool.and_false,Bool.false_and]
     simp(disch:=first|decide|omega|(simp only[LN];first|done|omega)) only[SV,SW,Nat.reduceBEq,Nat.reduceAdd,hs,q0g,lose,q0d,hc,hse,q1v]
def q8c(t:Table)(r:Bool):Ex×S:=if r then(.exit 4,⟨[(1,.ptr 0 0 0)],[(0,.mix 2 [[.d false (.sl 2 (t.shapes.map q0c)),.d false (.sl 3 (t.globals.map q0l))]])],1,[]⟩) else(.ret,⟨[(2,.d false (.int .i64 172))],[],0,[]⟩)
theorem q1Z(t):q8c t false=(.ret,⟨[(2,.d false (.int .i64 172))],[],0,[]⟩):=rfl
theorem q7E(t):q8c t true=(.exit 4,⟨[(1,.ptr 0 0 0)],[(0,.mix 2 [[.d false (.sl 2 (t.shapes.map q0c)),.d false (.sl 3 (t.globals.map q0l))]])],1,[]⟩):=rfl
theorem z2r(K:Cx)(h21:K21 K)(t:Table)(hl:t.globals.length≤2000)(hn:∀ s∈t.globals,(s.name.length:Int)≤9223372036854775807):∀(k i:Nat)(seen:List (List UInt8)),i+k=t.globals.length→
  lp K 0 [1,3,72,73,74] f13_L2 ⟨[(1,.ptr 0 0 0),(3,.map 1),(72,.d false (.sl 3 (t.globals.map q0l))),(73,.d false (.int .i64 t.globals.length)),(74,.d false (.int .i64 i))],[(0,.mix 2 [[.d false (.sl 2 (t.shapes.map q0c)),.d false (.sl 3 (t.globals.map q0l))]]),(1,.map (q17 seen))],2,[]⟩ =
  some (q8c t (q0B 24 ((t.globals.drop i).map fun s=>(s.name,s.arity)) seen)):=by
 intro k
 induction k with
 |zero=>
  intro i seen hi
  rw[q0I f13_L2.eq_1,List.drop_of_length_le (by omega)]
  simp only[List.map_nil,q0B]
  simp(disch:=first|decide|omega|(simp only[LN];first|done|omega)) only[SV,SW,Nat.reduceBEq,q7E]
 |succ k ih=>
  intro i seen hi
  have hcast:((i+1:Nat):Int)=(i:Int)+1:=by omega
  have hlt:i<t.globals.length:=by omega
  rw[q0I f13_L2.eq_1,q0F hlt]
  have hnm:=hn _ (q1h (l:=t.globals) (i:=(i:Int)) (by omega) (by omega))
  have hc:=h21 _ hnm
  have ih:=fun seen=>ih (i+1) seen (by omega)
  rw[hcast] at ih
  simp only[List.map_cons,q0B]
  generalize hs:nth t.globals (i:Int)=s at hc hnm
  generalize q1p s.name=b1 at hc
  clear hnm hn
  cases hse:seen.contains s.name with
  |true=>
   cases b1 with
   |false=>
    simp only[Bool.false_and]
    simp(disch:=first|decide|omega|(simp only[LN];first|done|omega)) only[SV,SW,Nat.reduceBEq,Nat.reduceAdd,hs,q0k,lose,q0d,hc,hse,q1Z]
   |true=>
    simp only[Bool.not_true,Bool.and_false,Bool.false_and]
    simp(disch:=first|decide|omega|(simp only[LN];first|done|omega)) only[SV,SW,Nat.reduceBEq,Nat.reduceAdd,hs,q0k,lose,q0d,hc,hse,q1Z]
  |false=>
   cases b1 with
   |false=>
    simp only[Bool.false_and]
    simp(disch:=first|decide|omega|(simp only[LN];first|done|omega)) only[SV,SW,Nat.reduceBEq,Nat.reduceAdd,hs,q0k,lose,q0d,hc,hse,q1Z]
   |true=>
    by_cases g1:0≤s.arity
    ·by_cases g2:s.arity≤24
     ·have ih:=ih (seen++[s.name])
      have e1:decide (0≤s.arity)=true:=by simpa using g1
      have e2:decide (s.arity≤24)=true:=by simpa using g2
      have hset:=q8T s.name seen hse
      simp only[e1,e2,Bool.not_false,Bool.and_self,if_true]
      simp(disch:=first|decide|omega|(simp only[LN];first|done|omega)) only[SV,SW,Nat.reduceBEq,Nat.reduceAdd,hs,q0k,lose,q0d,hc,hse,q9u,q7k,z4n,hset,z0N,reduceCtorEq]
      exact ih
     ·have e2:decide (s.arity≤24)=false:=by simpa using g2
      simp only[e2,Bool.and_false]
      simp(disch:=first|decide|omega|(simp only[LN];first|done|omega)) only[SV,SW,Nat.reduceBEq,Nat.reduceAdd,hs,q0k,lose,q0d,hc,hse,q1Z]
    ·have e2:decide (0≤s.arity)=false:=by simpa using g1
     simp only[e2,Bool.and_false,Bool.false_and]
     simp(disch:=first|decide|omega|(simp only[LN];first|done|omega)) only[SV,SW,Nat.reduceBEq,Nat.reduceAdd,hs,q0k,lose,q0d,hc,hse,q1Z]
def z0o(t:Table)(seen:List (List UInt8))(r:Bool):Ex×S:=if r then(.exit 2,⟨[(1,.ptr 0 0 0),(3,.map 1)],[(0,.mix 2 [[.d false (.sl 2 (t.shapes.map q0c)),.d false (.sl 3 (t.globals.map q0l))]]),(1,.map (q17 seen))],2,[]⟩) else(.ret,⟨[(2,.d false (.int .i64 172))],[],0,[]⟩)
theorem q4v(t m):z0o t m false=(.ret,⟨[(2,.d false (.int .i64 172))],[],0,[]⟩):=rfl
theorem q9l(t m):z0o t m true=(.exit 2,⟨[(1,.ptr 0 0 0),(3,.map 1)],[(0,.mix 2 [[.d false (.sl 2 (t.shapes.map q0c)),.d false (.sl 3 (t.globals.map q0l))]]),(1,.map (q17 m))],2,[]⟩):=rfl
theorem z4O(K:Cx)(t:Table)(hl:t.shapes.length≤2000)(seen:List (List UInt8)):∀(k i:Nat),i+k=7→
  lp K 0 [1,3,48,49,50] f13_L1 ⟨[(1,.ptr 0 0 0),(3,.map 1),(48,.bsl 2 0 7),(49,.d false (.int .i64 7)),(50,.d false (.int .i64 i))],[(0,.mix 2 [[.d false (.sl 2 (t.shapes.map q0c)),.d false (.sl 3 (t.globals.map q0l))]]),(1,.map (q17 seen)),(2,.dat true 2 (givenS.map q0c))],3,[]⟩ =
  some (z0o t seen (q47 t.shapes k i)):=by
 have h7:givenS.length=7:=rfl
 intro k
 induction k with
 |zero=>
  intro i hi
  rw[q0I f13_L1.eq_1]
  simp only[q47]
  simp(disch:=first|decide|omega|(simp only[LN];first|done|omega)) only[SV,SW,Nat.reduceBEq,reduceCtorEq,Nat.reduceAdd,q9l]
 |succ k ih=>
  intro i hi
  have hcast:((i+1:Nat):Int)=(i:Int)+1:=by omega
  have ih:=ih (i+1) (by omega)
  rw[hcast] at ih
  rw[q0I f13_L1.eq_1]
  simp only[q47]
  by_cases g:i<t.shapes.length
  ·generalize hs:nth t.shapes (i:Int)=s
   generalize hg:nth givenS (i:Int)=s'
   by_cases e1:s.name=s'.name
   ·by_cases e2:s.fields=s'.fields
    ·have e:s=s':=by cases s;cases s';simp at e1 e2;subst e1;subst e2;rfl
     rw[if_pos ⟨g,e⟩]
     subst e
     simp(disch:=first|decide|omega|(simp only[LN];first|done|omega)) only[SV,SW,Nat.reduceBEq,Nat.reduceAdd,hg,q0g,lose,hs,q1r,q0s,q0D,reduceCtorEq,Nat.reduceEqDiff]
     exact ih
    ·rw[if_neg (fun h=>e2 (by rw[h.2]))]
     have d2:(s.fields==s'.fields)=false:=by simpa using e2
     clear e2
     simp(disch:=first|decide|omega|(simp only[LN];first|done|omega)) only[SV,SW,Nat.reduceBEq,Nat.reduceAdd,hg,q0g,lose,hs,e1,q1r,q0s,q0D,d2,q4v]
   ·rw[if_neg (fun h=>e1 (by rw[h.2]))]
    have d1:decide (s.name=s'.name)=false:=by simpa using e1
    simp(disch:=first|decide|omega|(simp only[LN];first|done|omega)) only[SV,SW,Nat.reduceBEq,Nat.reduceAdd,hg,q0g,lose,hs,q1r,q0s,q0D,d1,q4v]
  ·rw[if_neg (fun h=>g h.1)]
   simp(disch:=first|decide|omega|(simp only[LN];first|done|omega)) only[SV,SW,Nat.reduceBEq,Nat.reduceAdd,q0g,lose,q4v]
end Go.Vm
end

section
namespace Go.Vm
theorem z0k(K:Cx)(s:List UInt8)(hs:(s.length:Int)≤9223372036854775807):∀(k i:Nat),i+k=s.length→
    lp K 0 [0,5,6] f35_L0 ⟨[(0,.d false (.str s)),(5,.d false (.int .i64 s.length)),(6,.d false (.int .i64 i))],[],0,[]⟩ =
    some (if(s.drop i).all q3q then(.exit 0,⟨[(0,.d false (.str s))],[],0,[]⟩) else(.ret,⟨[(2,.d false (.bool false))],[],0,[]⟩)):=by
  intro k
  induction k with
  |zero=>
    intro i hi
    rw[q0I f35_L0.eq_1,List.drop_of_length_le (by omega)]
    simp(disch:=first|decide|omega|(simp only[LN];first|done|omega)) only[SV,SW,Nat.reduceBEq]
  |succ k ih=>
    intro i hi
    have ih:=ih (i+1) (by omega)
    have hcast:((i+1:Nat):Int)=(i:Int)+1:=by omega
    rw[hcast] at ih
    rw[q0I f35_L0.eq_1,q0F (by omega:i<s.length),List.all_cons]
    generalize hb:nth s (i:Int)=b
    have h0:0≤(b.toNat:Int):=by omega
    by_cases g1:(b.toNat:Int)<32
    · have:q3q b=false:=by simp [q3q];omega
      rw[this]
      simp(disch:=first|decide|omega|(simp only[LN];first|done|omega)) only[SV,SW,Nat.reduceBEq,hb]
    · by_cases g2:126<(b.toNat:Int)
      · have:q3q b=false:=by simp [q3q];omega
        rw[this]
        simp(disch:=first|decide|omega|(simp only[LN];first|done|omega)) only[SV,SW,Nat.reduceBEq,hb]
      · have:q3q b=true:=by simp [q3q];omega
        rw[this]
        simp(disch:=first|decide|omega|(simp only[LN];first|done|omega)) only[SV,SW,Nat.reduceBEq,hb]
        exact ih
theorem z49(K:Cx)(s:List UInt8)(hs:(s.length:Int)≤9223372036854775807):q0o K f35 [.d false (.str s)] []=some (.d false (.bool (q1p s)),[],[]):=by
  have hlp:=z0k K s hs s.length 0 (by omega)
  simp only[Int.natCast_zero,List.drop_zero] at hlp
  unfold q1p
  by_cases h:s.all q3q=true
  · rw[if_pos h] at hlp
    rw[h]
    simp(disch:=first|decide|omega|(simp only[LN];first|done|omega)) only[SV,SW,f35,Nat.reduceBEq,hlp,q0b]
  · rw[if_neg h] at hlp
    rw[Bool.not_eq_true] at h
    rw[h]
    simp(disch:=first|decide|omega|(simp only[LN];first|done|omega)) only[SV,SW,f35,Nat.reduceBEq,hlp,q0b]
theorem z7l(K:Cx):q0o K f36 [] []=some (.bsl 0 0 7,[.dat true 2 (givenS.map q0c)],[]):=by
  simp(disch:=first|decide|omega|(simp only[LN];first|done|omega)) only[SV,SW,f36,Nat.reduceAdd,q0b,hNew,V.forget,V.drop1,V.ref0,V.newR,q0d,givenS,q0g]
theorem z8x{x y:Int}(h:x % 18446744073709551616=y % 18446744073709551616):IntKind.i64.wrap x=IntKind.i64.wrap y:=by
  unfold IntKind.wrap
  have e1:(2:Int) ^ IntKind.i64.bits=18446744073709551616:=by decide
  simp only[e1,h]
theorem z6h(x:Int):IntKind.i64.wrap x % 18446744073709551616=x % 18446744073709551616:=by
  unfold IntKind.wrap
  have e1:(2:Int) ^ IntKind.i64.bits=18446744073709551616:=by decide
  simp only[e1]
  split <;> omega
theorem z0G(n c:Int):IntKind.i64.wrap (IntKind.i64.wrap n+c)=IntKind.i64.wrap (n+c):=by
  refine z8x ?_
  rw[Int.add_emod,z6h,←Int.add_emod]
theorem z2p(K:Cx)(t:Table)(hl:(t.globals.length:Int)≤9223372036854775807)(hb:∀ g∈t.globals,(g.code.length:Int)≤9223372036854775807):∀(k i:Nat)(n v:Int),i+k=t.globals.length→v=IntKind.i64.wrap n→
    lp K 0 [1,3,7,8,9] f34_L0 ⟨[(1,.ptr 0 0 0),(3,.d false (.int .i64 v)),(7,.d false (.sl 3 (t.globals.map q0l))),(8,.d false (.int .i64 t.globals.length)),(9,.d false (.int .i64 i))],[(0,.mix 2 [[.d false (.sl 2 (t.shapes.map q0c)),.d false (.sl 3 (t.globals.map q0l))]])],1,[]⟩ =
    some (match q1M (t.globals.drop i) n with
     |none=>(.ret,⟨[(2,.d false (.bool true))],[],0,[]⟩)
     |some m=>(.exit 0,⟨[(1,.ptr 0 0 0),(3,.d false (.int .i64 (IntKind.i64.wrap m)))],[(0,.mix 2 [[.d false (.sl 2 (t.shapes.map q0c)),.d false (.sl 3 (t.globals.map q0l))]])],1,[]⟩)):=by
  intro k
  induction k with
  |zero=>
    intro i n v hi hv
    rw[q0I f34_L0.eq_1,List.drop_of_length_le (by omega)]
    simp(disch:=first|decide|omega|(simp only[LN];first|done|omega)) only[SV,SW,hv,Nat.reduceBEq,q1M]
  |succ k ih=>
    intro i n v hi hv
    have hlt:i<t.globals.length:=by omega
    have hcast:((i+1:Nat):Int)=(i:Int)+1:=by omega
    rw[q0I f34_L0.eq_1,q0F hlt,q1M]
    have hbg:=hb _ (q1h (l:=t.globals) (i:=(i:Int)) (by omega) (by omega))
    by_cases g1:8000<((nth t.globals i).code.length:Int)
    · rw[if_pos g1]
      clear hv
      simp(disch:=first|decide|omega|(simp only[LN];first|done|omega)) only[SV,SW,Nat.reduceBEq,Nat.reduceAdd,q0k,lose]
    · rw[if_neg g1]
      have ih:=ih (i+1) (n+(nth t.globals i).code.length) (IntKind.i64.wrap (v+(nth t.globals i).code.length)) (by omega) (by rw[hv,z0G])
      rw[hcast] at ih
      clear hv
      simp(disch:=first|decide|omega|(simp only[LN];first|done|omega)) only[SV,SW,Nat.reduceBEq,Nat.reduceAdd,q0k,lose]
      exact ih
theorem z7k(K:Cx)(t:Table)(hl:(t.globals.length:Int)≤9223372036854775807)(hs:(t.shapes.length:Int)≤9223372036854775807)(hb:∀ g∈t.globals,(g.code.length:Int)≤9223372036854775807) :
    q0o K f34 [.agg [.d false (.sl 2 (t.shapes.map q0c)),.d false (.sl 3 (t.globals.map q0l))]] []=some (.d false (.bool (q2M t)),[],[]):=by
  have hlp:=z2p K t hl hb t.globals.length 0 0 0 (by omega) (by decide)
  simp only[Int.natCast_zero,List.drop_zero] at hlp
  unfold q2M
  cases h:q1M t.globals 0 with
  |none=>
    rw[h] at hlp
    simp only at hlp
    simp(disch:=first|decide|omega|(simp only[LN];first|done|omega)) only[SV,SW,f34,Nat.reduceAdd,Nat.reduceBEq,hlp,q0b]
  |some n=>
    have hle:=q9m _ _ _ h
    rw[h] at hlp
    simp only at hlp
    simp only
    by_cases hg:2000<(t.globals.length:Int)
    · clear hle
      simp(disch:=first|decide|omega|(simp only[LN];first|done|omega)) only[SV,SW,f34,Nat.reduceAdd,Nat.reduceBEq,hlp,q0b]
    · rw[z0H (by omega) (by omega)] at hlp
      clear hg
      simp(disch:=first|decide|omega|(simp only[LN];first|done|omega)) only[SV,SW,f34,Nat.reduceAdd,Nat.reduceBEq,hlp,q0b]
end Go.Vm
end

section
namespace Go.Vm
/- 'sloth/slothref17.big' -/
def f38_L0:C:= (.seq (.seq (.reg [⟨[],[(10,(.bin .lss (.sl 4) (.len false (.ld 1 false (.fa 1 (.sl 1))))))],[],none,[1,3,4],5,[],[],[]⟩]) (.cond (.sl 10) .skip (.seq (.tidy 0 [1,3]) (.exit 0)))) (.seq (.block 1 (.seq (.reg [⟨[],[(5,(.len false (.ld 1 false (.fa 2 (.ia 3 (.ld 1 false (.fa 1 (.sl 1))) (.sl 4))))))],[],none,[1,3,4],8,[],[],[]⟩]) (.seq (.seq (.reg [⟨[],[(21,(.bin .gtr (.sl 5) (.int .i64 8000)))],[],none,[1,3,4,5],2,[],[],[]⟩]) (.cond (.sl 21) (.seq (.reg [⟨[],[(2,(.bool true))],[],none,[],1,[],[],[]⟩]) (.seq (.tidy 0 [2]) .ret)) .skip)) (.reg [⟨[],[(3,(.bin .add (.sl 3) (.sl 5)))],[],none,[1,4],4,[],[],[]⟩])))) (.reg [⟨[],[(4,(.bin .add (.sl 4) (.int .i64 1)))],[],none,[1,3],3,[],[],[]⟩])))
def f38:Fun:=⟨ (.seq (.reg [⟨[(1,.box (.sl 0))],[],[(.bool false)],none,[1],2,[],[],[]⟩]) (.seq (.reg [⟨[],[(3,(.int .i64 0))],[],none,[1],1,[],[],[]⟩]) (.seq (.seq (.reg [⟨[],[(4,(.int .i64 0))],[],none,[1,3],1,[],[],[]⟩]) (.block 0 (.seq (.tidy 0 [1,3,4]) (.loop (.seq (.tidy 0 [1,3,4]) f38_L0))))) (.seq (.reg [⟨[],[(2,(.or (.or (.bin .gtr (.len false (.ld 1 false (.fa 0 (.sl 1)))) (.int .i64 2000)) (.bin .gtr (.len false (.ld 1 false (.fa 1 (.sl 1)))) (.int .i64 2000))) (.bin .gtr (.sl 3) (.int .i64 200000))))],[],none,[],15,[],[],[]⟩]) (.seq (.tidy 0 [2]) .ret))))), [(.sl 2)],false⟩
theorem j1o:q0J Go.Proofs.Tryz.prog 38 0 1 f38=true:=by kernel_rfl
/- 'sloth/slothref17.shapes' -/
def f39_L0:C:= (.seq (.seq (.reg [⟨[],[(40,(.bin .lss (.sl 5) (.sl 3)))],[],none,[0,3,5],3,[],[],[]⟩]) (.cond (.sl 40) .skip (.seq (.tidy 0 [0,3]) (.exit 2)))) (.seq (.block 3 (.seq (.reg [⟨[],[(53,(.bin .eql (.ld 1 false (.fa 0 (.ia 2 (.sl 0) (.sl 5)))) (.ld 1 false (.fa 0 (.ia 2 (.sl 0) (.sl 3))))))],[],none,[0,3,5],11,[[],[],[1,0],[0,1,2],[2,1,0,3],[],[],[6,5],[5,6,7],[7,6,5,8],[8,5,6,7,9,3,0,1,2,4]],[],[]⟩]) (.cond (.sl 53) (.seq (.reg [⟨[],[(2,(.int .i64 172))],[],none,[],1,[],[],[]⟩]) (.seq (.tidy 0 [2]) .ret)) .skip))) (.reg [⟨[],[(5,(.bin .add (.sl 5) (.int .i64 1)))],[],none,[0,3],3,[],[],[]⟩])))
def f39_L1:C:= (.seq (.seq (.reg [⟨[],[(11,(.bin .lss (.sl 3) (.len false (.sl 0))))],[],none,[0,3],4,[],[],[]⟩]) (.cond (.sl 11) .skip (.seq (.tidy 0 [0]) (.exit 0)))) (.seq (.block 1 (.seq (.reg [⟨[],[(4,(.call 83 (.cons (.ld 1 false (.fa 0 (.ia 2 (.sl 0) (.sl 3)))) .nil)))],[],none,[0,3],7,[],[],[]⟩]) (.seq (.seq (.reg [⟨[],[(37,(.or (.or (.un .not (.sl 4)) (.bin .lss (.ld 1 false (.fa 1 (.ia 2 (.sl 0) (.sl 3)))) (.int .i64 0))) (.bin .gtr (.ld 1 false (.fa 1 (.ia 2 (.sl 0) (.sl 3)))) (.int .i64 8))))],[],none,[0,3],18,[],[],[]⟩]) (.cond (.sl 37) (.seq (.reg [⟨[],[(2,(.int .i64 172))],[],none,[],1,[],[],[]⟩]) (.seq (.tidy 0 [2]) .ret)) .skip)) (.seq (.reg [⟨[],[(5,(.int .i64 0))],[],none,[0,3],1,[],[],[]⟩]) (.block 2 (.seq (.tidy 0 [0,3,5]) (.loop (.seq (.tidy 0 [0,3,5]) f39_L0)))))))) (.reg [⟨[],[(3,(.bin .add (.sl 3) (.int .i64 1)))],[],none,[0],3,[],[],[]⟩])))
def f39_L2:C:= (.seq (.seq (.reg [⟨[],[(63,(.bin .lss (.sl 7) (.len false (.sl 6))))],[],none,[0,6,7],4,[],[],[]⟩]) (.cond (.sl 63) .skip (.seq (.tidy 0 []) (.exit 4)))) (.seq (.block 5 (.seq (.reg [⟨[],[(74,(.eqs true true [2,0] (.ld 2 true (.ia 2 (.sl 0) (.sl 7))) (.ld 2 true (.ia 2 (.sl 6) (.sl 7)))))],[],none,[0,6,7],9,[[],[],[1,0],[0,1,2],[],[],[5,4],[4,5,6],[6,5,4,7,2,1,0,3]],[],[]⟩]) (.cond (.sl 74) (.seq (.reg [⟨[],[(2,(.int .i64 172))],[],none,[],1,[],[],[]⟩]) (.seq (.tidy 0 [2]) .ret)) .skip))) (.reg [⟨[],[(7,(.bin .add (.sl 7) (.int .i64 1)))],[],none,[0,6],3,[],[],[]⟩])))
def f39:Fun:=⟨ (.seq (.reg [⟨[],[],[(.int .i64 0)],none,[0],1,[],[],[]⟩]) (.seq (.seq (.reg [⟨[],[(3,(.int .i64 0))],[],none,[0],1,[],[],[]⟩]) (.block 0 (.seq (.tidy 0 [0,3]) (.loop (.seq (.tidy 0 [0,3]) f39_L1))))) (.seq (.reg [⟨[(54,.callo 78 .nil)],[(6,(.sl 54))],[],none,[0],2,[],[],[]⟩]) (.seq (.seq (.reg [⟨[],[(59,(.bin .lss (.len false (.sl 0)) (.len false (.sl 6))))],[],none,[0,6],5,[],[],[]⟩]) (.cond (.sl 59) (.seq (.reg [⟨[],[(2,(.int .i64 172))],[],none,[],1,[],[],[]⟩]) (.seq (.tidy 0 [2]) .ret)) .skip)) (.seq (.seq (.reg [⟨[],[(7,(.int .i64 0))],[],none,[0,6],1,[],[],[]⟩]) (.block 4 (.seq (.tidy 0 [0,6,7]) (.loop (.seq (.tidy 0 [0,6,7]) f39_L2))))) (.seq (.reg [⟨[],[(2,(.int .i64 0))],[],none,[],1,[],[],[]⟩]) (.seq (.tidy 0 [2]) .ret))))))), [(.sl 2)],false⟩
theorem j1n:q0J Go.Proofs.Tryz.prog 39 0 1 f39=true:=by kernel_rfl
/- 'sloth/slothref17.heads' -/
def f40_L0:C:= (.seq (.seq (.reg [⟨[],[(38,(.bin .lss (.sl 5) (.sl 3)))],[],none,[0,3,5],3,[],[],[]⟩]) (.cond (.sl 38) .skip (.seq (.tidy 0 [0,3]) (.exit 2)))) (.seq (.block 3 (.seq (.reg [⟨[],[(51,(.bin .eql (.ld 1 false (.fa 0 (.ia 3 (.sl 0) (.sl 5)))) (.ld 1 false (.fa 0 (.ia 3 (.sl 0) (.sl 3))))))],[],none,[0,3,5],11,[[],[],[1,0],[0,1,2],[2,1,0,3],[],[],[6,5],[5,6,7],[7,6,5,8],[8,5,6,7,9,3,0,1,2,4]],[],[]⟩]) (.cond (.sl 51) (.seq (.reg [⟨[],[(2,(.int .i64 172))],[],none,[],1,[],[],[]⟩]) (.seq (.tidy 0 [2]) .ret)) .skip))) (.reg [⟨[],[(5,(.bin .add (.sl 5) (.int .i64 1)))],[],none,[0,3],3,[],[],[]⟩])))
def f40_L1:C:= (.seq (.seq (.reg [⟨[],[(9,(.bin .lss (.sl 3) (.len false (.sl 0))))],[],none,[0,3],4,[],[],[]⟩]) (.cond (.sl 9) .skip (.seq (.tidy 0 []) (.exit 0)))) (.seq (.block 1 (.seq (.reg [⟨[],[(4,(.call 83 (.cons (.ld 1 false (.fa 0 (.ia 3 (.sl 0) (.sl 3)))) .nil)))],[],none,[0,3],7,[],[],[]⟩]) (.seq (.seq (.reg [⟨[],[(35,(.or (.or (.un .not (.sl 4)) (.bin .lss (.ld 1 false (.fa 1 (.ia 3 (.sl 0) (.sl 3)))) (.int .i64 0))) (.bin .gtr (.ld 1 false (.fa 1 (.ia 3 (.sl 0) (.sl 3)))) (.int .i64 24))))],[],none,[0,3],18,[],[],[]⟩]) (.cond (.sl 35) (.seq (.reg [⟨[],[(2,(.int .i64 172))],[],none,[],1,[],[],[]⟩]) (.seq (.tidy 0 [2]) .ret)) .skip)) (.seq (.reg [⟨[],[(5,(.int .i64 0))],[],none,[0,3],1,[],[],[]⟩]) (.block 2 (.seq (.tidy 0 [0,3,5]) (.loop (.seq (.tidy 0 [0,3,5]) f40_L0)))))))) (.reg [⟨[],[(3,(.bin .add (.sl 3) (.int .i64 1)))],[],none,[0],3,[],[],[]⟩])))
def f40:Fun:=⟨ (.seq (.reg [⟨[],[],[(.int .i64 0)],none,[0],1,[],[],[]⟩]) (.seq (.seq (.reg [⟨[],[(3,(.int .i64 0))],[],none,[0],1,[],[],[]⟩]) (.block 0 (.seq (.tidy 0 [0,3]) (.loop (.seq (.tidy 0 [0,3]) f40_L1))))) (.seq (.reg [⟨[],[(2,(.int .i64 0))],[],none,[],1,[],[],[]⟩]) (.seq (.tidy 0 [2]) .ret)))), [(.sl 2)],false⟩
theorem j1m:q0J Go.Proofs.Tryz.prog 40 0 1 f40=true:=by kernel_rfl
/- 'sloth/slothref17.Name' -/
def f83_L0:C:= (.seq (.seq (.reg [⟨[],[(7,(.bin .lss (.sl 3) (.len true (.sl 0))))],[],none,[0,3],4,[],[],[]⟩]) (.cond (.sl 7) .skip (.seq (.tidy 0 [0]) (.exit 0)))) (.seq (.block 1 (.seq (.reg [⟨[],[(19,(.or (.bin .lss (.ix (.sl 0) (.sl 3)) (.int .u8 32)) (.bin .gtr (.ix (.sl 0) (.sl 3)) (.int .u8 126))))],[],none,[0,3],10,[],[],[]⟩]) (.cond (.sl 19) (.seq (.reg [⟨[],[(2,(.bool false))],[],none,[],1,[],[],[]⟩]) (.seq (.tidy 0 [2]) .ret)) .skip))) (.reg [⟨[],[(3,(.bin .add (.sl 3) (.int .i64 1)))],[],none,[0],3,[],[],[]⟩])))
def f83:Fun:=⟨ (.seq (.reg [⟨[],[],[(.bool false)],none,[0],1,[],[],[]⟩]) (.seq (.seq (.reg [⟨[],[(3,(.int .i64 0))],[],none,[0],1,[],[],[]⟩]) (.block 0 (.seq (.tidy 0 [0,3]) (.loop (.seq (.tidy 0 [0,3]) f83_L0))))) (.seq (.reg [⟨[],[(2,(.and (.bin .geq (.len true (.sl 0)) (.int .i64 1)) (.bin .leq (.len true (.sl 0)) (.int .i64 4096))))],[],none,[],9,[],[],[]⟩]) (.seq (.tidy 0 [2]) .ret)))), [(.sl 2)],false⟩
theorem j02:q0J Go.Proofs.Tryz.prog 83 0 1 f83=true:=by kernel_rfl
theorem z2g(K:Cx)(s:List UInt8)(hs:(s.length:Int)≤9223372036854775807):∀(k i:Nat),i+k=s.length→
    lp K 0 [0,3] f83_L0 ⟨[(0,.d false (.str s)),(3,.d false (.int .i64 i))],[],0,[]⟩ =
    some (if(s.drop i).all q3q then(.exit 0,⟨[(0,.d false (.str s))],[],0,[]⟩) else(.ret,⟨[(2,.d false (.bool false))],[],0,[]⟩)):=by
  intro k
  induction k with
  |zero=>
    intro i hi
    rw[q0I f83_L0.eq_1,List.drop_of_length_le (by omega)]
    simp(disch:=first|decide|omega|(simp only[LN];first|done|omega)) only[SV,SW,Nat.reduceBEq]
  |succ k ih=>
    intro i hi
    have ih:=ih (i+1) (by omega)
    have hcast:((i+1:Nat):Int)=(i:Int)+1:=by omega
    rw[hcast] at ih
    rw[q0I f83_L0.eq_1,q0F (by omega:i<s.length),List.all_cons]
    generalize hb:nth s (i:Int)=b
    have h0:0≤(b.toNat:Int):=by omega
    by_cases g1:(b.toNat:Int)<32
    · have:q3q b=false:=by simp [q3q];omega
      rw[this]
      simp(disch:=first|decide|omega|(simp only[LN];first|done|omega)) only[SV,SW,Nat.reduceBEq,hb]
    · by_cases g2:126<(b.toNat:Int)
      · have:q3q b=false:=by simp [q3q];omega
        rw[this]
        simp(disch:=first|decide|omega|(simp only[LN];first|done|omega)) only[SV,SW,Nat.reduceBEq,hb]
      · have:q3q b=true:=by simp [q3q];omega
        rw[this]
        simp(disch:=first|decide|omega|(simp only[LN];first|done|omega)) only[SV,SW,Nat.reduceBEq,hb]
        exact ih
theorem z7h(K:Cx)(s:List UInt8)(hs:(s.length:Int)≤9223372036854775807):q0o K f83 [.d false (.str s)] []=some (.d false (.bool (q1p s)),[],[]):=by
  have hlp:=z2g K s hs s.length 0 (by omega)
  simp only[Int.natCast_zero,List.drop_zero] at hlp
  unfold q1p
  by_cases h:s.all q3q=true
  · rw[if_pos h] at hlp
    rw[h]
    simp(disch:=first|decide|omega|(simp only[LN];first|done|omega)) only[SV,SW,f83,Nat.reduceBEq,hlp,q0b]
  · rw[if_neg h] at hlp
    rw[Bool.not_eq_true] at h
    rw[h]
    simp(disch:=first|decide|omega|(simp only[LN];first|done|omega)) only[SV,SW,f83,Nat.reduceBEq,hlp,q0b]
theorem z2x(K:Cx):q0o K f78 [] []=some (.bsl 0 0 7,[.dat true 2 (givenS.map q0c)],[]):=by
  simp(disch:=first|decide|omega|(simp only[LN];first|done|omega)) only[SV,SW,f78,Nat.reduceAdd,q0b,hNew,V.forget,V.drop1,V.ref0,V.newR,q0d,givenS,q0g]
theorem z5C(K:Cx)(t:Table)(hl:(t.globals.length:Int)≤9223372036854775807)(hb:∀ g∈t.globals,(g.code.length:Int)≤9223372036854775807):∀(k i:Nat)(n v:Int),i+k=t.globals.length→v=IntKind.i64.wrap n→
    lp K 0 [1,3,4] f38_L0 ⟨[(1,.ptr 0 0 0),(3,.d false (.int .i64 v)),(4,.d false (.int .i64 i))],[(0,.mix 2 [[.d false (.sl 2 (t.shapes.map q0c)),.d false (.sl 3 (t.globals.map q0l))]])],1,[]⟩ =
    some (match q1M (t.globals.drop i) n with
     |none=>(.ret,⟨[(2,.d false (.bool true))],[],0,[]⟩)
     |some m=>(.exit 0,⟨[(1,.ptr 0 0 0),(3,.d false (.int .i64 (IntKind.i64.wrap m)))],[(0,.mix 2 [[.d false (.sl 2 (t.shapes.map q0c)),.d false (.sl 3 (t.globals.map q0l))]])],1,[]⟩)):=by
  intro k
  induction k with
  |zero=>
    intro i n v hi hv
    rw[q0I f38_L0.eq_1,List.drop_of_length_le (by omega)]
    simp(disch:=first|decide|omega|(simp only[LN];first|done|omega)) only[SV,SW,hv,Nat.reduceBEq,q1M]
  |succ k ih=>
    intro i n v hi hv
    have hlt:i<t.globals.length:=by omega
    have hcast:((i+1:Nat):Int)=(i:Int)+1:=by omega
    rw[q0I f38_L0.eq_1,q0F hlt,q1M]
    have hbg:=hb _ (q1h (l:=t.globals) (i:=(i:Int)) (by omega) (by omega))
    by_cases g1:8000<((nth t.globals i).code.length:Int)
    · rw[if_pos g1]
      clear hv
      simp(disch:=first|decide|omega|(simp only[LN];first|done|omega)) only[SV,SW,Nat.reduceBEq,q0k]
    · rw[if_neg g1]
      have ih:=ih (i+1) (n+(nth t.globals i).code.length) (IntKind.i64.wrap (v+(nth t.globals i).code.length)) (by omega) (by rw[hv,z0G])
      rw[hcast] at ih
      clear hv
      simp(disch:=first|decide|omega|(simp only[LN];first|done|omega)) only[SV,SW,Nat.reduceBEq,q0k]
      exact ih
theorem z9I(K:Cx)(t:Table)(hl:(t.globals.length:Int)≤9223372036854775807)(hs:(t.shapes.length:Int)≤9223372036854775807)(hb:∀ g∈t.globals,(g.code.length:Int)≤9223372036854775807) :
    q0o K f38 [.agg [.d false (.sl 2 (t.shapes.map q0c)),.d false (.sl 3 (t.globals.map q0l))]] []=some (.d false (.bool (q2M t)),[],[]):=by
  have hlp:=z5C K t hl hb t.globals.length 0 0 0 (by omega) (by decide)
  simp only[Int.natCast_zero,List.drop_zero] at hlp
  unfold q2M
  cases h:q1M t.globals 0 with
  |none=>
    rw[h] at hlp
    simp only at hlp
    simp(disch:=first|decide|omega|(simp only[LN];first|done|omega)) only[SV,SW,f38,Nat.reduceAdd,Nat.reduceBEq,hlp,q0b]
  |some n=>
    have hle:=q9m _ _ _ h
    rw[h] at hlp
    simp only at hlp
    simp only
    by_cases hg:2000<(t.globals.length:Int)
    · clear hle
      simp(disch:=first|decide|omega|(simp only[LN];first|done|omega)) only[SV,SW,f38,Nat.reduceAdd,Nat.reduceBEq,hlp,q0b]
    · rw[z0H (by omega) (by omega)] at hlp
      clear hg
      simp(disch:=first|decide|omega|(simp only[LN];first|done|omega)) only[SV,SW,f38,Nat.reduceAdd,Nat.reduceBEq,hlp,q0b]
def K44(K:Cx):Prop:=∀ s:List UInt8,(s.length:Int)≤9223372036854775807→K.call 83 [.d false (.str s)]=some (.d false (.bool (q1p s)),[])
def K45(K:Cx):Prop:=K.call 78 []=some (.bsl 0 0 7,[.dat true 2 (givenS.map q0c)])
theorem z1W(K:Cx)(l:List Shape)(hl:(l.length:Int)≤9223372036854775807)(i:Nat)(hi:i<l.length):∀(k j:Nat),j+k=i→
    lp K 0 [0,3,5] f39_L0 ⟨[(0,.d false (.sl 2 (l.map q0c))),(3,.d false (.int .i64 i)),(5,.d false (.int .i64 j))],[],0,[]⟩ =
    some (if(((l.take i).drop j).map (·.name)).contains (nth l i).name then(.ret,⟨[(2,.d false (.int .i64 172))],[],0,[]⟩) else(.exit 2,⟨[(0,.d false (.sl 2 (l.map q0c))),(3,.d false (.int .i64 i))],[],0,[]⟩)):=by
  intro k
  induction k with
  |zero=>
    intro j hj
    rw[q0I f39_L0.eq_1,List.drop_of_length_le (by rw[List.length_take];omega)]
    have:j=i:=by omega
    subst this
    simp(disch:=first|decide|omega|(simp only[LN];first|done|omega)) only[SV,SW,Nat.reduceBEq]
  |succ k ih=>
    intro j hj
    have ih:=ih (j+1) (by omega)
    have hcast:((j+1:Nat):Int)=(j:Int)+1:=by omega
    rw[hcast] at ih
    have hjl:j<(l.take i).length:=by rw[List.length_take];omega
    have hnt:nth (l.take i) (j:Int)=nth l (j:Int):=by
      unfold nth
      rw[List.getD_eq_getElem?_getD,List.getD_eq_getElem?_getD,List.getElem?_take]
      rw[if_pos (by omega)]
    rw[q0I f39_L0.eq_1,q0F hjl,hnt,List.map_cons,List.contains_cons]
    by_cases g:(nth l (j:Int)).name=(nth l (i:Int)).name
    · have e1:((nth l (i:Int)).name==(nth l (j:Int)).name)=true:=by simp [g]
      rw[e1]
      simp(disch:=first|decide|omega|(simp only[LN];first|done|omega)) only[SV,SW,Nat.reduceBEq,q0g,g]
    · have e1:((nth l (i:Int)).name==(nth l (j:Int)).name)=false:=by
        simp;exact fun h=>g h.symm
      have e2:decide ((nth l (j:Int)).name=(nth l (i:Int)).name)=false:=by simpa using g
      rw[e1]
      clear g
      simp(disch:=first|decide|omega|(simp only[LN];first|done|omega)) only[SV,SW,Nat.reduceBEq,q0g,e2,Bool.false_or]
      exact ih
def q4T(l:List Shape)(r:Bool):Ex×S:=if r then(.exit 0,⟨[(0,.d false (.sl 2 (l.map q0c)))],[],0,[]⟩) else(.ret,⟨[(2,.d false (.int .i64 172))],[],0,[]⟩)
theorem q1H(t):q4T t false=(.ret,⟨[(2,.d false (.int .i64 172))],[],0,[]⟩):=rfl
theorem q5h(l):q4T l true=(.exit 0,⟨[(0,.d false (.sl 2 (l.map q0c)))],[],0,[]⟩):=rfl
theorem q8H{α:Type} [Inhabited α](l:List α)(i:Nat)(h:i<l.length):l.take i++[nth l (i:Int)]=l.take (i+1):=by
  rw[List.take_add_one,List.getElem?_eq_getElem h]
  congr
  simp [nth,h]
theorem q8S(K:Cx)(h44:K44 K)(l:List Shape)(hl:(l.length:Int)≤9223372036854775807)(hn:∀ s∈l,(s.name.length:Int)≤9223372036854775807):∀(k i:Nat),i+k=l.length→
    lp K 0 [0,3] f39_L1 ⟨[(0,.d false (.sl 2 (l.map q0c))),(3,.d false (.int .i64 i))],[],0,[]⟩ =
    some (q4T l (q0B 8 ((l.drop i).map fun s=>(s.name,s.fields)) ((l.take i).map (·.name)))):=by
  intro k
  induction k with
  |zero=>
    intro i hi
    rw[q0I f39_L1.eq_1,List.drop_of_length_le (by omega)]
    simp only[List.map_nil,q0B]
    simp(disch:=first|decide|omega|(simp only[LN];first|done|omega)) only[SV,SW,Nat.reduceBEq,q5h]
  |succ k ih=>
    intro i hi
    have hcast:((i+1:Nat):Int)=(i:Int)+1:=by omega
    have hlt:i<l.length:=by omega
    have hnm:=hn _ (q1h (l:=l) (i:=(i:Int)) (by omega) (by omega))
    have hc:=h44 _ hnm
    have hw:=z1W K l hl i hlt i 0 (by omega)
    simp only[Int.natCast_zero,List.drop_zero] at hw
    have ih:=ih (i+1) (by omega)
    rw[hcast,←q8H l i hlt,List.map_append,List.map_cons,List.map_nil] at ih
    rw[q0I f39_L1.eq_1,q0F hlt]
    simp only[List.map_cons,q0B]
    generalize hs:nth l (i:Int)=s at hc hnm hw ih
    generalize q1p s.name=b1 at hc
    generalize List.contains (List.map (fun x=>x.name) (List.take i l)) s.name=b2 at hw
    clear hnm hn
    cases b1 with
    |false=>
      simp only[Bool.false_and]
      simp(disch:=first|decide|omega|(simp only[LN];first|done|omega)) only[SV,SW,Nat.reduceBEq,hs,q0g,q0d,hc,q1H]
    |true=>
      by_cases g1:0≤s.fields
      · by_cases g2:s.fields≤8
        · have e1:decide (0≤s.fields)=true:=by simpa using g1
          have e2:decide (s.fields≤8)=true:=by simpa using g2
          cases b2 with
          |true=>
            simp only[Bool.not_true,Bool.and_false,Bool.false_and]
            rw[if_pos rfl] at hw
            simp(disch:=first|decide|omega|(simp only[LN];first|done|omega)) only[SV,SW,Nat.reduceBEq,hs,q0g,q0d,hc,hw,q1H]
          |false=>
            simp only[e1,e2,Bool.not_false,Bool.and_self,if_true]
            rw[if_neg (by simp)] at hw
            simp(disch:=first|decide|omega|(simp only[LN];first|done|omega)) only[SV,SW,Nat.reduceBEq,hs,q0g,q0d,hc,hw]
            exact ih
        · have e2:decide (s.fields≤8)=false:=by simpa using g2
          simp only[e2,Bool.and_false]
          clear hw
          simp(disch:=first|decide|omega|(simp only[LN];first|done|omega)) only[SV,SW,Nat.reduceBEq,hs,q0g,q0d,hc,q1H]
      · have e2:decide (0≤s.fields)=false:=by simpa using g1
        simp only[e2,Bool.and_false,Bool.false_and]
        clear hw
        simp(disch:=first|decide|omega|(simp only[LN];first|done|omega)) only[SV,SW,Nat.reduceBEq,hs,q0g,q0d,hc,q1H]
def q8b(r:Bool):Ex×S:=if r then(.exit 4,⟨[],[],0,[]⟩) else(.ret,⟨[(2,.d false (.int .i64 172))],[],0,[]⟩)
theorem q46:q8b false=(.ret,⟨[(2,.d false (.int .i64 172))],[],0,[]⟩):=rfl
theorem q7C:q8b true=(.exit 4,⟨[],[],0,[]⟩):=rfl
theorem z2o(K:Cx)(l:List Shape)(hl:(l.length:Int)≤9223372036854775807)(h7':7≤l.length):∀(k i:Nat),i+k=7→
    lp K 0 [0,6,7] f39_L2 ⟨[(0,.d false (.sl 2 (l.map q0c))),(6,.bsl 0 0 7),(7,.d false (.int .i64 i))],[(0,.dat true 2 (givenS.map q0c))],1,[]⟩ =
    some (q8b (q47 l k i)):=by
  have h7:givenS.length=7:=rfl
  intro k
  induction k with
  |zero=>
    intro i hi
    rw[q0I f39_L2.eq_1]
    simp only[q47]
    simp(disch:=first|decide|omega|(simp only[LN];first|done|omega)) only[SV,SW,Nat.reduceBEq,q7C]
  |succ k ih=>
    intro i hi
    have hcast:((i+1:Nat):Int)=(i:Int)+1:=by omega
    have ih:=ih (i+1) (by omega)
    rw[hcast] at ih
    rw[q0I f39_L2.eq_1]
    simp only[q47]
    have g:i<l.length:=by omega
    generalize hs:nth l (i:Int)=s
    generalize hg:nth givenS (i:Int)=s'
    by_cases e1:s.name=s'.name
    · by_cases e2:s.fields=s'.fields
      · have e:s=s':=by cases s;cases s';simp at e1 e2;subst e1;subst e2;rfl
        rw[if_pos ⟨g,e⟩]
        subst e
        simp(disch:=first|decide|omega|(simp only[LN];first|done|omega)) only[SV,SW,Nat.reduceBEq,hs,q0g,Nat.reduceAdd,hg,q1r,q0s,q0D]
        exact ih
      · rw[if_neg (fun h=>e2 (by rw[h.2]))]
        have d2:(s.fields==s'.fields)=false:=by simpa using e2
        clear e2
        simp(disch:=first|decide|omega|(simp only[LN];first|done|omega)) only[SV,SW,Nat.reduceBEq,hs,q0g,e1,Nat.reduceAdd,hg,q1r,q0s,q0D,d2,q46]
    · rw[if_neg (fun h=>e1 (by rw[h.2]))]
      have d1:decide (s.name=s'.name)=false:=by simpa using e1
      simp(disch:=first|decide|omega|(simp only[LN];first|done|omega)) only[SV,SW,Nat.reduceBEq,hs,q0g,Nat.reduceAdd,hg,q1r,q0s,q0D,d1,q46]
theorem z0p{l:List Shape}(h:l.length<7):q47 l 7 0=false:=by
  have key:∀(k i:Nat),i+k=7→l.length<7→i≤l.length→q47 l k i=false:=by
    intro k
    induction k with
    |zero=>intro i hi hl h2;omega
    |succ k ih=>
      intro i hi hl h2
      simp only[q47]
      split
      · rename_i c;exact ih (i+1) (by omega) hl (by omega)
      · rfl
  exact key 7 0 rfl h (by omega)
def q4g(l:List Shape):Int:=if q0B 8 (l.map fun s=>(s.name,s.fields)) []=false then 172 else if q6K l=false then 172 else 0
theorem z0s(K:Cx)(h44:K44 K)(h45:K45 K)(l:List Shape)(hl:(l.length:Int)≤9223372036854775807)(hn:∀ s∈l,(s.name.length:Int)≤9223372036854775807) :
    q0o K f39 [.d false (.sl 2 (l.map q0c))] []=some (.d false (.int .i64 (q4g l)),[],[]):=by
  have l0:=q8S K h44 l hl hn l.length 0 (by omega)
  simp only[Int.natCast_zero,List.drop_zero,List.take_zero,List.map_nil] at l0
  unfold q4g
  unfold K45 at h45
  cases hn1:q0B 8 (l.map fun s=>(s.name,s.fields)) [] with
  |false=>
    rw[if_pos rfl]
    rw[hn1,q1H] at l0
    simp(disch:=first|decide|omega|(simp only[LN];first|done|omega)) only[SV,SW,f39,Nat.reduceBEq,l0,q0b]
  |true=>
    rw[if_neg (by simp)]
    rw[hn1,q5h] at l0
    unfold q6K
    by_cases h7:l.length<7
    · rw[z0p h7,if_pos rfl]
      have:(l.length:Int)<7:=by omega
      simp(disch:=first|decide|omega|(simp only[LN];first|done|omega)) only[SV,SW,f39,Nat.reduceBEq,l0,h45,V.new2,V.newR,V.shift,q0b]
    · have l1:=z2o K l hl (by omega) 7 0 rfl
      simp only[Int.natCast_zero] at l1
      have:7≤(l.length:Int):=by omega
      cases hh:q47 l 7 0 with
      |false=>
        rw[if_pos rfl]
        rw[hh,q46] at l1
        simp(disch:=first|decide|omega|(simp only[LN];first|done|omega)) only[SV,SW,f39,Nat.reduceBEq,l0,h45,V.new2,V.newR,V.shift,l1,q0b]
      |true=>
        rw[if_neg (by simp)]
        rw[hh,q7C] at l1
        simp(disch:=first|decide|omega|(simp only[LN];first|done|omega)) only[SV,SW,f39,Nat.reduceBEq,l0,h45,V.new2,V.newR,V.shift,l1,q0b]
theorem q9T(K:Cx)(l:List Glob)(hl:(l.length:Int)≤9223372036854775807)(i:Nat)(hi:i<l.length):∀(k j:Nat),j+k=i→
    lp K 0 [0,3,5] f40_L0 ⟨[(0,.d false (.sl 3 (l.map q0l))),(3,.d false (.int .i64 i)),(5,.d false (.int .i64 j))],[],0,[]⟩ =
    some (if(((l.take i).drop j).map (·.name)).contains (nth l i).name then(.ret,⟨[(2,.d false (.int .i64 172))],[],0,[]⟩) else(.exit 2,⟨[(0,.d false (.sl 3 (l.map q0l))),(3,.d false (.int .i64 i))],[],0,[]⟩)):=by
  intro k
  induction k with
  |zero=>
    intro j hj
    rw[q0I f40_L0.eq_1,List.drop_of_length_le (by rw[List.length_take];omega)]
    have:j=i:=by omega
    subst this
    simp(disch:=first|decide|omega|(simp only[LN];first|done|omega)) only[SV,SW,Nat.reduceBEq]
  |succ k ih=>
    intro j hj
    have ih:=ih (j+1) (by omega)
    have hcast:((j+1:Nat):Int)=(j:Int)+1:=by omega
    rw[hcast] at ih
    have hjl:j<(l.take i).length:=by rw[List.length_take];omega
    have hnt:nth (l.take i) (j:Int)=nth l (j:Int):=by
      unfold nth
      rw[List.getD_eq_getElem?_getD,List.getD_eq_getElem?_getD,List.getElem?_take]
      rw[if_pos (by omega)]
    rw[q0I f40_L0.eq_1,q0F hjl,hnt,List.map_cons,List.contains_cons]
    by_cases g:(nth l (j:Int)).name=(nth l (i:Int)).name
    · have e1:((nth l (i:Int)).name==(nth l (j:Int)).name)=true:=by simp [g]
      rw[e1]
      simp(disch:=first|decide|omega|(simp only[LN];first|done|omega)) only[SV,SW,Nat.reduceBEq,q0k,g]
    · have e1:((nth l (i:Int)).name==(nth l (j:Int)).name)=false:=by
        simp;exact fun h=>g h.symm
      have e2:decide ((nth l (j:Int)).name=(nth l (i:Int)).name)=false:=by simpa using g
      rw[e1]
      clear g
      simp(disch:=first|decide|omega|(simp only[LN];first|done|omega)) only[SV,SW,Nat.reduceBEq,q0k,e2,Bool.false_or]
      exact ih
def q6J(r:Bool):Ex×S:=if r then(.exit 0,⟨[],[],0,[]⟩) else(.ret,⟨[(2,.d false (.int .i64 172))],[],0,[]⟩)
theorem q2f:q6J false=(.ret,⟨[(2,.d false (.int .i64 172))],[],0,[]⟩):=rfl
theorem q6I:q6J true=(.exit 0,⟨[],[],0,[]⟩):=rfl
theorem z0n(K:Cx)(h44:K44 K)(l:List Glob)(hl:(l.length:Int)≤9223372036854775807)(hn:∀ s∈l,(s.name.length:Int)≤9223372036854775807):∀(k i:Nat),i+k=l.length→
    lp K 0 [0,3] f40_L1 ⟨[(0,.d false (.sl 3 (l.map q0l))),(3,.d false (.int .i64 i))],[],0,[]⟩ =
    some (q6J (q0B 24 ((l.drop i).map fun s=>(s.name,s.arity)) ((l.take i).map (·.name)))):=by
  intro k
  induction k with
  |zero=>
    intro i hi
    rw[q0I f40_L1.eq_1,List.drop_of_length_le (by omega)]
    simp only[List.map_nil,q0B]
    simp(disch:=first|decide|omega|(simp only[LN];first|done|omega)) only[SV,SW,Nat.reduceBEq,q6I]
  |succ k ih=>
    intro i hi
    have hcast:((i+1:Nat):Int)=(i:Int)+1:=by omega
    have hlt:i<l.length:=by omega
    have hnm:=hn _ (q1h (l:=l) (i:=(i:Int)) (by omega) (by omega))
    have hc:=h44 _ hnm
    have hw:=q9T K l hl i hlt i 0 (by omega)
    simp only[Int.natCast_zero,List.drop_zero] at hw
    have ih:=ih (i+1) (by omega)
    rw[hcast,←q8H l i hlt,List.map_append,List.map_cons,List.map_nil] at ih
    rw[q0I f40_L1.eq_1,q0F hlt]
    simp only[List.map_cons,q0B]
    generalize hs:nth l (i:Int)=s at hc hnm hw ih
    generalize q1p s.name=b1 at hc
    generalize List.contains (List.map (fun x=>x.name) (List.take i l)) s.name=b2 at hw
    clear hnm hn
    cases b1 with
    |false=>
      simp only[Bool.false_and]
      simp(disch:=first|decide|omega|(simp only[LN];first|done|omega)) only[SV,SW,Nat.reduceBEq,hs,q0k,q0d,hc,q2f]
    |true=>
      by_cases g1:0≤s.arity
      · by_cases g2:s.arity≤24
        · have e1:decide (0≤s.arity)=true:=by simpa using g1
          have e2:decide (s.arity≤24)=true:=by simpa using g2
          cases b2 with
          |true=>
            simp only[Bool.not_true,Bool.and_false,Bool.false_and]
            rw[if_pos rfl] at hw
            simp(disch:=first|decide|omega|(simp only[LN];first|done|omega)) only[SV,SW,Nat.reduceBEq,hs,q0k,q0d,hc,hw,q2f]
          |false=>
            simp only[e1,e2,Bool.not_false,Bool.and_self,if_true]
            rw[if_neg (by simp)] at hw
            simp(disch:=first|decide|omega|(simp only[LN];first|done|omega)) only[SV,SW,Nat.reduceBEq,hs,q0k,q0d,hc,hw]
            exact ih
        · have e2:decide (s.arity≤24)=false:=by simpa using g2
          simp only[e2,Bool.and_false]
          clear hw
          simp(disch:=first|decide|omega|(simp only[LN];first|done|omega)) only[SV,SW,Nat.reduceBEq,hs,q0k,q0d,hc,q2f]
      · have e2:decide (0≤s.arity)=false:=by simpa using g1
        simp only[e2,Bool.and_false,Bool.false_and]
        clear hw
        simp(disch:=first|decide|omega|(simp only[LN];first|done|omega)) only[SV,SW,Nat.reduceBEq,hs,q0k,q0d,hc,q2f]
def q6H(l:List Glob):Int:=if q0B 24 (l.map fun g=>(g.name,g.arity)) []=false then 172 else 0
theorem z5a(K:Cx)(h44:K44 K)(l:List Glob)(hl:(l.length:Int)≤9223372036854775807)(hn:∀ s∈l,(s.name.length:Int)≤9223372036854775807) :
    q0o K f40 [.d false (.sl 3 (l.map q0l))] []=some (.d false (.int .i64 (q6H l)),[],[]):=by
  have l0:=z0n K h44 l hl hn l.length 0 (by omega)
  simp only[Int.natCast_zero,List.drop_zero,List.take_zero,List.map_nil] at l0
  unfold q6H
  cases hn1:q0B 24 (l.map fun s=>(s.name,s.arity)) [] with
  |false=>
    rw[if_pos rfl]
    rw[hn1,q2f] at l0
    simp(disch:=first|decide|omega|(simp only[LN];first|done|omega)) only[SV,SW,f40,Nat.reduceBEq,l0,q0b]
  |true=>
    rw[if_neg (by simp)]
    rw[hn1,q6I] at l0
    simp(disch:=first|decide|omega|(simp only[LN];first|done|omega)) only[SV,SW,f40,Nat.reduceBEq,l0,q0b]
end Go.Vm
end

section
namespace Go.Vm
def K40(K:Cx):Prop:=∀ op:Int,K.call 79 [.d false (.int .i64 op)]=some (z6o (q2g op) (decide (1≤op∧op<18)),[])
def K41(K:Cx):Prop:=∀(sh:List Shape)(gl:List Glob)(nm:List UInt8)(ar:Int)(cd:List Instr)(at_ n kind:Int),0≤kind∧kind≤8→
 K.call 80 [.agg [.d false (.sl 2 (sh.map q0c)),.d false (.sl 3 (gl.map q0l))],.agg [.d false (.str nm),.d false (.int .i64 ar),.d false (.sl 3 (cd.map q0j))],.d false (.int .i64 at_),.d false (.int .i64 n),.d false (.int .i64 kind)]
  = some (.d false (.int .i64 (q0S gl.length sh.length cd.length at_ n kind)),[])
def K42(K:Cx):Prop:=∀(sh:List Shape)(gl:List Glob)(op a b d:Int),1≤d∧d≤8000→(0≤a∧a≤9223372036854775807∨(op≠1∧op≠4∧op≠5∧op≠7∧op≠8))→(op=9∨op=10→0≤a∧a<sh.length∧0≤(nth sh a).fields∧(nth sh a).fields≤8)→
 K.call 81 [.agg [.d false (.sl 2 (sh.map q0c)),.d false (.sl 3 (gl.map q0l))],.agg [.d false (.int .i64 op),.d false (.int .i64 a),.d false (.int .i64 b)],.d false (.int .i64 d)]
  = some (.tup [.d false (.int .i64 (q0t sh ⟨op,a,b⟩ d).1),.d false (.bool (q0t sh ⟨op,a,b⟩ d).2)],[])
def K43(K:Cx):Prop:=∀(c:Bool)(Dp:List Int)(at_ d:Int)(n:Nat),0≤at_∧at_<Dp.length→n=Dp.length→
 K.eff 82 [.bsl 0 0 n,.d false (.int .i64 at_),.d false (.int .i64 d)] [.dat c 1 (Dp.map eInt)]=some (.d false (.bool (q1g Dp at_ d)),[.dat c 1 ((q0L Dp at_ d).map eInt)],[])
def q71(sh:List Shape)(gl:List Glob)(nm:List UInt8)(ar:Int)(cd:List Instr)(r:Int):Ex×S:=if r=0 then(.exit 0,⟨[(2,.ptr 0 0 0),(3,.ptr 1 0 0)],[(0,.mix 2 [[.d false (.sl 2 (sh.map q0c)),.d false (.sl 3 (gl.map q0l))]]),(1,.mix 3 [[.d false (.str nm),.d false (.int .i64 ar),.d false (.sl 3 (cd.map q0j))]])],2,[]⟩)
   else(.ret,⟨[(4,.d false (.int .i64 r))],[],0,[]⟩)
theorem q85(sh gl nm ar cd):q71 sh gl nm ar cd 0=(.exit 0,⟨[(2,.ptr 0 0 0),(3,.ptr 1 0 0)],[(0,.mix 2 [[.d false (.sl 2 (sh.map q0c)),.d false (.sl 3 (gl.map q0l))]]),(1,.mix 3 [[.d false (.str nm),.d false (.int .i64 ar),.d false (.sl 3 (cd.map q0j))]])],2,[]⟩):=rfl
theorem q3T(sh gl nm ar cd):q71 sh gl nm ar cd 172=(.ret,⟨[(4,.d false (.int .i64 172))],[],0,[]⟩):=rfl
theorem q6m(sh gl nm ar cd):q71 sh gl nm ar cd 174=(.ret,⟨[(4,.d false (.int .i64 174))],[],0,[]⟩):=rfl
theorem z4f(K:Cx)(h40:K40 K)(h41:K41 K)(sh:List Shape)(gl:List Glob)(nm:List UInt8)(ar:Int)(cd:List Instr)(hl:cd.length≤8000):∀(k i:Nat),i+k=cd.length→
  lp K 0 [2,3,20,21,22] f37_L0 ⟨[(2,.ptr 0 0 0),(3,.ptr 1 0 0),(20,.d false (.sl 3 (cd.map q0j))),(21,.d false (.int .i64 cd.length)),(22,.d false (.int .i64 i))],
   [(0,.mix 2 [[.d false (.sl 2 (sh.map q0c)),.d false (.sl 3 (gl.map q0l))]]),(1,.mix 3 [[.d false (.str nm),.d false (.int .i64 ar),.d false (.sl 3 (cd.map q0j))]])],2,[]⟩ =
  some (q71 sh gl nm ar cd (q1S gl.length sh.length cd.length cd k i)):=by
 intro k
 induction k with
 |zero=>
  intro i hi
  rw[q0I f37_L0.eq_1]
  simp(disch:=first|decide|omega|(simp only[LN];first|done|omega)) only[SV,SW,Nat.reduceBEq,reduceCtorEq,Nat.reduceAdd,q1S,q85]
 |succ k ih=>
  intro i hi
  have hcast:((i+1:Nat):Int)=(i:Int)+1:=by omega
  have ih:=ih (i+1) (by omega)
  rw[hcast] at ih
  have hlt:i<cd.length:=by omega
  rw[q0I f37_L0.eq_1]
  simp only[q1S]
  generalize hx:nth cd (i:Int)=x
  have hc:=h40 x.op
  have hk:=z2s x.op
  unfold z6o at hc
  by_cases g:1≤x.op∧x.op<18
  ·have hd:decide (1≤x.op∧x.op<18)=true:=by simpa using g
   rw[hd] at hc
   have ha:=h41 sh gl nm ar cd i x.a (q2g x.op).2.1 hk.1
   have hb:=h41 sh gl nm ar cd i x.b (q2g x.op).2.2 hk.2
   have hs:q5A gl.length sh.length cd.length i x=(if q0S gl.length sh.length cd.length i x.a (q2g x.op).2.1=172∨q0S gl.length sh.length cd.length i x.b (q2g x.op).2.2=172 then 172 else if q0S gl.length sh.length cd.length i x.a (q2g x.op).2.1≠0∨q0S gl.length sh.length cd.length i x.b (q2g x.op).2.2≠0 then 174 else 0):=by
    simp only[q5A,if_pos g]
   rw[hs]
   have va:=q6n gl.length sh.length cd.length i x.a (q2g x.op).2.1
   have vb:=q6n gl.length sh.length cd.length i x.b (q2g x.op).2.2
   generalize q0S gl.length sh.length cd.length i x.a (q2g x.op).2.1=a at ha va
   generalize q0S gl.length sh.length cd.length i x.b (q2g x.op).2.2=b at hb vb
   clear hs hk
   rcases va with rfl|rfl|rfl <;> rcases vb with rfl|rfl|rfl
   ·simp(disch:=first|decide|omega|(simp only[LN];first|done|omega)) only[SV,SW,Nat.reduceBEq,Nat.reduceAdd,hx,q0e,lose,q0d,hc,ha,hb,reduceCtorEq,Int.reduceEq,ne_eq,not_true_eq_false]
    exact ih
   all_goals simp(disch:=first|decide|omega|(simp only[LN];first|done|omega)) only[SV,SW,Nat.reduceBEq,Nat.reduceAdd,hx,q0e,lose,q0d,hc,ha,hb,Int.reduceEq,ne_eq,not_true_eq_false,q3T,q6m]
  ·have hd:decide (1≤x.op∧x.op<18)=false:=by simpa using g
   rw[hd] at hc
   have hs:q5A gl.length sh.length cd.length i x=172:=by simp only[q5A,if_neg g]
   rw[hs]
   simp(disch:=first|decide|omega|(simp only[LN];first|done|omega)) only[SV,SW,Nat.reduceBEq,Nat.reduceAdd,hx,q0e,lose,q0d,hc,Int.reduceEq,q3T]
end Go.Vm
end
