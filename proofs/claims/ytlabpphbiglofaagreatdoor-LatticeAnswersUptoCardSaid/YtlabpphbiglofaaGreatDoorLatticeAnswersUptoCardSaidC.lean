/-
  Parts of the proof: Functions: what they return. Loops and jumps, by their rounds. The machine's equations, in a form in which simp works from the inside out and stops where a test is open. Typed data in the machine: lists of structures as rows of cells. Maps, in equations for simp. Jumps, in equations. One name for the machine's equations. One name for more of the simp set. The machine by reckoning: with so many rounds at the most. Equations of pieces under a guard, of memory that becomes data. Package types: names. Code that passed the check, within a round of a range over a function. types.eachVar, handed a loop's body: the variables of a type come one by one. Package types: may, nodes, wrong; lattice: varies. Package types: nodes, wrong. Package strings' Builder: its methods, with all that they leave alone. Package strings' Builder: WriteByte, WriteString, Len, String. Package strings' Builder: String. What the machine knows of a Builder's methods. Package types: write. What is known of functions over package-level tables, put together of what each one answers. What the machine knows of strings.Split. DERIVED: THE SHELF's CONTRACTS AT THIS DUMP, IN PLAIN WORDS (tools/lay-plain.mjs out of 'TryzShelf.lean', which tools/lay-shelf.mjs wrote): THE SAME DECLARATIONS UNDER THE SAME NAMES: 'import', 'namespace', 'open', 'def', 'theorem' AND NOTHING ELSE: no command of the shelf's: FOR A HAND-IN. Each laying: the table of numbers ('.._ren') and one theorem, a field a fact of the dump's own or the kernel's comparison; each contract: ONE APPLICATION. Package strings' Builder at this program: copyCheck, WriteByte, WriteString. Package types: the contracts of wrong, Print and lattice.varies. Package types: the contract of Print. slices.Clone at an empty slice: an empty slice. Package types: copied. Conditions: none.
-/
import Derived.Test.YtlabpphbiglofaaGreatDoorLatticeAnswersUptoCardSaidB
import Derived.Laws.Sem
import Derived.Lib.Split
import Derived.Test.YtlabpphbiglofaaGreatDoorChecked
import Derived.RangeFuncNested
import Derived.RangeFuncBound
import Derived.RangeFuncCalls
import Derived.RangeFuncLeaves
import Derived.LoopNIn
import Derived.OrdersIn
import Derived.Shelf.Abstract
import Derived.Shelf.RegionOpen
import Derived.OwnWalkIn
import Derived.TacticsInMore
import Derived.LoopIn
import Derived.Shelf.Strings.BuilderK
import Derived.Shelf.Strings.Split
import Derived.Shelf.Strings.Builder1
import Derived.Shelf.Small.Strs
import Derived.Shelf.LaysM
import Derived.Shelf.Strconv.Itoa3
import Derived.Test.YtlabpphbiglofaaGreatDoorProg
import Derived.Lib.SliceRun
import Derived.Laws.AppendOwn
set_option linter.unusedVariables false
set_option linter.unusedSimpArgs false

section
namespace Go.Vm
open Go.RowKit

def hNew (H : List (Nat × Blk)) : Bool := H.all fun p => match p.2 with
  | .dat c _ _ => c
  | .mix _ rows => rows.all (·.all V.newR)
  | .map es => es.all fun q => match q.2 with
    | .agg cs => cs.all V.newR
    | v => v.newR

def restH (bs : List Nat) (H : List (Nat × Blk)) : List (Nat × Blk) := forgetH bs.contains (H.filter fun p => !bs.contains p.1)

def finC (z : Bool) (bs : List Nat) (H : List (Nat × Blk)) : V → Option V
  | .d c y => some (.d c y)
  | .fs c k r => some (.fs c k r)
  | .ptr b i j => if bs.contains b then some (.ptr (bs.idxOf b) i j) else (q0a viewDepth (restH bs H) (.ptr b i j)).map (.d (z && hNew (restH bs H)))
  | .bsl b i n => if bs.contains b then some (.bsl (bs.idxOf b) i n) else (q0a viewDepth (restH bs H) (.bsl b i n)).map (.d (z && hNew (restH bs H)))
  | .iface t v => (q0a viewDepth (restH bs H) (V.drop1 bs.contains (.iface t v))).map (.d false)
  | .map b => if bs.contains b then some (.map (bs.idxOf b)) else none
  | _ => none
def finA (z : Bool) (bs : List Nat) (H : List (Nat × Blk)) : V → Option V
  | .agg cs => (mapO (finC z bs H) cs).map .agg
  | .fn f cs => (mapO (finC z bs H) cs).map (.fn f)
  | v => finC z bs H v
def finV (z : Bool) (bs : List Nat) (H : List (Nat × Blk)) : V → Option V
  | .tup vs => (mapO (finA z bs H) vs).map .tup
  | v => finA z bs H v
def finB (z : Bool) (bs : List Nat) (H : List (Nat × Blk)) (b : Nat) : Option Blk := match look H b with
  | some (.dat c k rows) => some (.dat c k rows)
  | some (.mix k rows) => (mapO (mapO (finC z bs H)) rows).map (.mix k)
  | some (.map es) => (mapO (fun q => (finA z bs H q.2).map fun v => (q.1, v)) es).map .map
  | none => none

structure Fun where
  body : C
  res : List E
  own : Bool
  deriving Inhabited

def q0b : List V → V
  | [v] => v
  | vs => .tup vs

def finish (m : Nat) (own : Bool) (s : S) (v : V) : Option (V × List Blk × List Nat) :=
  let bs := if own then q1l s.heap (refN s.heap + 64) [] (List.range m ++ v.refs) else List.range m
  if decide bs.Nodup && decide (bs.take m = List.range m) then
    match finV (m == 0) bs s.heap v, mapO (finB (m == 0) bs s.heap) bs with
    | some r, some news => some (r, news, (List.range m).filter fun b => s.mv.contains b)
    | _, _ => none
  else none

def startS (args : List V) (blks : List Blk) : S := ⟨(args.zipIdx.map fun (v, i) => (i, v)), indexed blks, blks.length, []⟩

noncomputable def q0c (K : Cx) (g : Fun) (args : List V) (blks : List Blk) : Option (V × List Blk × List Nat) :=
  match exec K g.body (startS args blks) with
  | some (.nrm, s) => match mapO (ev K s) g.res with
    | some vs => finish blks.length g.own s (q0b vs)
    | none => none
  | some (.ret, s) => match mapO (ev K s) g.res with
    | some vs => finish blks.length g.own s (q0b vs)
    | none => none
  | _ => none

def resE (P : Program) : ResultVar → Option E
  | .tmp t => some (.sl t)
  | .cell a t => match P.info? t, P.underlying t with
    | some i, some d => some (.ld i.size (q2j d) (.sl a))
    | _, _ => none

def q0o (P : Program) (f : FuncId) (m n : Nat) (g : Fun) : Bool :=
  match P.funcs[f]? with
  | some fn => match fn.body with
    | some code => chk P m fn.ntmps g.body code && decide (mapO (resE P) fn.results.toList = some g.res) && decide (n ≤ fn.ntmps) && (fn.name != "runtime.NumGoroutine")
    | none => false
  | none => false

variable {P : Program} {w : World} {F : Nat → Prop} {X : Nat → Nat → Prop} {base nx : Nat} {σ : Nat → Option Loc} {H : List (Nat × Blk)} {bs : List Nat}

theorem q6I {f : V → Option V} : ∀ {es es' : List (D × V)}, mapO (fun q => (f q.2).map fun v => (q.1, v)) es = some es' → es'.map (·.1) = es.map (·.1)
  | [], es', h => by obtain rfl := Option.some.inj h; rfl
  | q :: es, es', h => by
    simp only [mapO] at h
    cases hq : f q.2 with
    | none => simp [hq] at h
    | some v =>
      cases hr : mapO (fun q => (f q.2).map fun v => (q.1, v)) es with
      | none => simp [hq, hr] at h
      | some r =>
        simp only [hq, hr, Option.map_some, Option.some.injEq] at h
        subst h
        simp only [List.map_cons, q6I hr]

theorem MemObj.ofO {f : V → Option V} {w w' : World} {σ σ' : Nat → Option Loc} {l : Loc} {ck : Nat} {es : Array MapEntry} {ds ds' : List (D × V)} (hw : w'.heap[l.blk]? = w.heap[l.blk]?) (hes : mapO (fun q => (f q.2).map fun v => (q.1, v)) ds = some ds')
    (hf : ∀ q ∈ ds, ∀ y, f q.2 = some y → ∀ v, BufV σ v q.2 → BufV σ' v y) (h : MemObj w σ l es ck ds) : MemObj w' σ' l es ck ds' := by
  have hk := q6I hes
  rcases h with ⟨h, hx, ht⟩ | ⟨T, p, v, x, h1, h2, h3, h4⟩ | ⟨T, cur, fz, bs, h1, h2, h3⟩
  · refine .inl ⟨by rw [hw]; exact h, hx, ?_⟩
    cases ds with
    | nil => obtain rfl : ds' = [] := by simpa using hk
             rfl
    | cons q ds =>
      obtain ⟨k, v⟩ := q
      cases ds' with
      | nil => simp at hk
      | cons q' ds' =>
        obtain ⟨k', v'⟩ := q'
        simp only [List.map_cons, List.cons.injEq] at hk
        obtain ⟨rfl, _⟩ := hk
        cases k' <;> first | rfl | (simp [q1n] at ht)
  · subst h1
    simp only [mapO] at hes
    cases hx : f x with
    | none => simp [hx] at hes
    | some y =>
      simp only [hx, Option.map_some, Option.some.injEq] at hes
      subst hes
      exact .inr (.inl ⟨T, p, v, y, rfl, by rw [hw]; exact h2, h3, hf (.nils T, x) (by simp) y hx v h4⟩)
  · exact .inr (.inr ⟨T, cur, fz, bs, by rw [hk]; exact h1, by rw [hw]; exact h2, h3⟩)

theorem z7A {c : Bool} {b : Nat} (h : col F base true b) : col (New F base) base c b := by
  cases c
  · exact h
  · exact ⟨h, h.2⟩

theorem RepV.newF {v : Value} {x : V} (hx : x.newR = true) (h : RepV w F base σ v x) : RepV w (New F base) base σ v x := by
  cases h with
  | d c v x h =>
    simp only [V.newR, V.new1, Bool.or_eq_true] at hx
    cases c with
    | true => exact .d _ _ _ (h.mono fun b hb => ⟨z7A hb, rfl⟩)
    | false => exact .d _ _ _ (h.flat (by simpa using hx))
  | fs c a len k rows h =>
    simp only [V.newR, V.new1] at hx
    subst hx
    exact .fs _ _ _ _ _ (h.mono fun b hb => ⟨z7A hb, rfl⟩)
  | ptr b i j l hl => exact .ptr b i j l hl
  | bsl0 a b i => exact .bsl0 a b i
  | bsl b i len cap l hl h1 h2 => exact .bsl b i len cap l hl h1 h2
  | map b l hl => exact .map b l hl
  | _ => simp [V.newR, V.new1] at hx

theorem z8Q {c : Bool} (hc : c = true) (d : D) : (mkd c d).newR = true := by
  subst hc
  unfold mkd
  split <;> simp [V.newR, V.new1, *]

theorem HeapRel.newF (hn : hNew H = true) (h : HeapRel w F X base σ nx H) : HeapRel w (New F base) X base σ nx H := by
  refine ⟨fun b blk hb => ?_, h.inj, fun b l hb => ⟨(h.own b l hb).1, fun hf => (h.own b l hb).2.1 hf.1, (h.own b l hb).2.2⟩, fun b hb => h.fro b hb.1⟩
  have hin : ∃ p ∈ H, p = (b, blk) := by
    clear hn h
    induction H with
    | nil => simp [look] at hb
    | cons p H ih =>
      obtain ⟨k, v⟩ := p
      simp only [look] at hb
      split at hb
      · rename_i hk
        subst hk
        obtain rfl := Option.some.inj hb
        exact ⟨_, List.mem_cons_self .., rfl⟩
      · obtain ⟨p, hp, he⟩ := ih hb
        exact ⟨p, List.mem_cons_of_mem _ hp, he⟩
  obtain ⟨p, hp, rfl⟩ := hin
  simp only [hNew, List.all_eq_true] at hn
  have hnb := hn _ hp
  rcases h.blk b blk hb with ⟨h1, h2⟩ | ⟨l, es, ck, ds, rfl, h1, h2, h3, h4, h5⟩ | ⟨l, cs, T, h1, h2, h3, h4, h5, h6, h7⟩
  · exact .inl ⟨h1, h2⟩
  · have := h5.transM (f := fun x => x) (w' := w) (F' := New F base) (base' := base) (σ' := σ) fun q hq v hv => by
      simp only [List.all_eq_true] at hnb
      have hqn := hnb q hq
      obtain ⟨qk, qv⟩ := q
      cases qv with
      | agg cs =>
        cases hv with
        | agg vs _ g1 g2 g3 =>
          simp only [List.all_eq_true] at hqn
          exact .agg vs cs g1 (fun j v x hv hx => (g2 j v x hv hx).newF (hqn x (List.mem_of_getElem? hx))) g3
      | _ => exact hv.newF hqn
    exact .inr (.inl ⟨l, es, ck, ds, rfl, h1, h2, h3, h4, by simpa using this⟩)
  · refine .inr <| .inr ⟨l, cs, T, h1, h2, h3, h4, h5, fun i row hrow => ⟨(h6 i row hrow).1, fun j x hx => ?_⟩, h7⟩
    obtain ⟨v, g1, g2, g3⟩ := (h6 i row hrow).2 j x hx
    refine ⟨v, g1, g2, g3.newF ?_⟩
    cases blk with
    | dat c k rows =>
      simp only [Blk.row?, Option.map_eq_some_iff] at hrow
      obtain ⟨r, _, rfl⟩ := hrow
      simp only [List.getElem?_map, Option.map_eq_some_iff] at hx
      obtain ⟨d, _, rfl⟩ := hx
      exact z8Q hnb d
    | mix k rows =>
      simp only [Blk.row?] at hrow
      simp only [List.all_eq_true] at hnb
      exact hnb row (List.mem_of_getElem? hrow) x (List.mem_of_getElem? hx)
    | map es => simp [Blk.entries] at h7

def wo (bs : List Nat) (σ : Nat → Option Loc) (b : Nat) : Option Loc := if bs.contains b then none else σ b
def outs (bs : List Nat) (σ : Nat → Option Loc) (i : Nat) : Option Loc := match bs[i]? with
  | some b => σ b
  | none => none

theorem q5h {b : Nat} {l : Loc} (h : wo bs σ b = some l) : bs.contains b = false ∧ σ b = some l := by
  unfold wo at h
  split at h
  · cases h
  · rename_i hb; exact ⟨by simpa using hb, h⟩
theorem z4C : ∀ b l, σ b = some l → bs.contains b = false → wo bs σ b = some l := by
  intro b l h1 h2
  unfold wo
  rw [if_neg (by rw [h2]; exact Bool.false_ne_true)]
  exact h1

theorem q4o (p : Nat → Bool) : ∀ (H : List (Nat × Blk)) (b : Nat) (blk : Blk), look (H.filter fun q => p q.1) b = some blk → p b = true ∧ look H b = some blk
  | [], b, blk, h => by simp [look] at h
  | (k, v) :: H, b, blk, h => by
    simp only [List.filter_cons] at h
    split at h
    · rename_i hk
      simp only [look] at h ⊢
      split at h
      · rename_i he
        subst he
        rw [if_pos rfl]
        exact ⟨hk, h⟩
      · rename_i he
        rw [if_neg he]
        exact q4o p H b blk h
    · rename_i hk
      obtain ⟨h1, h2⟩ := q4o p H b blk h
      refine ⟨h1, ?_⟩
      simp only [look]
      rw [if_neg (fun e => hk (by subst e; exact h1))]
      exact h2

theorem q9k (h : HeapRel w F X base σ nx H) : HeapRel w F X base (wo bs σ) nx (restH bs H) := by
  refine ⟨fun b blk hb => ?_, fun b b' l l' h1 h2 => h.inj b b' l l' (q5h h1).2 (q5h h2).2, fun b l hb => h.own b l (q5h hb).2, h.fro⟩
  unfold restH forgetH at hb
  rw [q2d] at hb
  simp only [Option.map_eq_some_iff] at hb
  obtain ⟨blk0, h1, rfl⟩ := hb
  obtain ⟨h2, h3⟩ := q4o (fun b => !bs.contains b) H b blk0 h1
  have h2' : bs.contains b = false := by simpa using h2
  have hs : ∀ l, σ b = some l → wo bs σ b = some l := fun l hl => z4C b l hl h2'
  refine (h.blk b blk0 h3).forget _ (fun b hb => ⟨hb, rfl⟩) z4C hs (fun h4 => ?_) (fun _ _ => rfl)
  unfold wo
  split
  · rfl
  · exact h4

def FZ (F : Nat → Prop) (bs : List Nat) (σ : Nat → Option Loc) : Nat → Prop := All F (wo bs σ)

variable {z : Bool}

def z7z (X : Nat → Nat → Prop) (base : Nat) (bs : List Nat) (σ : Nat → Option Loc) : Prop := ∀ i l, wo bs σ i = some l → base ≤ l.blk

theorem q8s {b : Nat} {l : Loc} (h1 : σ b = some l) (h2 : bs.contains b = true) : outs bs σ (bs.idxOf b) = some l := by
  unfold outs
  have hm : b ∈ bs := by simpa using h2
  have : bs[bs.idxOf b]? = some b := by
    rw [List.getElem?_eq_getElem (List.idxOf_lt_length_of_mem hm)]
    rw [List.getElem_idxOf]
  rw [this]
  exact h1

theorem z9k {z : Bool} {x y : V} (hy : finC z bs H x = some y) {v : Value} (hv : BufV σ v x) : BufV (outs bs σ) v y := by
  cases x with
  | bsl b i n =>
    simp only [finC] at hy
    split at hy
    · rename_i hb
      obtain rfl := Option.some.inj hy
      obtain ⟨h0, h | ⟨l, h1, h2⟩⟩ := hv
      · exact ⟨h0, .inl h⟩
      · exact ⟨h0, .inr ⟨l, q8s h1 hb, h2⟩⟩
    · simp only [Option.map_eq_some_iff] at hy
      obtain ⟨d, _, rfl⟩ := hy
      trivial
  | d c d => obtain rfl := Option.some.inj hy; trivial
  | fs c k r => obtain rfl := Option.some.inj hy; trivial
  | ptr b i j =>
    simp only [finC] at hy
    split at hy
    · obtain rfl := Option.some.inj hy; trivial
    · simp only [Option.map_eq_some_iff] at hy
      obtain ⟨d, _, rfl⟩ := hy
      trivial
  | iface t u =>
    simp only [finC, Option.map_eq_some_iff] at hy
    obtain ⟨d, _, rfl⟩ := hy
    trivial
  | map b =>
    simp only [finC] at hy
    split at hy
    · obtain rfl := Option.some.inj hy; trivial
    · cases hy
  | _ => simp [finC] at hy
theorem z9l {z : Bool} {x y : V} (hy : finA z bs H x = some y) {v : Value} (hv : BufV σ v x) : BufV (outs bs σ) v y := by
  cases x with
  | agg cs =>
    simp only [finA, Option.map_eq_some_iff] at hy
    obtain ⟨d, _, rfl⟩ := hy
    trivial
  | fn f cs =>
    simp only [finA, Option.map_eq_some_iff] at hy
    obtain ⟨d, _, rfl⟩ := hy
    trivial
  | _ => exact z9k (by simpa only [finA] using hy) hv

theorem q72 (h : HeapRel w F X base σ nx H) (hy : z7z X base bs σ) (v : Value) (x r : V) (hr : finC z bs H x = some r) (hR : RepV w F base σ v x) : RepV w (FZ F bs σ) base (outs bs σ) v r := by
  have hsub : ∀ b, F b → FZ F bs σ b ∧ w.heap[b]? = w.heap[b]? := fun b hb => ⟨.inl hb, rfl⟩
  have frozen : ∀ (x : V), x.newR = true → (∃ y, (q0a viewDepth (restH bs H) x) = some y ∧ r = .d (z && hNew (restH bs H)) y) → RepV w F base (wo bs σ) v x → RepV w (FZ F bs σ) base (outs bs σ) v r := by
    rintro x hx ⟨y, hyy, rfl⟩ hR
    have hH := q9k (bs := bs) h
    cases hn : z && hNew (restH bs H) with
    | false => exact .d _ _ _ (q1Z hH _ _ _ _ hyy hR)
    | true =>
      simp only [Bool.and_eq_true] at hn
      refine .d _ _ _ ((q1Z (hH.newF hn.2) _ _ _ _ hyy (hR.newF hx)).mono fun b hb => ⟨?_, rfl⟩)
      rcases hb with hb | ⟨i, l, hl, rfl⟩
      · exact ⟨.inl hb.1, hb.2⟩
      · exact ⟨.inr ⟨i, l, hl, rfl⟩, hy i l hl⟩
  have hFF : ∀ b, F b → F b ∧ w.heap[b]? = w.heap[b]? := fun b hb => ⟨hb, rfl⟩
  cases x with
  | d c y =>
    simp only [finC, Option.some.injEq] at hr
    subst hr
    cases hR with
    | d _ _ _ hd => exact .d _ _ _ (hd.mono (q4b hsub c))
  | fs c k rows =>
    simp only [finC, Option.some.injEq] at hr
    subst hr
    cases hR with
    | fs _ _ _ _ _ hd => exact .fs _ _ _ _ _ (hd.mono (q4b hsub c))
  | ptr b i j =>
    simp only [finC] at hr
    split at hr
    · rename_i hb
      obtain rfl := Option.some.inj hr
      cases hR with
      | ptr _ _ _ l hl => exact .ptr _ _ _ l (q8s hl hb)
    · rename_i hb
      simp only [Option.map_eq_some_iff] at hr
      obtain ⟨y, hy, rfl⟩ := hr
      exact frozen (.ptr b i j) rfl ⟨y, hy, rfl⟩ (hR.keep0 hFF z4C (by simpa [V.ref0] using hb))
  | bsl b i n =>
    simp only [finC] at hr
    split at hr
    · rename_i hb
      obtain rfl := Option.some.inj hr
      cases hR with
      | bsl0 => exact .bsl0 _ _ _
      | bsl _ _ _ cap l hl h1 h2 => exact .bsl _ _ _ cap l (q8s hl hb) h1 h2
    · rename_i hb
      simp only [Option.map_eq_some_iff] at hr
      obtain ⟨y, hy, rfl⟩ := hr
      exact frozen (.bsl b i n) rfl ⟨y, hy, rfl⟩ (hR.keep0 hFF z4C (by simpa [V.ref0] using hb))
  | iface t u =>
    simp only [finC, Option.map_eq_some_iff] at hr
    obtain ⟨y, hy, rfl⟩ := hr
    exact .d _ _ _ (q1Z (q9k (bs := bs) h) _ _ _ _ hy (hR.drop1 hFF z4C))
  | map b =>
    simp only [finC] at hr
    split at hr
    · rename_i hb
      obtain rfl := Option.some.inj hr
      cases hR with
      | map _ l hl => exact .map _ l (q8s hl hb)
    · cases hr
  | _ => simp [finC] at hr

theorem q8q {f : V → Option V} {R R' : Value → V → Prop} (hf : ∀ v x r, f x = some r → R v x → R' v r) {cs : Array Value} {xs rs : List V} (hm : mapO f xs = some rs) (hsz : cs.size = xs.length) (h : ∀ (j : Nat) (v : Value) (x : V), cs[j]? = some v → xs[j]? = some x → R v x) :
    cs.size = rs.length ∧ ∀ (j : Nat) (v : Value) (x : V), cs[j]? = some v → rs[j]? = some x → R' v x := by
  obtain ⟨m1, m2⟩ := q0l hm
  refine ⟨by omega, fun j v x hv hx => ?_⟩
  have hj : j < xs.length := by rw [← m1]; exact (List.getElem?_eq_some_iff.1 hx).1
  obtain ⟨y, hy, hvd⟩ := m2 j _ (List.getElem?_eq_getElem hj)
  rw [hx] at hy
  obtain rfl := Option.some.inj hy
  exact hf v _ x hvd (h j v _ hv (List.getElem?_eq_getElem hj))

theorem q5A (h : HeapRel w F X base σ nx H) (hy : z7z X base bs σ) (v : Value) (x r : V) (hr : finA z bs H x = some r) (hR : RepV w F base σ v x) : RepV w (FZ F bs σ) base (outs bs σ) v r := by
  have one : ∀ v x r, finC z bs H x = some r → RepV w F base σ v x → RepV w (FZ F bs σ) base (outs bs σ) v r := fun v x r h1 h2 => q72 h hy v x r h1 h2
  cases x with
  | agg xs =>
    simp only [finA, Option.map_eq_some_iff] at hr
    obtain ⟨rs, hm, rfl⟩ := hr
    cases hR with
    | agg cs _ h1 h2 h3 =>
      obtain ⟨g1, g2⟩ := q8q one hm h1 h2
      exact .agg cs rs g1 g2 h3
  | fn f xs =>
    simp only [finA, Option.map_eq_some_iff] at hr
    obtain ⟨rs, hm, rfl⟩ := hr
    cases hR with
    | fn _ cs _ h1 h2 =>
      obtain ⟨g1, g2⟩ := q8q one hm h1 h2
      exact .fn f cs rs g1 g2
  | _ => simp only [finA] at hr; exact one v _ r hr hR

theorem z3g (h : HeapRel w F X base σ nx H) (hy : z7z X base bs σ) {v : Value} {x r : V} (hr : finV z bs H x = some r) (hR : RepV w F base σ v x) : RepV w (FZ F bs σ) base (outs bs σ) v r := by
  cases x with
  | tup xs =>
    simp only [finV, Option.map_eq_some_iff] at hr
    obtain ⟨rs, hm, rfl⟩ := hr
    cases hR with
    | tup cs _ h1 h2 =>
      obtain ⟨g1, g2⟩ := q8q (q5A h hy) hm h1 h2
      exact .tup cs rs g1 g2
  | _ => simp only [finV] at hr; exact q5A h hy v _ r hr hR

theorem q6u {i : Nat} {l : Loc} (hi : outs bs σ i = some l) : ∃ b, bs[i]? = some b ∧ σ b = some l := by
  unfold outs at hi
  split at hi
  · rename_i b hb; exact ⟨b, hb, hi⟩
  · cases hi

theorem z6g (h : HeapRel w F X base σ nx H) (hy : z7z X base bs σ) (hbs : bs.Nodup) (hX : ∀ b k, X b k → bs[b]? = some b) {news : List Blk} (hm : mapO (finB z bs H) bs = some news) : HeapRel w (FZ F bs σ) X base (outs bs σ) news.length (indexed news) := by
  obtain ⟨m1, m2⟩ := q0l hm
  have hsub : ∀ b, F b → FZ F bs σ b ∧ w.heap[b]? = w.heap[b]? := fun b hb => ⟨.inl hb, rfl⟩
  refine ⟨fun i blk hi => ?_, fun i j l l' h1 h2 he => ?_, fun i l hi => ?_, fun b hb => ?_⟩
  · rw [q2Q] at hi
    have hil : i < bs.length := by rw [← m1]; exact (List.getElem?_eq_some_iff.1 hi).1
    obtain ⟨y, hyy, hb⟩ := m2 i _ (List.getElem?_eq_getElem hil)
    rw [hi] at hyy
    obtain rfl := Option.some.inj hyy
    have hout : outs bs σ i = σ bs[i] := by unfold outs; rw [List.getElem?_eq_getElem hil]
    unfold finB at hb
    split at hb
    · rename_i c k rows hlk
      obtain rfl := Option.some.inj hb
      rcases h.blk _ _ hlk with ⟨g1, g2⟩ | ⟨_, _, _, _, hbad, _⟩ | ⟨l, cs, T, g1, g2, g3, g4, g5, g6, g7⟩
      · exact .inl ⟨g1, by rw [hout]; exact g2⟩
      · cases hbad
      · refine .inr <| .inr ⟨l, cs, T, by rw [hout]; exact g1, g2, g3, g4, g5, fun i row hrow => ⟨(g6 i row hrow).1, fun j x hx => ?_⟩, g7⟩
        obtain ⟨v, e1, e2, e3⟩ := (g6 i row hrow).2 j x hx
        refine ⟨v, e1, e2, ?_⟩
        simp only [Blk.row?, Option.map_eq_some_iff] at hrow
        obtain ⟨r, _, rfl⟩ := hrow
        simp only [List.getElem?_map, Option.map_eq_some_iff] at hx
        obtain ⟨d, _, rfl⟩ := hx
        refine e3.keep0 (p := fun _ => true) hsub (fun _ _ _ h => by cases h) ?_
        unfold mkd
        split <;> rfl
    · rename_i k rows hlk
      simp only [Option.map_eq_some_iff] at hb
      obtain ⟨rows', hrows, rfl⟩ := hb
      obtain ⟨p1, p2⟩ := q0l hrows
      rcases h.blk _ _ hlk with ⟨g1, g2⟩ | ⟨_, _, _, _, hbad, _⟩ | ⟨l, cs, T, g1, g2, g3, g4, g5, g6, g7⟩
      · exact .inl ⟨by simp only [Blk.n] at g1 ⊢; omega, by rw [hout]; exact g2⟩
      · cases hbad
      · refine .inr <| .inr ⟨l, cs, T, by rw [hout]; exact g1, g2, g3, by simp only [Blk.n] at g4 ⊢; omega, g5, fun i row hrow => ?_, rfl⟩
        simp only [Blk.row?] at hrow
        have hi' : i < rows.length := by rw [← p1]; exact (List.getElem?_eq_some_iff.1 hrow).1
        obtain ⟨row', hrow', hm'⟩ := p2 i _ (List.getElem?_eq_getElem hi')
        rw [hrow] at hrow'
        obtain rfl := Option.some.inj hrow'
        obtain ⟨q1, q2⟩ := q0l hm'
        obtain ⟨r1, r2⟩ := g6 i rows[i] (by simp [Blk.row?, hi'])
        refine ⟨by simp only [Blk.k] at r1 ⊢; omega, fun j x hx => ?_⟩
        have hj : j < rows[i].length := by rw [← q1]; exact (List.getElem?_eq_some_iff.1 hx).1
        obtain ⟨x', hx', hfx⟩ := q2 j _ (List.getElem?_eq_getElem hj)
        rw [hx] at hx'
        obtain rfl := Option.some.inj hx'
        obtain ⟨v, e1, e2, e3⟩ := r2 j _ (List.getElem?_eq_getElem hj)
        exact ⟨v, e1, e2, q72 h hy v _ x hfx e3⟩
    · rename_i es hlk
      simp only [Option.map_eq_some_iff] at hb
      obtain ⟨es', hes, rfl⟩ := hb
      obtain ⟨p1, p2⟩ := q0l hes
      rcases h.blk _ _ hlk with ⟨g1, _⟩ | ⟨l, xs, ck, ds, hds, g1, g2, g3, g4, g5⟩ | ⟨_, _, _, _, _, _, _, _, _, hbad⟩
      · refine .inl ⟨?_, by rw [hout]; assumption⟩
        have hk := q6I hes
        simp only [Blk.n, q7T, hk] at g1 ⊢
        exact g1
      · obtain rfl : es = ds := by injection hds
        refine .inr (.inl ⟨l, xs, ck, es', rfl, by rw [hout]; exact g1, g2.ofO rfl hes (fun q hq y hy v hv => z9l hy hv), g3, g4, by rw [g5.1, p1], fun j e p he hp => ?_⟩)
        have hj : j < es.length := by rw [← p1]; exact (List.getElem?_eq_some_iff.1 hp).1
        obtain ⟨y, hy', hfy⟩ := p2 j _ (List.getElem?_eq_getElem hj)
        rw [hp] at hy'
        obtain rfl := Option.some.inj hy'
        simp only [Option.map_eq_some_iff] at hfy
        obtain ⟨u, hu, rfl⟩ := hfy
        obtain ⟨q1, q2, q3⟩ := g5.2 j e _ he (List.getElem?_eq_getElem hj)
        exact ⟨q1, q2.flat q1, q5A h hy _ _ u hu q3⟩
      · simp [Blk.entries] at hbad
    · cases hb
  · obtain ⟨b, hb, h3⟩ := q6u h1
    obtain ⟨b', hb', h4⟩ := q6u h2
    obtain rfl := h.inj b b' l l' h3 h4 he
    have hi := (List.getElem?_eq_some_iff.1 hb).1
    exact (List.getElem?_inj hi hbs).1 (hb.trans hb'.symm)
  · obtain ⟨b, hb, h3⟩ := q6u hi
    obtain ⟨o1, o2, o3, o4⟩ := h.own b l h3
    refine ⟨by rw [m1]; exact (List.getElem?_eq_some_iff.1 hb).1, ?_, o3.imp id (fun hx => ?_), o4⟩
    · rintro (hF | ⟨b', l', hl', he⟩)
      · exact o2 hF
      · obtain ⟨h5, h6⟩ := q5h hl'
        obtain rfl := h.inj b' b l' l h6 h3 he
        have : b' ∈ bs := List.mem_of_getElem? hb
        simp [this] at h5
    · have := (List.getElem?_inj (List.getElem?_eq_some_iff.1 hb).1 hbs).1 (hb.trans (hX b _ hx).symm)
      rw [this]
      exact hx
  · rcases hb with hb | ⟨i, l, hl, rfl⟩
    · exact h.fro b hb
    · exact (h.own i l (q5h hl).2).2.2.2

def z8q (tmps : Array Value) (rv : ResultVar) : Sem Value := match rv with
  | .tmp t => pure (tmps.getD t undef)
  | .cell b t => do loadVar t (← asAddr (tmps.getD b undef))

theorem z2P (fn : Func) (tmps : Array Value) : results fn tmps = (do
    let vs ← fn.results.mapM (z8q tmps)
    pure (if h : vs.size = 1 then vs[0] else .tuple vs)) := by
  unfold results
  congr 1

theorem q8o {K : Cx} {n m0 : Nat} {σ0 : Nat → Option Loc} {w0 : World} {F0 : Nat → Prop} {s : S} {a : Act} (h : StRel K X base w0 F0 m0 σ0 n s a w F σ) {fn : Func} {es : List E} {vs : List V} (he : mapO (resE P) fn.results.toList = some es) (hv : mapO (ev K s) es = some vs) :
    ∃ v, (results fn a.tmps).run P w = .ok v w ∧ RepV w F base σ v (q0b vs) := by
  have one : ∀ (rv : ResultVar) (e : E) (x : V), resE P rv = some e → ev K s e = some x → ∃ v, (z8q a.tmps rv).run P w = .ok v w ∧ RepV w F base σ v x := by
    intro rv e x he hx
    cases rv with
    | tmp t =>
      simp only [resE, Option.some.injEq] at he
      subst he
      simp only [ev] at hx
      exact ⟨_, rfl, h.rho t x hx⟩
    | cell b t =>
      simp only [resE] at he
      cases hi : P.info? t with
      | none => simp [hi] at he
      | some i =>
        cases hd : P.underlying t with
        | none => simp [hi, hd] at he
        | some d =>
          simp only [hi, hd, Option.some.injEq] at he
          subst he
          simp only [ev] at hx
          cases hp : look s.rho b with
          | none => simp [hp] at hx
          | some p =>
            simp only [hp] at hx
            rw [z7d] at hx
            cases hc : q3y s.heap p with
            | none => simp [hc] at hx
            | some xs =>
              simp only [hc, Option.bind_some] at hx
              obtain ⟨ba, of, hva, hcell⟩ := q5a h.heap hc (h.rho b p hp)
              obtain ⟨v, h1, h2⟩ := q4U (P := P) hd hi hcell hx
              exact ⟨v, by simp [z8q, hva, asAddr, h1], h2⟩
  have many : ∀ (l : List ResultVar) (es : List E) (vs : List V), mapO (resE P) l = some es → mapO (ev K s) es = some vs → ∃ us : List Value, (l.mapM (z8q a.tmps)).run P w = .ok us w ∧ us.length = vs.length ∧ ∀ (j : Nat) (v : Value) (x : V), us[j]? = some v → vs[j]? = some x → RepV w F base σ v x := by
    intro l
    induction l with
    | nil =>
      intro es vs he hv
      simp only [mapO, Option.some.injEq] at he
      subst he
      simp only [mapO, Option.some.injEq] at hv
      subst hv
      exact ⟨[], by simp, rfl, fun j v x h => by simp at h⟩
    | cons rv l ih =>
      intro es vs he hv
      simp only [mapO] at he
      cases hr : resE P rv with
      | none => simp [hr] at he
      | some e =>
        cases hl : mapO (resE P) l with
        | none => simp [hr, hl] at he
        | some es' =>
          simp only [hr, hl, Option.some.injEq] at he
          subst he
          simp only [mapO] at hv
          cases hx : ev K s e with
          | none => simp [hx] at hv
          | some x =>
            cases hxs : mapO (ev K s) es' with
            | none => simp [hx, hxs] at hv
            | some xs =>
              simp only [hx, hxs, Option.some.injEq] at hv
              subst hv
              obtain ⟨v, h1, h2⟩ := one rv e x hr hx
              obtain ⟨us, h3, h4, h5⟩ := ih es' xs hl hxs
              refine ⟨v :: us, ?_, by simp [h4], fun j u y hu hy => ?_⟩
              · rw [List.mapM_cons, Sem.run_bind, h1]
                show Sem.run P (do let a ← List.mapM _ l; pure (v :: a)) w = _
                rw [Sem.run_bind, h3]
                rfl
              · cases j with
                | zero => simp only [List.getElem?_cons_zero, Option.some.injEq] at hu hy; subst hu; subst hy; exact h2
                | succ j => exact h5 j u y (by simpa using hu) (by simpa using hy)
  obtain ⟨us, h1, h2, h3⟩ := many _ es vs he hv
  refine ⟨if h : us.length = 1 then us[0] else .tuple us.toArray, ?_, ?_⟩
  · rw [z2P, Sem.run_bind]
    rw [Array.mapM_eq_mapM_toList, ← bind_pure_comp, Sem.run_bind, h1]
    show Sem.run P (pure (if h : us.toArray.size = 1 then us.toArray[0] else .tuple us.toArray)) w = _
    by_cases hu : us.length = 1
    · rw [dif_pos hu, dif_pos (by simpa using hu)]; rfl
    · rw [dif_neg hu, dif_neg (by simpa using hu)]; rfl
  · match us, vs, h2, h3 with
    | [], [], _, h3 => exact .tup _ _ rfl fun j v x hv hx => h3 j v x (by simp at hv) hx
    | [u], [x], _, h3 => exact h3 0 u x rfl rfl
    | u1 :: u2 :: us, x1 :: x2 :: xs, h2, h3 =>
      simp only [List.length_cons, Nat.reduceEqDiff, q0b]
      rw [dif_neg (by simp)]
      exact .tup _ _ (by simpa using h2) fun j v x hv hx => h3 j v x (by simpa using hv) hx

theorem z5P (l : List V) : ∀ (k t : Nat) (v : V), look ((l.zipIdx k).map fun (v, i) => (i, v)) t = some v → k ≤ t ∧ l[t - k]? = some v := by
  induction l with
  | nil => intro k t v h; simp [look] at h
  | cons x l ih =>
    intro k t v h
    simp only [List.zipIdx_cons, List.map_cons, look] at h
    split at h
    · rename_i he
      subst he
      exact ⟨Nat.le_refl _, by simpa using h⟩
    · obtain ⟨h1, h2⟩ := ih (k + 1) t v h
      refine ⟨by omega, ?_⟩
      have : t - k = (t - (k + 1)) + 1 := by omega
      rw [this, List.getElem?_cons_succ]
      exact h2

theorem q9h (hm : P.follows .mixedOrders = true) {K : Cx} (hK : K.Sound P) {f : FuncId} {g : Fun} {args : List V} {blks : List Blk} {r : V} {news : List Blk} {mv : List Nat} (hok : q0o P f blks.length args.length g = true) (hr : q0c K g args blks = some (r, news, mv))
    {w : World} {F : Nat → Prop} {σ : Nat → Option Loc} {vals : Array Value} (hG : GlobRel w F K.glob) (hH : HeapRel w F (OwnB σ) w.heap.size σ blks.length (indexed blks)) (hargs : Reps w F w.heap.size σ vals args) :
    q0M P f = true ∧ Calls P f vals w fun e w' => ∃ v F' σ', e = .returned v ∧ Frame (OwnB σ) w.heap.size w w' ∧ (∀ b, F b → F' b) ∧ (∀ b, F' b → F b ∨ w.heap.size ≤ b) ∧
      RepV w' F' w.heap.size σ' v r ∧ HeapRel w' F' (OwnB σ) w.heap.size σ' news.length (indexed news) ∧ ∀ i l, i < blks.length → σ i = some l → i ∉ mv → σ' i = some l := by
  unfold q0o at hok
  cases hf : P.funcs[f]? with
  | none => simp [hf] at hok
  | some fn =>
    cases hb : fn.body with
    | none => simp [hf, hb] at hok
    | some code =>
      simp only [hf, hb, Bool.and_eq_true, decide_eq_true_eq] at hok
      obtain ⟨⟨⟨hc, hres⟩, hn⟩, hname⟩ := hok
      refine ⟨by simp [q0M, hf, hb, hname], ?_⟩
      refine calls_of_wp hf hb ?_
      have hst : StRel K (OwnB σ) w.heap.size w F blks.length σ fn.ntmps (startS args blks) { tmps := vals ++ Array.replicate (fn.ntmps - vals.size) undef, defers := [] } w F σ := by
        refine ⟨hH, hG, Nat.le_refl _, .refl _ _ _, fun b hb => .inl hb, ?_, rfl, fun t v hv => ?_, fun b blk h => ?_, fun _ _ _ h _ => h, Nat.le_refl _, fun b k hx => ?_, fun _ h => h⟩
        · have := hargs.1
          simp; omega
        · obtain ⟨_, hv'⟩ := z5P args 0 t v hv
          rw [Nat.sub_zero] at hv'
          have ht : t < vals.size := by rw [hargs.1]; exact (List.getElem?_eq_some_iff.1 hv').1
          have hget : (vals ++ Array.replicate (fn.ntmps - vals.size) undef).getD t undef = vals[t] := by
            rw [Array.getD_eq_getD_getElem?, Array.getElem?_append_left ht]
            simp [ht]
          show RepV w F w.heap.size σ ((vals ++ Array.replicate (fn.ntmps - vals.size) undef).getD t undef) v
          rw [hget]
          exact hargs.2 t _ v (by simp [ht]) hv'
        · have : (indexed blks).length = blks.length := by simp [indexed]
          simp only [startS] at h ⊢
          rw [q2Q] at h
          exact (List.getElem?_eq_some_iff.1 h).1
        · obtain ⟨l, hl, _⟩ := hx
          exact (hH.own b l hl).1
      have fin : ∀ (s : S) (a : Act) (w' : World) (F' : Nat → Prop) (σ' : Nat → Option Loc) (vs : List V), StRel K (OwnB σ) w.heap.size w F blks.length σ fn.ntmps s a w' F' σ' → mapO (ev K s) g.res = some vs → finish blks.length g.own s (q0b vs) = some (r, news, mv) →
          a.defers = [] ∧ ∃ v, (results fn a.tmps).run P w' = .ok v w' ∧ ∃ v' F' σ', Ending.returned v = .returned v' ∧ Frame (OwnB σ) w.heap.size w w' ∧ (∀ b, F b → F' b) ∧ (∀ b, F' b → F b ∨ w.heap.size ≤ b) ∧
            RepV w' F' w.heap.size σ' v' r ∧ HeapRel w' F' (OwnB σ) w.heap.size σ' news.length (indexed news) ∧ ∀ i l, i < blks.length → σ i = some l → i ∉ mv → σ' i = some l := by
        intro s a w' F' σ' vs hs hvs hfin
        obtain ⟨v, h1, h2⟩ := q8o hs hres hvs
        unfold finish at hfin
        simp only at hfin
        generalize (if g.own = true then q1l s.heap (refN s.heap + 64) [] (List.range blks.length ++ (q0b vs).refs) else List.range blks.length) = bs at hfin
        split at hfin
        case isFalse => cases hfin
        rename_i hc2
        simp only [Bool.and_eq_true, decide_eq_true_eq] at hc2
        obtain ⟨hnd, hpre⟩ := hc2
        cases h3 : finV (blks.length == 0) bs s.heap (q0b vs) with
        | none => simp [h3] at hfin
        | some r' =>
          cases h4 : mapO (finB (blks.length == 0) bs s.heap) bs with
          | none => simp [h3, h4] at hfin
          | some news' =>
            simp only [h3, h4, Option.some.injEq, Prod.mk.injEq] at hfin
            obtain ⟨rfl, rfl, rfl⟩ := hfin
            have hpin : ∀ b, b < blks.length → bs[b]? = some b := fun b hb' => by
              have : (bs.take blks.length)[b]? = some b := by rw [hpre]; simp [hb']
              simpa [List.getElem?_take, hb'] using this
            have hX : ∀ b k, OwnB σ b k → bs[b]? = some b := fun b k hx => hpin b (hs.xm b k hx)
            have hy : z7z (OwnB σ) w.heap.size bs σ' := by
              intro i l hl
              obtain ⟨hni, hl'⟩ := q5h hl
              rcases (hs.heap.own i l hl').2.2.1 with h | h
              · exact h
              · have := List.mem_of_getElem? (hX i _ h)
                simp [this] at hni
            refine ⟨hs.dfr, v, h1, v, FZ F' bs σ', outs bs σ', rfl, hs.frame, fun b hb' => .inl (hs.sub b hb'), fun b hb' => ?_, z3g hs.heap hy h3 h2, z6g hs.heap hy hnd hX h4, fun i l hi hl hm' => ?_⟩
            · rcases hb' with hb' | ⟨i, l, hl, rfl⟩
              · exact hs.frz b hb'
              · exact .inr (hy i l hl)
            · unfold outs
              rw [hpin i hi]
              exact hs.stab i l hi hl (fun hc => hm' (List.mem_filter.2 ⟨List.mem_range.2 hi, by simpa [List.contains_eq_mem] using hc⟩))
      unfold q0c at hr
      cases hex : exec K g.body (startS args blks) with
      | none => simp [hex] at hr
      | some p =>
        obtain ⟨ex, s⟩ := p
        refine wp_mono (z3i hm hK g.body code _ _ _ _ _ _ hc hex hst) fun e a w' hp => ?_
        obtain ⟨rfl, F', σ', hs⟩ := hp
        cases ex with
        | nrm =>
          simp only [hex] at hr
          cases hvs : mapO (ev K s) g.res with
          | none => simp [hvs] at hr
          | some vs =>
            simp only [hvs] at hr
            exact fin s a w' F' σ' vs hs hvs hr
        | ret =>
          simp only [hex] at hr
          cases hvs : mapO (ev K s) g.res with
          | none => simp [hvs] at hr
          | some vs =>
            simp only [hvs] at hr
            exact fin s a w' F' σ' vs hs hvs hr
        | exit id => simp [hex] at hr
        | goto l => simp [hex] at hr

theorem q2o (hm : P.follows .mixedOrders = true) {K : Cx} (hK : K.Sound P) {f : FuncId} {g : Fun} {args : List V} {r : V} {news : List Blk} {mv : List Nat} (hok : q0o P f 0 args.length g = true) (hr : q0c K g args [] = some (r, news, mv)) :
    q0M P f = true ∧ q1V P K.glob f args r news := by
  have hcal : q0M P f = true := by
    unfold q0o at hok
    cases hf : P.funcs[f]? with
    | none => simp [hf] at hok
    | some fn =>
      cases hb : fn.body with
      | none => simp [hf, hb] at hok
      | some code =>
        simp only [hf, hb, Bool.and_eq_true] at hok
        simp [q0M, hf, hb, hok.2]
  refine ⟨hcal, fun w F vals hF hG hargs => ?_⟩
  have hX : ∀ b k, ¬ OwnB (fun _ => none) b k := by rintro b k ⟨l, h, _⟩; cases h
  have hH : HeapRel w F (OwnB fun _ => none) w.heap.size (fun _ => none) ([] : List Blk).length (indexed []) := ⟨fun b blk h => by simp [indexed, look] at h, fun b b' l l' h => (by cases h), fun b l h => (by cases h), hF⟩
  obtain ⟨_, h⟩ := q9h hm hK hok hr hG hH hargs
  refine h.mono fun e w' ⟨v, F', σ', he, hfr, _, hF', hR, hHr, _⟩ => ⟨v, F', σ', he, ⟨hfr.os, hfr.tape, hfr.output, hfr.size, fun k hk => hfr.block k hk (fun b => hX b k)⟩, hF', hR, ⟨hHr.blk, hHr.inj, fun b l hb => ?_, hHr.fro⟩⟩
  obtain ⟨o1, o2, o3, o4⟩ := hHr.own b l hb
  exact ⟨o1, o2, o3.imp id (fun hx => hX b _ hx), o4⟩

theorem q07 (hm : P.follows .mixedOrders = true) {K : Cx} (hK : K.Sound P) {f : FuncId} {g : Fun} {args : List V} {blks : List Blk} {r : V} {news : List Blk} {mv : List Nat} (hok : q0o P f blks.length args.length g = true) (hr : q0c K g args blks = some (r, news, mv)) :
    q0M P f = true ∧ q4B P K.glob f args blks r news mv := by
  have hcal : q0M P f = true := by
    unfold q0o at hok
    cases hf : P.funcs[f]? with
    | none => simp [hf] at hok
    | some fn =>
      cases hb : fn.body with
      | none => simp [hf, hb] at hok
      | some code =>
        simp only [hf, hb, Bool.and_eq_true] at hok
        simp [q0M, hf, hb, hok.2]
  exact ⟨hcal, fun w F σ vals hG hH hargs => (q9h hm hK hok hr hG hH hargs).2⟩

end Go.Vm
end

section
namespace Go.Vm
theorem q6L{f:S→Option (Ex×S)}:∀ {n:Nat}{s:S}{r:Ex×S},iter f n s=some r→∀ m,n≤m→iter f m s=some r
 |0,s,r,h,m,_=>by simp [iter] at h
 |n+1,s,r,h,0,hm=>by omega
 |n+1,s,r,h,m+1,hm=>by
  simp only[iter] at h ⊢
  cases hf:f s with
  |none=>simp [hf] at h
  |some p=>
   obtain⟨e,s'⟩:=p
   cases e with
   |nrm=>simp only[hf] at h⊢;exact q6L h m (by omega)
   |exit id=>simpa [hf] using h
   |goto l=>simpa [hf] using h
   |ret=>simpa [hf] using h
theorem q36{f:S→Option (Ex×S)}{n:Nat}{s:S}{r:Ex×S}(h:iter f n s=some r):q4f f s=some r:=by
 have hex:∃ n,(iter f n s).isSome:=⟨n,by rw[h];rfl⟩
 unfold q4f
 rw[dif_pos hex]
 have hc:=hex.choose_spec
 obtain⟨r',hr'⟩:=Option.isSome_iff_exists.1 hc
 have h1:=q6L h (n+hex.choose) (by omega)
 have h2:=q6L hr' (n+hex.choose) (by omega)
 rw[hr',←h2,h1]
theorem q5x{f:Nat→Option (S→Option (Ex×S))}:∀ {n:Nat}{q:Option (Ex×S)}{r:Ex×S},q2I f n q=some r→∀ m,n≤m→q2I f m q=some r
 |0,q,r,h,m,_=>by simp [q2I] at h
 |n+1,q,r,h,0,hm=>by omega
 |n+1,q,r,h,m+1,hm=>by
  simp only[q2I] at h ⊢
  cases q with
  |none=>simp at h
  |some p=>
   obtain⟨e,s'⟩:=p
   cases e with
   |goto l=>
    simp only at h ⊢
    cases hl:f l with
    |none=>simp [hl] at h
    |some g=>simp only[hl] at h⊢;exact q5x h m (by omega)
   |nrm=>simpa using h
   |exit id=>simpa using h
   |ret=>simpa using h
theorem z47{f:Nat→Option (S→Option (Ex×S))}{n:Nat}{q:Option (Ex×S)}{r:Ex×S}(h:q2I f n q=some r):z1v f q=some r:=by
 have hex:∃ n,(q2I f n q).isSome:=⟨n,by rw[h];rfl⟩
 unfold z1v
 rw[dif_pos hex]
 have hc:=hex.choose_spec
 obtain⟨r',hr'⟩:=Option.isSome_iff_exists.1 hc
 have h1:=q5x h (n+hex.choose) (by omega)
 have h2:=q5x hr' (n+hex.choose) (by omega)
 rw[hr',←h2,h1]
end Go.Vm
end

section
namespace Go.Vm
def thn(x:Option (Ex×S))(f:S→Option (Ex×S)):Option (Ex×S):=match x with
 |some (.nrm,s)=>f s
 |r=>r
theorem q3k(s:S) (f):thn (some (.nrm,s)) f=f s:=rfl
theorem j1k(s:S) (f):thn (some (.ret,s)) f=some (.ret,s):=rfl
theorem z8g(n:Nat)(s:S) (f):thn (some (.exit n,s)) f=some (.exit n,s):=rfl
theorem z8f(n:Nat)(s:S) (f):thn (some (.goto n,s)) f=some (.goto n,s):=rfl
def brn(x:Option V)(f g:S→Option (Ex×S))(s:S):Option (Ex×S):=match x with
 |some (.d _ (.bool b))=>if b then f s else g s
 |_=>none
theorem j0i(c) (f g)(s:S):brn (some (.d c (.bool true))) f g s=f s:=rfl
theorem z7r(c) (f g)(s:S):brn (some (.d c (.bool false))) f g s=g s:=rfl
def blk(id:Nat)(x:Option (Ex×S)):Option (Ex×S):=match x with
 |some (.exit i,s')=>if i=id then some (.nrm,s') else some (.exit i,s')
 |r=>r
theorem j3e(id)(s:S):blk id (some (.nrm,s))=some (.nrm,s):=rfl
theorem j3d(id)(s:S):blk id (some (.ret,s))=some (.ret,s):=rfl
theorem j0k(id n)(s:S):blk id (some (.goto n,s))=some (.goto n,s):=rfl
theorem j0l(id i)(s:S):blk id (some (.exit i,s))=if i=id then some (.nrm,s) else some (.exit i,s):=rfl
def nrm(x:Option S):Option (Ex×S):=x.map fun s=>(.nrm,s)
theorem z1K(s:S):nrm (some s)=some (.nrm,s):=rfl
theorem z6m(K s):exec K .skip s=some (.nrm,s):=rfl
theorem z9o(K l s):exec K (.reg l) s=nrm (q2f K s l):=by
 simp only[exec,nrm];cases q2f K s l <;> rfl
theorem q2l(K a b s):exec K (.seq a b) s=thn (exec K a s) (exec K b):=by
 simp only[exec,thn];cases exec K a s with
 |none=>rfl
 |some p=>obtain⟨e,s'⟩:=p;cases e <;> rfl
theorem z6p(K e a b s):exec K (.cond e a b) s=brn (ev K s e) (exec K a) (exec K b) s:=by
 simp only[exec,brn]
 rcases ev K s e with _|v
 ·rfl
 ·cases v with
  |d c x=>cases x <;> rfl
  |_=>rfl
theorem z3j(K id c s):exec K (.block id c) s=blk id (exec K c s):=by
 simp only[exec,blk]
 rcases exec K c s with _|⟨e,s'⟩
 ·rfl
 ·cases e <;> rfl
theorem z6o(K id s):exec K (.exit id) s=some (.exit id,s):=rfl
theorem z6n(K l s):exec K (.goto l) s=some (.goto l,s):=rfl
theorem z9n(K s):exec K .ret s=some (.ret,s):=rfl
theorem q9N(K m l s):exec K (.tidy m l) s=nrm (q5l m l s):=by
 simp only[exec,nrm];cases q5l m l s <;> rfl
theorem q43(K t k s):exec K (.own t k) s=match look s.rho t with
  |some (.fs _ k' [])=>if k'=k then some (.nrm,⟨put s.rho t (.bsl s.nx 0 0),(s.nx,.dat true k []) :: s.heap,s.nx+1,s.mv⟩) else some (.nrm,s)
  |_=>some (.nrm,s):=rfl
def o1{α β:Type}(f:α→Option β)(x:Option α):Option β:=x.bind f
theorem z0H{α β:Type}(f:α→Option β)(a:α):o1 f (some a)=f a:=rfl
def o2{α β γ:Type}(f:α→β→Option γ)(x:Option α)(y:Option β):Option γ:=x.bind fun a=>y.bind fun b=>f a b
theorem j1W{α β γ:Type}(f:α→β→Option γ)(a:α)(b:β):o2 f (some a) (some b)=f a b:=rfl
def o4(f:V→V→V→V→Option V)(x y z w:Option V):Option V:=x.bind fun a=>y.bind fun b=>z.bind fun c=>w.bind fun d=>f a b c d
theorem j1V(f:V→V→V→V→Option V)(a b c d:V):o4 f (some a) (some b) (some c) (some d)=f a b c d:=rfl
noncomputable def segs(K:Cx)(r:List Seg)(s:S):Option S:=q2f K s r
theorem z8n(K s):segs K [] s=some s:=rfl
theorem q62(K s g r):q2f K s (g :: r)=o1 (segs K r) (q1g K s g):=by
 simp only[q2f,o1,segs];cases q1g K s g <;> rfl
theorem z4W(K s g r):segs K (g :: r) s=o1 (segs K r) (q1g K s g):=q62 K s g r
def segL(K:Cx)(s:S)(g:Seg)(p:S×List Blk):Option S:=
 match q2W K p.1 g.lets with
  |some l=>if q7s K p.1 g.chk then match g.wr with
    |none=>some ⟨l++q0g p.1.rho g.keep,addBlks s.heap s.nx p.2,p.1.nx,s.mv⟩
    |some (d,wr)=>match wonB K p.1 g.wg with
     |some true=>match evWr K p.1 (addBlks s.heap s.nx p.2) wr with
      |some (H,v,q,nx)=>match d with
       |some d=>some ⟨(d,v) :: lose q (l++q0g p.1.rho g.keep),loseH q H,nx,q.ids++s.mv⟩
       |none=>some ⟨lose q (l++q0g p.1.rho g.keep),loseH q H,nx,q.ids++s.mv⟩
      |none=>none
     |some false=>some ⟨l++q0g p.1.rho g.keep,addBlks s.heap s.nx p.2,p.1.nx,s.mv⟩
     |none=>none
   else none
  |none=>none
def segW(K:Cx)(s s1:S)(news:List Blk)(keep:List Nat)(wr:Option (Option Nat×Wr))(won:Option Bool)(chk:Bool)(l:Option (List (Nat×V))):Option S:=
 match l with
 |some l=>if chk then match wr with
   |none=>some ⟨l++q0g s1.rho keep,addBlks s.heap s.nx news,s1.nx,s.mv⟩
   |some (d,wr)=>match won with
    |some true=>match evWr K s1 (addBlks s.heap s.nx news) wr with
     |some (H,v,q,nx)=>match d with
      |some d=>some ⟨(d,v) :: lose q (l++q0g s1.rho keep),loseH q H,nx,q.ids++s.mv⟩
      |none=>some ⟨lose q (l++q0g s1.rho keep),loseH q H,nx,q.ids++s.mv⟩
     |none=>none
    |some false=>some ⟨l++q0g s1.rho keep,addBlks s.heap s.nx news,s1.nx,s.mv⟩
    |none=>none
  else none
 |none=>none
theorem z9U(K s mks lets chk wr keep cnt aux wg):q1g K s ⟨mks,lets,chk,wr,keep,cnt,aux,wg,[]⟩=o1 (segL K s ⟨[],lets,chk,wr,keep,cnt,[],wg,[]⟩) (q2E K s mks):=by
 have h:∀ mv,z1T K s mv ⟨mks,lets,chk,wr,keep,cnt,aux,wg,[]⟩:=fun mv e he=>by simp at he
 have h2:q1g K s ⟨mks,lets,chk,wr,keep,cnt,aux,wg,[]⟩=q47 K s ⟨mks,lets,chk,wr,keep,cnt,aux,wg,[]⟩:=by
  unfold q1g
  split
  ·rename_i s' he;rw[if_pos (h _),he]
  ·rename_i he;rw[he]
 rw[h2]
 simp only[q47,o1,segL];cases q2E K s mks <;> rfl
theorem j1v(K s mks lets chk wr keep cnt aux wg late s1 news):segL K s ⟨mks,lets,chk,wr,keep,cnt,aux,wg,late⟩ (s1,news)=segW K s s1 news keep wr (wonB K s1 wg) (q7s K s1 chk) (q2W K s1 lets):=by
 simp only[segL,segW]
def segO(s:S)(d:Option Nat)(ρ:List (Nat×V))(x:Option (List (Nat×Blk)×V×Lost×Nat)):Option S:=match x with
 |some (H,v,q,nx)=>match d with
  |some d=>some ⟨(d,v) :: lose q ρ,loseH q H,nx,q.ids++s.mv⟩
  |none=>some ⟨lose q ρ,loseH q H,nx,q.ids++s.mv⟩
 |none=>none
theorem z40(s d ρ H v q nx):segO s (some d) ρ (some (H,v,q,nx))=some ⟨(d,v) :: lose q ρ,loseH q H,nx,q.ids++s.mv⟩:=rfl
theorem z41(s ρ H v q nx):segO s none ρ (some (H,v,q,nx))=some ⟨lose q ρ,loseH q H,nx,q.ids++s.mv⟩:=rfl
theorem z4Z(K s s1 news keep won l):segW K s s1 news keep none won true (some l)=some ⟨l++q0g s1.rho keep,addBlks s.heap s.nx news,s1.nx,s.mv⟩:=rfl
theorem z4Y(K s s1 news keep d wr l):segW K s s1 news keep (some (d,wr)) (some true) true (some l)=segO s d (l++q0g s1.rho keep) (evWr K s1 (addBlks s.heap s.nx news) wr):=by
 simp only[segW,segO,if_true]
theorem z8o(K s s1 news keep d wr l):segW K s s1 news keep (some (d,wr)) (some false) true (some l)=some ⟨l++q0g s1.rho keep,addBlks s.heap s.nx news,s1.nx,s.mv⟩:=rfl
theorem z69(K s):q2E K s []=some (s,[]):=rfl
def mksA(K:Cx)(s:S)(d:Nat)(r:List (Nat×Mk))(p:V×List Blk):Option (S×List Blk):=
 match q2E K ⟨put s.rho d p.1,s.heap,s.nx+p.2.length,s.mv⟩ r with
 |some (s',more)=>some (s',p.2++more)
 |none=>none
def mksB(news:List Blk)(p:S×List Blk):Option (S×List Blk):=some (p.1,news++p.2)
theorem j1Z(news s' more):mksB news (s',more)=some (s',news++more):=rfl
theorem z3w(K s d m r):q2E K s ((d,m) :: r)=o1 (mksA K s d r) (evMk K s m):=by
 simp only[q2E,o1,mksA];cases evMk K s m <;> rfl
theorem j10(K s d r v news):mksA K s d r (v,news)=o1 (mksB news) (q2E K ⟨put s.rho d v,s.heap,s.nx+news.length,s.mv⟩ r):=by
 simp only[mksA,o1];cases q2E K ⟨put s.rho d v,s.heap,s.nx+news.length,s.mv⟩ r <;> rfl
theorem z3y(K s):q2W K s []=some []:=rfl
def letC(d:Nat)(v:V)(l:List (Nat×V)):Option (List (Nat×V)):=some ((d,v) :: l)
theorem j2c(d v l):letC d v l=some ((d,v) :: l):=rfl
theorem z09(K s d e r):q2W K s ((d,e) :: r)=o2 (letC d) (ev K s e) (q2W K s r):=by
 simp only[q2W,o2,letC];cases ev K s e <;> cases q2W K s r <;> rfl
theorem z7f(K s):q7s K s []=true:=rfl
theorem z3A(K s e r):q7s K s (e :: r)=((ev K s e).isSome&&q7s K s r):=rfl
theorem z78(K s):wonB K s []=some true:=rfl
theorem e_sl(K s t):ev K s (.sl t)=look s.rho t:=rfl
theorem e_int(K s k n):ev K s (.int k n)=some (.int k n):=rfl
theorem j5A(K s b):ev K s (.bool b)=some (.bool b):=rfl
theorem e_str(K s l):ev K s (.str l)=some (.str l):=rfl
theorem j2Z(K s k):ev K s (.nilsl k)=some (.fs true k []):=rfl
theorem q0r(K s):ev K s .nilp=some (.d false .nilp):=rfl
theorem j20(K s):ev K s .nilif=some (.d false .nilif):=rfl
theorem e_un(K s o a):ev K s (.un o a)=o1 (evUn o) (ev K s a):=by
 simp only[ev,o1];cases ev K s a <;> rfl
theorem e_bin(K s o a b):ev K s (.bin o a b)=o2 (evBin o) (ev K s a) (ev K s b):=by
 simp only[ev,o2];cases ev K s a <;> cases ev K s b <;> rfl
theorem e_eqs(K s n g ks a b):ev K s (.eqs n g ks a b)=o2 (q0K n g ks) (ev K s a) (ev K s b):=by
 simp only[ev,o2];cases ev K s a <;> cases ev K s b <;> rfl
def andV(x y:Option V):Option V:=match x,y with
 |some (.d _ (.bool x)),some (.d _ (.bool y))=>some (.bool (x&&y))
 |some (.d _ (.bool false)),_=>some (.bool false)
 |_,_=>none
theorem z7x(c c' x y):andV (some (.d c (.bool x))) (some (.d c' (.bool y)))=some (.bool (x&&y)):=by cases x <;> rfl
theorem z3K(c y):andV (some (.d c (.bool false))) y=some (.bool false):=by
 unfold andV;split <;> simp_all
theorem e_and(K s a b):ev K s (.and a b)=andV (ev K s a) (ev K s b):=rfl
def orV(x y:Option V):Option V:=match x,y with
 |some (.d _ (.bool x)),some (.d _ (.bool y))=>some (.bool (x||y))
 |some (.d _ (.bool true)),_=>some (.bool true)
 |_,_=>none
theorem z8L(c c' x y):orV (some (.d c (.bool x))) (some (.d c' (.bool y)))=some (.bool (x||y)):=by cases x <;> rfl
theorem z8K(c y):orV (some (.d c (.bool true))) y=some (.bool true):=by
 unfold orV;split <;> simp_all
theorem e_or(K s a b):ev K s (.or a b)=orV (ev K s a) (ev K s b):=rfl
def j5G(x a b:Option V):Option V:=match x with
 |some (.d _ (.bool x))=>if x then a else b
 |_=>none
theorem z3E(c x a b):j5G (some (.d c (.bool x))) a b=if x then a else b:=rfl
theorem j5y(K s c a b):ev K s (.cond c a b)=j5G (ev K s c) (ev K s a) (ev K s b):=rfl
theorem e_fa(K s o a):ev K s (.fa o a)=o1 (evFa o) (ev K s a):=by
 simp only[ev,o1];cases ev K s a <;> rfl
theorem e_ia(K s k a b):ev K s (.ia k a b)=o2 (evIa s.heap k) (ev K s a) (ev K s b):=by
 simp only[ev,o2];cases ev K s a <;> cases ev K s b <;> rfl
theorem e_ix(K s a b):ev K s (.ix a b)=o2 evIx (ev K s a) (ev K s b):=by
 simp only[ev,o2];cases ev K s a <;> cases ev K s b <;> rfl
theorem e_ld(K s n g a):ev K s (.ld n g a)=o1 (evLd s.heap n g) (ev K s a):=by
 simp only[ev,o1];cases ev K s a <;> rfl
theorem e_ext(K s i a):ev K s (.ext i a)=o1 (evExt i) (ev K s a):=by
 simp only[ev,o1];cases ev K s a <;> rfl
theorem e_len(K s b a):ev K s (.len b a)=o1 (evLen b) (ev K s a):=by
 simp only[ev,o1];cases ev K s a <;> rfl
def q3B(H:List (Nat×Blk))(str bl bh bm:Bool)(k:Nat)(v l h m:V):Option V:=if str==v.isStr then q5B H bl bh bm k v l h m else none
theorem e_cut(K s str bl bh bm k a lo hi mx):ev K s (.cut str bl bh bm k a lo hi mx)=o4 (q3B s.heap str bl bh bm k) (ev K s a) (ev K s lo) (ev K s hi) (ev K s mx):=by
 simp only[ev,o4,q3B];cases ev K s a <;> cases ev K s lo <;> cases ev K s hi <;> cases ev K s mx <;> rfl
def aggV:V→Option V
 |.tup vs=>some (.agg vs)
 |_=>none
theorem j0q(vs):aggV (.tup vs)=some (.agg vs):=rfl
theorem e_agg(K s a):ev K s (.agg a)=o1 aggV (ev K s a):=by
 simp only[ev,o1];cases ev K s a with
 |none=>rfl
 |some v=>cases v <;> rfl
theorem e_set(K s o n a b):ev K s (.set o n a b)=o2 (evSet o n) (ev K s a) (ev K s b):=by
 simp only[ev,o2];cases ev K s a <;> cases ev K s b <;> rfl
theorem j5w(K s k a):ev K s (.conv k a)=o1 (q68 k) (ev K s a):=by
 simp only[ev,o1];cases ev K s a <;> rfl
def mkfV(f:FuncId):V→Option V
 |.tup vs=>some (.fn f vs)
 |_=>none
theorem q2N(f vs):mkfV f (.tup vs)=some (.fn f vs):=rfl
theorem q9X(K s f a):ev K s (.mkf f a)=o1 (mkfV f) (ev K s a):=by
 simp only[ev,o1];cases ev K s a with
 |none=>rfl
 |some v=>cases v <;> rfl
def j5I(K:Cx)(H:List (Nat×Blk))(f:FuncId):V→Option V
 |.tup vs=>q4i K H f vs
 |_=>none
theorem z7p(K H f vs):j5I K H f (.tup vs)=q4i K H f vs:=rfl
theorem j5z(K s f a):ev K s (.call f a)=o1 (j5I K s.heap f) (ev K s a):=by
 simp only[ev,o1];cases ev K s a with
 |none=>rfl
 |some v=>cases v <;> rfl
def j0T(K:Cx)(H:List (Nat×Blk)):V→V→Option V
 |.fn f caps,.tup vs=>q4i K H f (vs++caps)
 |_,_=>none
theorem z3F(K H f caps vs):j0T K H (.fn f caps) (.tup vs)=q4i K H f (vs++caps):=rfl
theorem j21(K s f a):ev K s (.callv f a)=o2 (j0T K s.heap) (ev K s f) (ev K s a):=by
 simp only[ev,o2];cases ev K s f with
 |none=>rfl
 |some v=>cases ev K s a with
  |none=>cases v <;> rfl
  |some u=>cases v <;> cases u <;> rfl
theorem e_nil(K s):ev K s .nil=some (.tup []):=rfl
def j5F(v:V):V→Option V
 |.tup vs=>some (.tup (v :: vs))
 |_=>none
theorem z7n(v vs):j5F v (.tup vs)=some (.tup (v :: vs)):=rfl
theorem j5x(K s a b):ev K s (.cons a b)=o2 j5F (ev K s a) (ev K s b):=by
 simp only[ev,o2];cases ev K s a with
 |none=>rfl
 |some v=>cases ev K s b with
  |none=>rfl
  |some u=>cases u <;> rfl
def q96(own ps:Bool)(x:Option (V×List Blk)):Option V:=match x with
 |some (r,[])=>if ps then some r.renew else if own&&!r.new then none else some r
 |some (r,b :: bs)=>if own then none else view (indexed (b :: bs)) r
 |_=>none
theorem q8a(ps r b bs):q96 false ps (some (r,b :: bs))=view (indexed (b :: bs)) r:=rfl
theorem z3G(own r):q96 own false (some (r,[]))=if own&&!r.new then none else some r:=rfl
theorem z3H(own r):q96 own true (some (r,[]))=some r.renew:=rfl
def j5J(K:Cx)(f:FuncId)(own ps:Bool)(ws:List V):Option V:=q96 own ps (K.call f ws)
theorem j0f(K f own ps ws):j5J K f own ps ws=q96 own ps (K.call f ws):=rfl
theorem z5t(C:Cx) (f vs):q7R C f vs=(vs.all V.new&&!vs.all V.flatV&&C.loc f):=rfl
theorem z7g(K H f vs):q4i K H f vs=o1 (j5J K f (vs.any V.own) (q7R K f vs)) (mapO (view H) vs):=by
 unfold q4i
 cases mapO (view H) vs with
 |none=>rfl
 |some ws=>
  show _=q96 (vs.any V.own) (q7R K f vs) (K.call f ws)
  cases hk:K.call f ws with
  |none=>simp [hk,q96]
  |some p=>obtain⟨r,news⟩:=p;cases news <;> simp [hk,q96]
def mapC{β:Type}(b:β)(bs:List β):Option (List β):=some (b :: bs)
theorem j17{β:Type}(b:β) (bs):mapC b bs=some (b :: bs):=rfl
theorem z8S{α β:Type}(f:α→Option β):mapO f []=some []:=rfl
theorem z5K{α β:Type}(f:α→Option β) (a r):mapO f (a :: r)=o2 mapC (f a) (mapO f r):=by
 simp only[mapO,o2,mapC];cases f a <;> cases mapO f r <;> rfl
def mkBox(nx:Nat)(v:V):Option (V×List Blk):=if v.laid then some (.ptr nx 0 0,[.mix v.cells.length [v.cells]]) else none
theorem z9X(K s e):evMk K s (.box e)=o1 (mkBox s.nx) (ev K s e):=by
 simp only[evMk,o1,mkBox];cases ev K s e <;> rfl
def q3q(nx k:Nat)(z l c:V):Option (V×List Blk):=match z,l,c with
 |.tup zs,.d _ (.int _ n),.d _ (.int _ c)=>match mapO asD zs with
  |some ds=>if 0≤n∧n≤c∧c≤most∧ds.length=k∧0<k∧ds.all D.flat then some (.bsl nx 0 n.toNat,[.dat true k (List.replicate n.toNat ds)]) else none
  |none=>none
 |_,_,_=>none
def o3{β:Type}(f:V→V→V→Option β)(x y z:Option V):Option β:=x.bind fun a=>y.bind fun b=>z.bind fun c=>f a b c
theorem q2h{β:Type}(f:V→V→V→Option β)(a b c:V):o3 f (some a) (some b) (some c)=f a b c:=rfl
theorem z9V(K s k z l c):evMk K s (.mks k z l c)=o3 (q3q s.nx k) (ev K s z) (ev K s l) (ev K s c):=by
 simp only[evMk,o3]
 cases ev K s z with
 |none=>rfl
 |some z=>cases ev K s l with
  |none=>cases z <;> rfl
  |some l=>cases ev K s c with
   |none=>
    cases z <;> try rfl
    cases l <;> try rfl
    rename_i d;cases d <;> rfl
   |some c=>
    cases z <;> try rfl
    cases l <;> try rfl
    rename_i d;cases d <;> try rfl
    cases c <;> try rfl
    rename_i d;cases d <;> rfl
def j0z(nx k:Nat):V→Option (V×List Blk)
 |.tup vs=>if vs.all (fun v=>v.laid&&v.cells.length==k)&&decide (0<k) then some (.bsl nx 0 vs.length,[mkBlk k (vs.map V.cells)]) else none
 |_=>none
theorem z24(nx k vs):j0z nx k (.tup vs)=if vs.all (fun v=>v.laid&&v.cells.length==k)&&decide (0<k) then some (.bsl nx 0 vs.length,[mkBlk k (vs.map V.cells)]) else none:=rfl
theorem z7a(K s k e):evMk K s (.lits k e)=o1 (j0z s.nx k) (ev K s e):=by
 simp only[evMk,o1];cases ev K s e with
 |none=>rfl
 |some v=>cases v <;> rfl
def mkOR(nx:Nat)(own:Bool)(x:Option (V×List Blk)):Option (V×List Blk):=match x with
 |some (r,news)=>if news.all Blk.plain&&(!own||(r.new2&&news.all Blk.new)) then some (r.shift nx,news) else none
 |none=>none
theorem z5H(nx own r news):mkOR nx own (some (r,news))=if news.all Blk.plain&&(!own||(r.new2&&news.all Blk.new)) then some (r.shift nx,news) else none:=rfl
def mkOA(K:Cx)(nx:Nat)(f:FuncId)(own:Bool)(ws:List V):Option (V×List Blk):=mkOR nx own (K.call f ws)
theorem j13(K nx f own ws):mkOA K nx f own ws=mkOR nx own (K.call f ws):=rfl
def mkO(K:Cx)(s:S)(f:FuncId):V→Option (V×List Blk)
 |.tup vs=>o1 (mkOA K s.nx f (vs.any V.own)) (mapO (view s.heap) vs)
 |_=>none
theorem j12(K s f vs):mkO K s f (.tup vs)=o1 (mkOA K s.nx f (vs.any V.own)) (mapO (view s.heap) vs):=rfl
theorem z3x(K s f e):evMk K s (.callo f e)=o1 (mkO K s f) (ev K s e):=by
 simp only[evMk,o1];cases ev K s e with
 |none=>rfl
 |some v=>
  cases v <;> try rfl
  rename_i vs
  simp only[Option.bind_some,mkO,o1]
  cases mapO (view s.heap) vs with
  |none=>rfl
  |some ws=>simp only[Option.bind_some,mkOA,mkOR];cases K.call f ws <;> rfl
def z0k(H:List (Nat×Blk))(nx n:Nat)(a x:V):Option (List (Nat×Blk)×V×Lost×Nat):=match a with
 |.ptr b i j=>if x.laid&&x.cells.length==n then match look H b with
    |some blk=>match blk.set i j x.cells with
     |some blk'=>some (put H b blk',.junk,.none,nx)
     |none=>none
    |none=>none
   else none
 |_=>none
def stB(H:List (Nat×Blk))(nx b:Nat)(x:Option Blk):Option (List (Nat×Blk)×V×Lost×Nat):=x.bind fun k=>some (put H b k,.junk,.none,nx)
theorem z8k(H nx b k):stB H nx b (some k)=some (put H b k,.junk,.none,nx):=rfl
def stA(H:List (Nat×Blk))(nx b i j:Nat)(cs:List V)(k:Blk):Option (List (Nat×Blk)×V×Lost×Nat):=stB H nx b (k.set i j cs)
theorem j3q(H nx b i j cs k):stA H nx b i j cs k=stB H nx b (k.set i j cs):=rfl
theorem z0j(H nx n b i j x):z0k H nx n (.ptr b i j) x=if x.laid&&x.cells.length==n then o1 (stA H nx b i j x.cells) (look H b) else none:=by
 simp only[z0k]
 split
 ·cases look H b with
  |none=>rfl
  |some k=>simp only[o1,Option.bind_some,stA,stB];cases k.set i j x.cells <;> rfl
 ·rfl
theorem z3s(K s H n a v):evWr K s H (.store n a v)=o2 (z0k H s.nx n) (ev K s a) (ev K s v):=by
 simp only[evWr,o2]
 cases ev K s a with
 |none=>rfl
 |some a=>cases ev K s v with
  |none=>cases a <;> rfl
  |some v=>cases a <;> rfl
def z75(s:S)(H:List (Nat×Blk))(k:Nat)(x:V)(rows:Rows):Option (List (Nat×Blk)×V×Lost×Nat):=match x with
 |.bsl id i len=>match look H id with
  |some blk=>if i=0∧blk.n=len∧blk.k=k∧len+rows.n≤most then some (put H id (blk.app rows),.bsl id 0 (len+rows.n),.some id,s.nx) else none
  |none=>none
 |.fs _ k' []=>if k'=k∧rows.n≤most then some ((s.nx,rows.blk k) :: H,.bsl s.nx 0 rows.n,.none,s.nx+1) else none
 |_=>none
def apA(s:S)(H:List (Nat×Blk))(k id i len:Nat)(rows:Rows)(blk:Blk):Option (List (Nat×Blk)×V×Lost×Nat):=
 if i=0∧blk.n=len∧blk.k=k∧len+rows.n≤most then some (put H id (blk.app rows),.bsl id 0 (len+rows.n),.some id,s.nx) else none
theorem z4A(s H k id i len rows):z75 s H k (.bsl id i len) rows=o1 (apA s H k id i len rows) (look H id):=by
 simp only[z75,o1,apA];cases look H id <;> rfl
theorem z74(s H k c rows)(h:rows.n≤most):z75 s H k (.fs c k []) rows=some ((s.nx,rows.blk k) :: H,.bsl s.nx 0 rows.n,.none,s.nx+1):=if_pos ⟨rfl,h⟩
theorem z9T(K s H k a b):evWr K s H (.app k a b)=o2 (z75 s H k) (ev K s a) (o1 (q1q H k) (ev K s b)):=by
 simp only[evWr,o2,o1]
 cases ev K s a with
 |none=>rfl
 |some x=>cases ev K s b with
  |none=>cases x <;> rfl
  |some y=>
   simp only[Option.bind_some]
   cases q1q H k y <;> rfl
def z73(K:Cx)(nx:Nat)(H:List (Nat×Blk))(f:FuncId):V→Option (List (Nat×Blk)×V×Lost×Nat)
 |.tup vs=>match q2m f vs with
  |some (g,ws)=>q67 K nx H g ws (q1l H (refN H+64) [] (refsL ws))
  |none=>none
 |_=>none
theorem z4z{K nx H f vs}(h:(f==4294967295)=false):z73 K nx H f (.tup vs)=q67 K nx H f vs (q1l H (refN H+64) [] (refsL vs)):=by
 simp only[z73,q2m,dynF,h,Bool.false_eq_true,if_false]
theorem q81(K nx H g caps r):z73 K nx H 4294967295 (.tup (.fn g caps :: r))=q67 K nx H g (r++caps) (q1l H (refN H+64) [] (refsL (r++caps))):=rfl
theorem z3t(K s H f e):evWr K s H (.calle f e)=o1 (z73 K s.nx H f) (ev K s e):=by
 simp only[evWr,o1];cases ev K s e with
 |none=>rfl
 |some v=>cases v with
  |tup vs=>rfl
  |_=>rfl
def effR(nx:Nat)(H:List (Nat×Blk))(bs:List Nat)(p:V×List Blk×List Nat):Option (List (Nat×Blk)×V×Lost×Nat):=
 if bs.length≤p.2.1.length then some (putAll (q0W (p.2.2.map (q1C bs nx)) H) (q1C bs nx) 0 p.2.1,p.1.ren (q1C bs nx),.many (p.2.2.map (q1C bs nx)),nx+(p.2.1.length - bs.length)) else none
theorem j2W(nx H bs r b m):effR nx H bs (r,b,m)=if bs.length≤b.length then some (putAll (q0W (m.map (q1C bs nx)) H) (q1C bs nx) 0 b,r.ren (q1C bs nx),.many (m.map (q1C bs nx)),nx+(b.length - bs.length)) else none:=rfl
def effA(K:Cx)(nx:Nat)(H:List (Nat×Blk))(f:FuncId)(vs:List V)(bs:List Nat)(blks:List Blk):Option (List (Nat×Blk)×V×Lost×Nat):=o1 (effR nx H bs) (K.eff f (vs.map fun v=>v.dim.ren bs.idxOf) blks)
theorem j2X(K nx H f vs bs blks):effA K nx H f vs bs blks=o1 (effR nx H bs) (K.eff f (vs.map fun v=>v.dim.ren bs.idxOf) blks):=rfl
theorem z92(K nx H f vs bs):q67 K nx H f vs bs=if decide bs.Nodup&&vs.all (V.within bs.contains)&&closedB H bs then o1 (effA K nx H f vs bs) (handed H bs) else none:=by
 unfold q67
 split
 ·cases handed H bs with
  |none=>rfl
  |some blks=>
   simp only[z0H,effA]
   cases K.eff f (vs.map fun v=>v.dim.ren bs.idxOf) blks with
   |none=>rfl
   |some p=>obtain⟨r,b,m⟩:=p;rfl
 ·rfl
theorem j0n(bs nx i):q1C bs nx i=(bs[i]?).getD (nx+(i - bs.length)):=by
 unfold q1C;cases bs[i]? <;> rfl
def wonV(b:Bool):Option V→Option Bool
 |some (.d _ (.bool x))=>some (x==b)
 |_=>none
theorem z77(K s e b):wonB K s [(e,b)]=wonV b (ev K s e):=by
 simp only[wonB,wonV]
 cases ev K s e with
 |none=>rfl
 |some v=>cases v with
  |d c x=>cases x <;> rfl
  |_=>rfl
theorem z81{α:Type} (t):look ([]:List (Nat×α)) t=none:=rfl
def z5Q{α:Type}(v:α)(r:List (Nat×α))(t:Nat):Bool→Option α
 |true=>some v
 |false=>look r t
theorem z29{α:Type}(v:α) (r t):z5Q v r t true=some v:=rfl
theorem z0P{α:Type}(v:α) (r t):z5Q v r t false=look r t:=rfl
theorem z5N{α:Type} (k v r t):look ((k,v) :: r:List (Nat×α)) t=z5Q v r t (k==t):=by
 simp only[look]
 by_cases h:k=t
 ·simp [h,z5Q]
 ·have:(k==t)=false:=by simpa using h
  simp [h,this,z5Q]
def putB{α:Type}(k:Nat)(u:α)(r:List (Nat×α))(t:Nat)(v:α):Bool→List (Nat×α)
 |true=>(t,v) :: r
 |false=>(k,u) :: put r t v
theorem z5p{α:Type}(k:Nat)(u:α) (r t v):putB k u r t v true=(t,v) :: r:=rfl
theorem z2S{α:Type}(k:Nat)(u:α) (r t v):putB k u r t v false=(k,u) :: put r t v:=rfl
theorem j1J{α:Type} (t v):put ([]:List (Nat×α)) t v=[(t,v)]:=rfl
theorem z8A{α:Type} (k u r t v):put ((k,u) :: r:List (Nat×α)) t v=putB k u r t v (k==t):=by
 simp only[put]
 by_cases h:k=t
 ·simp [h,putB]
 ·have:(k==t)=false:=by simpa using h
  simp [h,this,putB]
def resC{α:Type}(l:List (Nat×α))(t:Nat)(r:List Nat)(x:Option α):List (Nat×α):=match x with
 |some v=>(t,v) :: q0g l r
 |none=>q0g l r
theorem z5j{α:Type}(l:List (Nat×α)) (t r v):resC l t r (some v)=(t,v) :: q0g l r:=rfl
theorem q9j{α:Type}(l:List (Nat×α)):q0g l []=[]:=rfl
theorem q8p{α:Type}(l:List (Nat×α)) (t r):q0g l (t :: r)=resC l t r (look l t):=rfl
noncomputable def endF(K:Cx)(res:List E)(own:Bool)(m:Nat)(x:Option (Ex×S)):Option (V×List Blk×List Nat):=match x with
 |some (.nrm,s)=>o1 (finish m own s) ((mapO (ev K s) res).map q0b)
 |some (.ret,s)=>o1 (finish m own s) ((mapO (ev K s) res).map q0b)
 |_=>none
theorem q8G(K res own m s):endF K res own m (some (.nrm,s))=o1 (finish m own s) ((mapO (ev K s) res).map q0b):=rfl
theorem z93(K res own m s):endF K res own m (some (.ret,s))=o1 (finish m own s) ((mapO (ev K s) res).map q0b):=rfl
theorem z5a(K body res own args blks):q0c K ⟨body,res,own⟩ args blks=endF K res own blks.length (exec K body (startS args blks)):=by
 unfold q0c endF
 simp only
 cases exec K body (startS args blks) with
 |none=>rfl
 |some p=>
  obtain⟨e,s⟩:=p
  cases e <;> try rfl
  all_goals
   simp only[o1]
   cases mapO (ev K s) res <;> rfl
theorem q5O(f:S→Option (Ex×S))(s:S):q4f f s=match f s with
  |some (.nrm,s')=>q4f f s'
  |r=>r:=by
 have key:∀ r,q4f f s=some r→(match f s with|some (.nrm,s')=>q4f f s'|r=>r)=some r:=by
  intro r h
  unfold q4f at h
  split at h
  ·rename_i hex
   generalize hex.choose=n at h
   cases n with
   |zero=>simp [iter] at h
   |succ n=>
    simp only[iter] at h
    cases hf:f s with
    |none=>simp [hf] at h
    |some p=>
     obtain⟨e,s'⟩:=p
     cases e with
     |nrm=>simp only[hf] at h⊢;exact q36 h
     |_=>simpa [hf] using h
  ·cases h
 have back:∀ r,(match f s with|some (.nrm,s')=>q4f f s'|r=>r)=some r→q4f f s=some r:=by
  intro r h
  cases hf:f s with
  |none=>simp [hf] at h
  |some p=>
   obtain⟨e,s'⟩:=p
   cases e with
   |nrm=>
    simp only[hf] at h
    have h0:=h
    unfold q4f at h
    split at h
    ·rename_i hex
     exact q36 (n:=hex.choose+1) (by simp only[iter,hf];exact h)
    ·cases h
   |exit id=>exact q36 (n:=1) (by simpa [iter,hf] using h)
   |goto id=>exact q36 (n:=1) (by simpa [iter,hf] using h)
   |ret=>exact q36 (n:=1) (by simpa [iter,hf] using h)
 cases h1:q4f f s with
 |some r=>exact(key r h1).symm
 |none=>
  cases h2:(match f s with|some (.nrm,s')=>q4f f s'|r=>r) with
  |none=>rfl
  |some r=>rw[back r h2] at h1;cases h1
noncomputable def lp(K:Cx)(m:Nat)(sl:List Nat)(body:C)(s:S):Option (Ex×S):=match exec K body s with
 |some (.nrm,s')=>exec K (.loop (.seq (.tidy m sl) body)) s'
 |r=>r
noncomputable def lpT(K:Cx)(m:Nat)(sl:List Nat)(body:C)(x:Option (Ex×S)):Option (Ex×S):=match x with
 |some (.nrm,s')=>o1 (lp K m sl body) (q5l m sl s')
 |r=>r
theorem j2a(K m sl body s):lpT K m sl body (some (.nrm,s))=o1 (lp K m sl body) (q5l m sl s):=rfl
theorem z8W(K m sl body n s):lpT K m sl body (some (.exit n,s))=some (.exit n,s):=rfl
theorem j19(K m sl body s):lpT K m sl body (some (.ret,s))=some (.ret,s):=rfl
theorem z8V(K m sl body n s):lpT K m sl body (some (.goto n,s))=some (.goto n,s):=rfl
theorem q9O(K m sl body s):exec K (.loop (.seq (.tidy m sl) body)) s=o1 (lp K m sl body) (q5l m sl s):=by
 show q4f (exec K (.seq (.tidy m sl) body)) s=_
 rw[q5O,q2l,q9N]
 cases q5l m sl s with
 |none=>rfl
 |some s'=>
  rw[z1K,q3k,z0H]
  rfl
theorem j3W(K m sl body s):lp K m sl body s=lpT K m sl body (exec K body s):=by
 unfold lp lpT
 cases exec K body s with
 |none=>rfl
 |some p=>
  obtain⟨e,s'⟩:=p
  cases e <;> try rfl
  exact q9O K m sl body s'
theorem q0p{K m sl body body' s}(h:body=body'):lp K m sl body s=lpT K m sl body (exec K body' s):=by
 subst h;exact j3W K m sl body s
end Go.Vm
end

section
namespace Go.Vm
def nth {α:Type} [Inhabited α] (l:List α) (n:Int):α:=l.getD n.toNat default
theorem q6z {α:Type} [Inhabited α] (l:List α) (i:Nat):nth l (i:Int)=l.getD i default:=by simp [nth]
theorem q56 {α:Type} [Inhabited α] {l:List α} {n:Int} (h:n.toNat < l.length):l[n.toNat]? = some (nth l n):=by
 unfold nth;rw [List.getD_eq_getElem?_getD,List.getElem?_eq_getElem h];rfl
theorem q2z {α:Type} [Inhabited α] {l:List α} {n:Int} (h:n.toNat < l.length):l[n.toNat]=nth l n:=by
 have:=q56 h
 rw [List.getElem?_eq_getElem h] at this
 exact Option.some.inj this
theorem q4h {α:Type} [Inhabited α] {l:List α} {i:Nat} {x:α} (h:l[i]? = some x):nth l (i:Int)=x:=by
 rw [q6z,List.getD_eq_getElem?_getD,h];rfl
theorem q1i {α:Type} [Inhabited α] {l:List α} {i:Nat} (h:i < l.length):l.drop i=nth l (i:Int) :: l.drop (i+1):=by
 rw [List.drop_eq_getElem_cons h,← q2z (n:=(i:Int)) (by simpa using h)]
 simp
def j1j (m:Nat) (H:List (Nat×Blk)) (mv:List Nat) (ρ:List (Nat×V)) (bs:List Nat):Option S:=
 if decide bs.Nodup && decide (bs.take m=List.range m) && ρ.all (fun p=>p.2.within bs.contains) && closedB H bs then
  some ⟨ρ.map fun p=>(p.1,p.2.ren bs.idxOf),bs.zipIdx.filterMap fun p=>(look H p.1).map fun k=>(p.2,k.ren bs.idxOf),bs.length,(List.range m).filter mv.contains⟩
 else none
def j3p (m:Nat) (H:List (Nat×Blk)) (mv:List Nat) (ρ:List (Nat×V)):Option S:=j1j m H mv ρ (q1l H (refN H+64) [] (List.range m++refsL (ρ.map (·.2))))
theorem j1i (m slots ρ H nx mv):q5l m slots ⟨ρ,H,nx,mv⟩=j3p m H mv (q0g ρ slots):=rfl
theorem z8e (m H mv ρ):j3p m H mv ρ=j1j m H mv ρ (q1l H (refN H+64) [] (List.range m++refsL (ρ.map (·.2)))):=rfl
theorem z8d (m H mv ρ bs):j1j m H mv ρ bs=if decide bs.Nodup && decide (bs.take m=List.range m) && ρ.all (fun p=>p.2.within bs.contains) && closedB H bs then
  some ⟨ρ.map fun p=>(p.1,p.2.ren bs.idxOf),bs.zipIdx.filterMap fun p=>(look H p.1).map fun k=>(p.2,k.ren bs.idxOf),bs.length,(List.range m).filter mv.contains⟩
 else none:=rfl
theorem z2R (H n done):q1l H n done []=done:=by cases n <;> rfl
def z1E (H:List (Nat×Blk)) (n:Nat) (done:List Nat) (b:Nat) (todo:List Nat):Bool→List Nat
 | true=>q1l H n done todo
 | false=>q1l H n (done++[b]) (todo++(match look H b with | some k=>k.refs | none=>[]))
def j1I:Option Blk→List Nat
 | some k=>k.refs
 | none=>[]
theorem z2Q (k):j1I (some k)=k.refs:=rfl
theorem z0z (H n done b todo):q1l H (n+1) done (b :: todo)=z1E H n done b todo (done.contains b):=by
 simp only [q1l];cases done.contains b <;> rfl
theorem z0y (H n done b todo):z1E H n done b todo true=q1l H n done todo:=rfl
theorem q9l (H n done b todo):z1E H n done b todo false=q1l H n (done++[b]) (todo++j1I (look H b)):=by
 simp only [z1E,j1I]
theorem j5t (H k c rows c' kd) (n:Int):evIa H k (.d c (.sl k rows)) (.d c' (.int kd n))=if 0≤n then (rows[n.toNat]?).map (fun row=>.d c (.ptr row)) else none:=by
 simp only [evIa]
 by_cases h:0≤n <;> simp [h]
 cases rows[n.toNat]? <;> rfl
theorem j2O {α:Type} [Inhabited α] (H k c) (l:List α) (e:α→List D) (c' kd) (n:Int) (h0:0≤n) (h:n < l.length):evIa H k (.d c (.sl k (l.map e))) (.d c' (.int kd n))=some (.d c (.ptr (e (nth l n)))):=by
 rw [j5t,if_pos h0,List.getElem?_map,q56 (by omega)];rfl
def iaB (k b i len:Nat) (n:Int) (blk:Blk):Option V:=if blk.k=k∧0≤n∧n < len then some (.ptr b (i+n.toNat) 0) else none
theorem z91 (H k b i len c kd) (n:Int):evIa H k (.bsl b i len) (.d c (.int kd n))=o1 (iaB k b i len n) (look H b):=by
 simp only [evIa,o1,iaB];cases look H b <;> rfl
theorem j2l (k b i) (len:Nat) (n:Int) (c rows) (h0:0≤n) (h:n < len):iaB k b i len n (.dat c k rows)=some (.ptr b (i+n.toNat) 0):=if_pos ⟨rfl,h0,h⟩
theorem q6N (k b i) (len:Nat) (n:Int) (rows) (h0:0≤n) (h:n < len):iaB k b i len n (.mix k rows)=some (.ptr b (i+n.toNat) 0):=if_pos ⟨rfl,h0,h⟩
def ldR (n:Nat) (g:Bool) (j:Nat) (row:List V):Option V:=part g n (row.drop j)
theorem j3X (n g j row):ldR n g j row=part g n (row.drop j):=rfl
def ldB (n:Nat) (g:Bool) (i j:Nat) (blk:Blk):Option V:=o1 (ldR n g j) (blk.row? i)
theorem j3Y (n g i j blk):ldB n g i j blk=o1 (ldR n g j) (blk.row? i):=rfl
theorem z9Y (H n g b i j):evLd H n g (.ptr b i j)=o1 (ldB n g i j) (look H b):=by
 simp only [evLd,o1,ldB,ldR]
 cases look H b with
 | none=>rfl
 | some blk=>
  show _=o1 (ldR n g j) (blk.row? i)
  cases h:blk.row? i <;> simp [h,o1,ldR]
theorem j5s (H n g c cells):evLd H n g (.d c (.ptr cells))=part g n (cells.map (mkd c)):=rfl
theorem z5u (n cs):part true n cs=if n≤cs.length then some (.agg (cs.take n)) else none:=rfl
theorem z8I (v cs):part false 1 (v :: cs)=some v:=rfl
theorem j1E (k rows i):(Blk.mix k rows).row? i=rows[i]?:=rfl
theorem z0v (c k rows i):(Blk.dat c k rows).row? i=(rows[i]?).map (·.map (mkd c)):=rfl
theorem z8u {α:Type} [Inhabited α] (c k) (l:List α) (e:α→List D) (i:Nat) (h:i < l.length):(Blk.dat c k (l.map e)).row? i=some ((e (nth l i)).map (mkd c)):=by
 rw [z0v,List.getElem?_map,List.getElem?_eq_getElem h,q6z,List.getD_eq_getElem?_getD,List.getElem?_eq_getElem h];rfl
theorem j1s (k rows i j cells):(Blk.mix k rows).set i j cells=o1 (fun row=>if j+cells.length≤row.length then some (.mix k (rows.set i (splice j cells row))) else none) rows[i]?:=by
 simp only [Blk.set,o1];cases rows[i]? <;> rfl
theorem z8m (k row rows j cells):(Blk.mix k (row :: rows)).set 0 j cells=if j+cells.length≤row.length then some (.mix k (splice j cells row :: rows)) else none:=by
 simp [Blk.set]
def setD (c:Bool) (k:Nat) (rows:List (List D)) (row:List D) (i j:Nat) (cells:List V) (x:Option (List D)):Option Blk:=match x with
 | some ds=>some (.dat (c && cells.all V.new1) k (rows.set i (splice j ds row)))
 | none=>some (.mix k ((rows.map (·.map (mkd c))).set i (splice j cells (row.map (mkd c)))))
theorem z4V (c k rows row i j cells ds):setD c k rows row i j cells (some ds)=some (.dat (c && cells.all V.new1) k (rows.set i (splice j ds row))):=rfl
theorem q51 {α:Type} [Inhabited α] (c k) (l:List α) (e:α→List D) (i j cells) (hi:i < l.length):(Blk.dat c k (l.map e)).set i j cells=if j+cells.length≤(e (nth l i)).length then setD c k (l.map e) (e (nth l i)) i j cells (mapO asD cells) else none:=by
 have:(l.map e)[i]? = some (e (nth l i)):=by
  rw [List.getElem?_map,List.getElem?_eq_getElem hi,q6z,List.getD_eq_getElem?_getD,List.getElem?_eq_getElem hi];rfl
 simp only [Blk.set,this,setD]
 split
 ·cases mapO asD cells <;> rfl
 ·rfl
theorem z1k {x:Int} (h1 : -9223372036854775808≤x) (h2:x≤9223372036854775807):IntKind.i64.wrap x=x:=by
 unfold IntKind.wrap
 have e1:(2:Int) ^ IntKind.i64.bits=18446744073709551616:=by decide
 have e2:(2:Int) ^ (IntKind.i64.bits - 1)=9223372036854775808:=by decide
 simp only [e1,e2]
 have:IntKind.i64.signed=true:=rfl
 simp only [this,Bool.true_and,decide_eq_true_eq]
 split <;> omega
end Go.Vm
namespace Go.Vm
theorem eq_t {a b:Int} (h:a=b):(a == b)=true:=by simpa using h
theorem eq_f {a b:Int} (h:¬ a=b):(a == b)=false:=by simpa using h
theorem ne_t {a b:Int} (h:¬ a=b):(a != b)=true:=by simpa using h
theorem ne_f {a b:Int} (h:a=b):(a != b)=false:=by simp [h]
theorem j3t {α:Type} (H k c) (l:List α) (e:α→List D):q1q H k (.d c (.sl k (l.map e)))=some (.dat (c || q0E (l.map e)) (l.map e)):=by simp [q1q]
theorem z1x (H k c r rows):q1q H k (.d c (.sl k (r :: rows)))=some (.dat (c || q0E (r :: rows)) (r :: rows)):=by simp [q1q]
theorem q32 (H k c):q1q H k (.fs c k [])=some (.dat true []):=by simp [q1q,q0E]
theorem q9J:q0E []=true:=rfl
theorem q8D (r rows):q0E (r :: rows)=(r.all D.flat && q0E rows):=rfl
theorem q3U {α:Type} (l:List α) (e:α→List D) (h:∀ x,(e x).all D.flat=true):q0E (l.map e)=true:=by
 simp only [q0E,List.all_map,List.all_eq_true,Function.comp]
 exact fun x _=>by simpa using h x
theorem j3f (s H k id len rs c rows) (h:rows.length=len) (h2:len+rs.n≤most):apA s H k id 0 len rs (.dat c k rows)=some (put H id ((Blk.dat c k rows).app rs),.bsl id 0 (len+rs.n),.some id,s.nx):=if_pos ⟨rfl,h,rfl,h2⟩
theorem q8U (s H k id len rs rows) (h:rows.length=len) (h2:len+rs.n≤most):apA s H k id 0 len rs (.mix k rows)=some (put H id ((Blk.mix k rows).app rs),.bsl id 0 (len+rs.n),.some id,s.nx):=if_pos ⟨rfl,h,rfl,h2⟩
theorem q7y {α:Type} (n H b i len c k) (l:List α) (e:α→List D) (hb:look H b=some (.dat c k (l.map e))) (h:i+len≤l.length):q0a (n+1) H (.bsl b i len)=some (.sl k (((l.drop i).take len).map e)):=by
 simp only [q0a,hb,List.length_map,h,if_true,List.map_take,List.map_drop]
theorem ile_T {a b:Int} (h:a≤b):(a≤b)=True:=by simpa using h
theorem ile_F {a b:Int} (h:¬ a≤b):(a≤b)=False:=by simpa using h
theorem ilt_T {a b:Int} (h:a < b):(a < b)=True:=by simpa using h
theorem ilt_F {a b:Int} (h:¬ a < b):(a < b)=False:=by simpa using h
theorem nle_T {a b:Nat} (h:a≤b):(a≤b)=True:=by simpa using h
theorem nlt_T {a b:Nat} (h:a < b):(a < b)=True:=by simpa using h
theorem z8i {α:Type} {l:List α} {n:Nat} (h:l.length≤n):l.take n=l:=List.take_of_length_le h
theorem z2J (n:Nat):((n:Int)+1).toNat=n+1:=by omega
theorem z9Z (c c' k) (s:List UInt8) (n:Int) (h0:0≤n) (h:n < s.length):evIx (.d c (.str s)) (.d c' (.int k n))=some (.int .u8 (nth s n).toNat):=by
 simp only [evIx,h0,if_true]
 rw [q56 (by omega)]
theorem z5z {α:Type} [Inhabited α] (l:List α) (n:Int):nth l ((n.toNat:Nat):Int)=nth l n:=by
 unfold nth;rw [Int.toNat_natCast]
theorem z5F:most=1099511627776:=rfl
theorem j3v:List.range 0=[]:=rfl
theorem q1M:List.range 1=[0]:=rfl
theorem q0A:List.range 2=[0,1]:=rfl
end Go.Vm
end

section
namespace Go.Vm
theorem z9W(K s):evMk K s .mkm=some (.map s.nx,[.map []]):=rfl
theorem e_lkp(K s ok kk z m k):ev K s (.lkp ok kk z m k)=o3 (q66 s.heap ok kk) (ev K s z) (ev K s m) (ev K s k):=by
 simp only[ev,o3];cases ev K s z <;> cases ev K s m <;> cases ev K s k <;> rfl
theorem j5u(K s a):ev K s (.mlen a)=o1 (q65 s.heap) (ev K s a):=by
 simp only[ev,o1];cases ev K s a <;> rfl
def lkO(ok:Bool)(z:V):Option (Option V)→Option V
 |some (some v)=>some (if ok then .tup [v,.bool true] else v)
 |some none=>some (if ok then .tup [z,.bool false] else z)
 |none=>none
theorem z82(z v):lkO false z (some (some v))=some v:=rfl
theorem z84(z):lkO false z (some none)=some z:=rfl
theorem q4V(z v):lkO true z (some (some v))=some (.tup [v,.bool true]):=rfl
theorem q3M(z):lkO true z (some none)=some (.tup [z,.bool false]):=rfl
def lkB(ok:Bool)(kk:Nat)(z:V)(k:D):Blk→Option V
 |.map es=>lkO ok z (q3C kk k es)
 |_=>none
theorem j2b(ok kk z k es):lkB ok kk z k (.map es)=lkO ok z (q3C kk k es):=rfl
theorem z7c(H ok kk z b c k):q66 H ok kk z (.map b) (.d c k)=o1 (lkB ok kk z k) (look H b):=by
 simp only[q66,o1]
 cases look H b with
 |none=>rfl
 |some blk=>
  cases blk with
  |map es=>
   simp only[Blk.entries,Option.bind_some,lkB,lkO]
   cases q3C kk k es with
   |none=>rfl
   |some r=>cases r <;> rfl
  |_=>rfl
def stM(H:List (Nat×Blk))(nx b:Nat)(x:Option (List (D×V))):Option (List (Nat×Blk)×V×Lost×Nat):=x.bind fun es=>some (put H b (.map es),.junk,.none,nx)
theorem q8k(H nx b es):stM H nx b (some es)=some (put H b (.map es),.junk,.none,nx):=rfl
def msB(H:List (Nat×Blk))(nx b kk:Nat)(d:D)(x:V):Blk→Option (List (Nat×Blk)×V×Lost×Nat)
 |.map es=>stM H nx b (setE kk d x es)
 |_=>none
theorem z0K(H nx b kk d x es):msB H nx b kk d x (.map es)=stM H nx b (setE kk d x es):=rfl
def z4w(H:List (Nat×Blk))(nx kk:Nat)(m k x:V):Option (List (Nat×Blk)×V×Lost×Nat):=match m,k with
 |.map b,.d _ d=>if x.laid then o1 (msB H nx b kk d x) (look H b) else none
 |_,_=>none
theorem q5g(H nx kk b c d x):z4w H nx kk (.map b) (.d c d) x=if x.laid then o1 (msB H nx b kk d x) (look H b) else none:=rfl
theorem q61(K s H kk m k v):evWr K s H (.mset kk m k v)=o3 (z4w H s.nx kk) (ev K s m) (ev K s k) (ev K s v):=by
 simp only[evWr,o3]
 cases ev K s m with
 |none=>rfl
 |some a=>cases ev K s k with
  |none=>cases a <;> rfl
  |some b=>cases ev K s v with
   |none=>cases a <;> cases b <;> rfl
   |some c=>
    cases a <;> try rfl
    cases b <;> try rfl
    simp only[Option.bind_some,z4w]
    split
    ·rename_i b c' d _
     cases look H b with
     |none=>rfl
     |some blk=>
      cases blk with
      |map es=>simp only[Blk.entries,o1,Option.bind_some,msB,stM];cases setE kk d c es <;> rfl
      |_=>rfl
    ·rfl
def mcB(H:List (Nat×Blk))(nx b:Nat):Blk→Option (List (Nat×Blk)×V×Lost×Nat)
 |.map es=>if q1n es then none else some (put H b (.map []),.junk,.none,nx)
 |_=>none
theorem j16(H nx b es)(h:q1n es=false):mcB H nx b (.map es)=some (put H b (.map []),.junk,.none,nx):=by simp [mcB,h]
def z4x(H:List (Nat×Blk))(nx:Nat):V→Option (List (Nat×Blk)×V×Lost×Nat)
 |.map b=>o1 (mcB H nx b) (look H b)
 |_=>none
theorem z2F(H nx b):z4x H nx (.map b)=o1 (mcB H nx b) (look H b):=rfl
theorem z68(K s H m):evWr K s H (.mclr m)=o1 (z4x H s.nx) (ev K s m):=by
 simp only[evWr,o1]
 cases ev K s m with
 |none=>rfl
 |some a=>
  cases a <;> try rfl
  rename_i b
  simp only[Option.bind_some,z4x,o1]
  cases look H b with
  |none=>rfl
  |some blk=>cases blk <;> rfl
def q8n(l:List (List UInt8)):List (D×V):=l.map fun m=>(.str m,.d false (.int .i64 1))
theorem z3f(n:List UInt8)(l:List (List UInt8)):q3C 2 (.str n) (q8n l)=some (if l.contains n then some (.d false (.int .i64 1)) else none):=by
 induction l with
 |nil=>rfl
 |cons m l ih=>
  simp only[q8n,List.map_cons,q3C,q1X,List.contains_cons] at ih ⊢
  by_cases h:n=m
  ·simp [h]
  ·have:(n==m)=false:=by simpa using h
   simp only[this,Bool.false_or]
   have hd:decide (n=m)=false:=by simpa using h
   simp only[hd]
   exact ih
theorem z42(l:List (List UInt8)):(q8n l).flatMap (fun q=>q.2.refs)=[]:=by
 induction l with
 |nil=>rfl
 |cons m l ih=>simp [q8n,V.refs]
theorem z0t(l:List (List UInt8))(p:Nat→Bool):(q8n l).all (fun q=>q.2.within p)=true:=by
 simp [q8n,V.within]
theorem z8p(l:List (List UInt8))(g:Nat→Nat):(q8n l).map (fun q=>(q.1,q.2.ren g))=q8n l:=by
 simp [q8n,V.ren]
theorem cast7:((7:Nat):Int)=7:=rfl
theorem z2b(K s t e):evMk K s (.bld t e)=some (.ptr s.nx 0 0,[.map [(.nils t,.bsl (s.nx+1) 0 0)],.map [(.emps e,.d false .nilp),(.str [],.d false .nilp)]]):=rfl
theorem j5v(K s a):ev K s (.i2s a)=o1 z3z (ev K s a):=by
 simp only[ev];cases ev K s a <;> rfl
end Go.Vm
end

section
namespace Go.Vm
def rwB(k i len:Nat):Blk→Option Rows
 |.dat c k' rows=>if k'=k∧i+len≤rows.length then some (.dat (c||q0E rows) ((rows.drop i).take len)) else none
 |.mix k' rows=>if k'=k∧i+len≤rows.length then some (.mix ((rows.drop i).take len)) else none
 |.map _=>none
theorem z8t(H k b i len):q1q H k (.bsl b i len)=o1 (rwB k i len) (look H b):=by
 simp only[q1q,o1]
 cases look H b with
 |none=>rfl
 |some blk=>cases blk <;> rfl
theorem j1B(k i len c rows):rwB k i len (.dat c k rows)=if i+len≤rows.length then some (.dat (c||q0E rows) ((rows.drop i).take len)) else none:=by simp [rwB]
theorem q3G(k i len rows):rwB k i len (.mix k rows)=if i+len≤rows.length then some (.mix ((rows.drop i).take len)) else none:=by simp [rwB]
end Go.Vm
end

section
namespace Go.Vm
def LN0:=PLift.up (And.intro (And.intro (And.intro @List.length_map.{0,0} (And.intro @List.length_append.{0} @List.length_take.{0})) (And.intro @List.length_drop.{0} (And.intro @List.length_replicate.{0} @List.length_set.{0}))) (And.intro (And.intro @List.length_cons.{0} (And.intro @List.length_nil.{0} @Rows.n.eq_1)) (And.intro (And.intro @Rows.n.eq_2 @z5F) (And.intro @Int.toNat_natCast @Nat.zero_add))))
theorem LN:type_of% LN0.down:=LN0.down
def SX0:=PLift.up (And.intro (And.intro (And.intro (And.intro (And.intro (And.intro (And.intro (And.intro @e_sl @z5N) (And.intro @z29 @j1W)) (And.intro (And.intro @z0P @z0H) (And.intro @List.length_nil.{0} (And.intro @List.map_nil.{0,0} @z69)))) (And.intro (And.intro (And.intro @List.nil_append.{0} @List.append_nil.{0}) (And.intro @j1v @z78)) (And.intro (And.intro @z7f @z09) (And.intro @z3y (And.intro @j2c @q8p))))) (And.intro (And.intro (And.intro (And.intro @z5j @q9j) (And.intro @addBlks.eq_1 @addBlks.eq_2)) (And.intro (And.intro @List.map_cons.{0,0} @q2l) (And.intro @z9U (And.intro @z4Z @List.cons_append.{0})))) (And.intro (And.intro (And.intro @z8n @z1K) (And.intro @q3k (And.intro @List.zipIdx_nil.{0} @z9o))) (And.intro (And.intro @q62 @j1i) (And.intro @z8e (And.intro @refsL.eq_1 @refsL.eq_2)))))) (And.intro (And.intro (And.intro (And.intro (And.intro @z2R @z8d) (And.intro @List.nodup_nil.{0} @List.all_nil.{0})) (And.intro (And.intro @closedB.eq_1 @Blk.ren.eq_1) (And.intro @Blk.ren.eq_2 (And.intro @Blk.ren.eq_3 @List.filterMap_nil.{0,0})))) (And.intro (And.intro (And.intro @List.filter_nil.{0} @j3v) (And.intro @List.all_cons.{0} (And.intro @V.within.eq_1 @V.within.eq_2))) (And.intro (And.intro @V.within.eq_3 @V.within.eq_4) (And.intro @V.within.eq_5 (And.intro @V.within.eq_6 @V.within.eq_7))))) (And.intro (And.intro (And.intro (And.intro @V.within.eq_8 @V.within.eq_9) (And.intro @V.within.eq_10 @V.ren.eq_1)) (And.intro (And.intro @V.ren.eq_2 @V.ren.eq_3) (And.intro @V.ren.eq_4 (And.intro @V.ren.eq_5 @V.ren.eq_6)))) (And.intro (And.intro (And.intro @V.ren.eq_7 @V.ren.eq_8) (And.intro @V.ren.eq_9 (And.intro @V.ren.eq_10 @z8i))) (And.intro (And.intro @e_bin @List.length_cons.{0}) (And.intro @Blk.within.eq_1 (And.intro @Blk.within.eq_2 @Blk.within.eq_3))))))) (And.intro (And.intro (And.intro (And.intro (And.intro (And.intro @z6p @Option.map_some.{0,0}) (And.intro @e_int @q9N)) (And.intro (And.intro @z5K @z8S) (And.intro @j17 (And.intro @e_ld @z3j)))) (And.intro (And.intro (And.intro @List.drop_zero.{0} @z8A) (And.intro @List.zipIdx_cons.{0} (And.intro @z9Y @j3Y))) (And.intro (And.intro @j3X @j1E) (And.intro @z8I (And.intro @z3w @j10))))) (And.intro (And.intro (And.intro (And.intro @j1J @j1Z) (And.intro @e_fa @z2S)) (And.intro (And.intro @List.drop_succ_cons.{0} @z7r) (And.intro @z9n (And.intro @j0i @z9X)))) (And.intro (And.intro (And.intro @mkBox.eq_1 @List.take_zero.{0}) (And.intro @z93 (And.intro @finish.eq_1 @z6m))) (And.intro (And.intro @z5a @startS.eq_1) (And.intro @indexed.eq_1 (And.intro @z3A @Option.isSome_some.{0})))))) (And.intro (And.intro (And.intro (And.intro (And.intro @j5A @e_nil) (And.intro @loseH.eq_1 @loseH.eq_2)) (And.intro (And.intro @loseH.eq_3 @Lost.ids.eq_1) (And.intro @Lost.ids.eq_2 (And.intro @Lost.ids.eq_3 @z4Y)))) (And.intro (And.intro (And.intro @z5p @z41) (And.intro @j5x (And.intro @z7n @splice.eq_1))) (And.intro (And.intro @z3s @z0j) (And.intro @j3q (And.intro @z8k @z8m))))) (And.intro (And.intro (And.intro (And.intro @z5u @j3e) (And.intro @e_ia @ilt_T)) (And.intro (And.intro @mkd.eq_1 @eq_f) (And.intro @viewDepth.eq_1 (And.intro @j2O @j1k)))) (And.intro (And.intro (And.intro @j5s @List.any_cons.{0}) (And.intro @List.any_nil.{0} (And.intro @z7g @z5t))) (And.intro (And.intro @j0f @e_agg) (And.intro @j0q (And.intro @List.length_map.{0,0} @j5z)))))))) (And.intro (And.intro (And.intro (And.intro (And.intro (And.intro (And.intro @z7p @e_len) (And.intro @e_and @z7x)) (And.intro (And.intro @z0z @List.contains_nil.{0}) (And.intro @q9l (And.intro @z2Q @Blk.refs.eq_1)))) (And.intro (And.intro (And.intro @Blk.refs.eq_2 @Blk.refs.eq_3) (And.intro @List.nodup_cons.{0} @List.not_mem_nil.{0})) (And.intro (And.intro @List.idxOf_cons.{0} @List.contains_cons.{0}) (And.intro @z3G (And.intro @z1k @List.filterMap_cons.{0,0}))))) (And.intro (And.intro (And.intro (And.intro @j2Z @List.flatMap_cons.{0,0}) (And.intro @List.flatMap_nil.{0,0} @withinL.eq_1)) (And.intro (And.intro @withinL.eq_2 @renL.eq_1) (And.intro @renL.eq_2 (And.intro @e_or @z8L)))) (And.intro (And.intro (And.intro @j3d @z4W) (And.intro @e_un (And.intro @List.mem_cons.{0} @ilt_F))) (And.intro (And.intro @ile_T @e_ext) (And.intro @j2a (And.intro @e_str @z91)))))) (And.intro (And.intro (And.intro (And.intro (And.intro @j2l @j19) (And.intro @nlt_T @q9O)) (And.intro (And.intro @z8u @z81) (And.intro @j0l (And.intro @z7a @z24)))) (And.intro (And.intro (And.intro @nle_T @Option.map_none.{0,0}) (And.intro @List.take_succ_cons.{0} (And.intro @ile_F @z6o))) (And.intro (And.intro @z8g @z40) (And.intro @e_set (And.intro @Option.some.injEq.{0} @z8W))))) (And.intro (And.intro (And.intro (And.intro @z3H @e_eqs) (And.intro @q51 @z4V)) (And.intro (And.intro @z9T @Rows.n.eq_1) (And.intro @Rows.n.eq_2 (And.intro @e_lkp @z7c)))) (And.intro (And.intro (And.intro @j2b @z3f) (And.intro @z77 (And.intro @ne_t @z42))) (And.intro (And.intro @z0t @z8p) (And.intro @z8t (And.intro @j1B @q8D))))))) (And.intro (And.intro (And.intro (And.intro (And.intro (And.intro @q9J @forgetR.eq_1) (And.intro @List.filter_cons.{0} @z3t)) (And.intro (And.intro @z4z @z92) (And.intro @handed.eq_1 (And.intro @Blk.dim.eq_1 @Blk.dim.eq_2)))) (And.intro (And.intro (And.intro @Blk.dim.eq_3 @j2X) (And.intro @V.dim.eq_1 (And.intro @V.dim.eq_2 @V.dim.eq_3))) (And.intro (And.intro @V.dim.eq_4 @V.dim.eq_5) (And.intro @V.dim.eq_6 (And.intro @V.dim.eq_7 @V.dim.eq_8))))) (And.intro (And.intro (And.intro (And.intro @V.dim.eq_9 @V.dim.eq_10) (And.intro @j2W @putAll.eq_1)) (And.intro (And.intro @putAll.eq_2 @j0n) (And.intro @Option.getD_some.{0} (And.intro @z84 @z4A)))) (And.intro (And.intro (And.intro @j3f @Blk.app.eq_1) (And.intro @Blk.app.eq_2 (And.intro @Blk.app.eq_3 @Blk.app.eq_4))) (And.intro (And.intro @restH.eq_1 @z5z) (And.intro @z9W (And.intro @z3x @j12)))))) (And.intro (And.intro (And.intro (And.intro (And.intro @j13 @z5H) (And.intro @Blk.plain.eq_1 @Blk.plain.eq_2)) (And.intro (And.intro @Blk.plain.eq_3 @Blk.new.eq_1) (And.intro @Blk.new.eq_2 (And.intro @Blk.new.eq_3 @z74)))) (And.intro (And.intro (And.intro @Rows.blk.eq_1 @Rows.blk.eq_2) (And.intro @z8o (And.intro @z3K @z9V))) (And.intro (And.intro @z5F @z0y) (And.intro @j0k (And.intro @z8f @cast7))))) (And.intro (And.intro (And.intro (And.intro @ne_f @z82) (And.intro @z68 @z2F)) (And.intro (And.intro @j16 @List.set_cons_succ.{0}) (And.intro @List.set_cons_zero.{0} (And.intro @j5y @z3E)))) (And.intro (And.intro (And.intro @List.length_drop.{0} @List.length_take.{0}) (And.intro @e_ix (And.intro @z9Z @z2J))) (And.intro (And.intro @j21 @z3F) (And.intro @j3t (And.intro @z6n @z8V)))))))))
theorem SX:type_of% SX0.down:=SX0.down
def SV0:=PLift.up (And.intro SX (And.intro (And.intro @mkBlk.eq_1 (And.intro @q2h @forgetH.eq_1)) (And.intro (And.intro @Blk.forget.eq_1 @Blk.forget.eq_2) (And.intro @Blk.forget.eq_3 @finB.eq_1))))
theorem SV:type_of% SV0.down:=SV0.down
end Go.Vm
end

section
namespace Go.Vm
theorem j0X   (c x):(V.d c x).refs=[]:=rfl
theorem z7D   (c k r):(V.fs c k r).refs=[]:=rfl
theorem z2i:(V.junk).refs=[]:=rfl
theorem z3Y   (b i j):(V.ptr b i j).new1=false:=rfl
theorem z30   (b i n):(V.bsl b i n).new1=false:=rfl
theorem z3Z   (b):(V.map b).new1=false:=rfl
theorem z32   (cs):(V.agg cs).new1=false:=rfl
theorem z3X   (vs):(V.tup vs).new1=false:=rfl
theorem z7M   (f cs):(V.fn f cs).new1=false:=rfl
theorem z0b   (t v):(V.iface t v).new1=false:=rfl
theorem z2m:(V.junk).new1=false:=rfl
theorem j3l   (c x):(V.d c x).new=(V.d c x).new1:=rfl
theorem j0Z   (c k r):(V.fs c k r).new=(V.fs c k r).new1:=rfl
theorem z7J   (b i j):(V.ptr b i j).new=(V.ptr b i j).new1:=rfl
theorem z7L   (b i n):(V.bsl b i n).new=(V.bsl b i n).new1:=rfl
theorem z7K   (b):(V.map b).new=(V.map b).new1:=rfl
theorem j00   (f cs):(V.fn f cs).new=(V.fn f cs).new1:=rfl
theorem z2l   (t v):(V.iface t v).new=(V.iface t v).new1:=rfl
theorem z3W:(V.junk).new=(V.junk).new1:=rfl
theorem z3S   (b i j):(V.ptr b i j).own1=true:=rfl
theorem z3U   (b i n):(V.bsl b i n).own1=true:=rfl
theorem z3T   (b):(V.map b).own1=true:=rfl
theorem z3V   (cs):(V.agg cs).own1=true:=rfl
theorem z3R   (vs):(V.tup vs).own1=true:=rfl
theorem z7I   (f cs):(V.fn f cs).own1=true:=rfl
theorem z0a   (t v):(V.iface t v).own1=true:=rfl
theorem z2k:(V.junk).own1=true:=rfl
theorem j3k   (c x):(V.d c x).own=(V.d c x).own1:=rfl
theorem j0Y   (c k r):(V.fs c k r).own=(V.fs c k r).own1:=rfl
theorem z7F   (b i j):(V.ptr b i j).own=(V.ptr b i j).own1:=rfl
theorem z7H   (b i n):(V.bsl b i n).own=(V.bsl b i n).own1:=rfl
theorem z7G   (b):(V.map b).own=(V.map b).own1:=rfl
theorem z7E   (vs):(V.tup vs).own=(V.tup vs).own1:=rfl
theorem z2j   (t v):(V.iface t v).own=(V.iface t v).own1:=rfl
theorem z3Q:(V.junk).own=(V.junk).own1:=rfl
theorem z4b   (c k r):(V.fs c k r).flat1=false:=rfl
theorem z2t   (b i j):(V.ptr b i j).flat1=false:=rfl
theorem z2v   (b i n):(V.bsl b i n).flat1=false:=rfl
theorem z2u   (b):(V.map b).flat1=false:=rfl
theorem z2w   (cs):(V.agg cs).flat1=false:=rfl
theorem z2s   (vs):(V.tup vs).flat1=false:=rfl
theorem z4c   (f cs):(V.fn f cs).flat1=false:=rfl
theorem q8Y   (t v):(V.iface t v).flat1=false:=rfl
theorem z0e:(V.junk).flat1=false:=rfl
theorem z7P   (c x):(V.d c x).flatV=(V.d c x).flat1:=rfl
theorem z39   (c k r):(V.fs c k r).flatV=(V.fs c k r).flat1:=rfl
theorem z2p   (b i j):(V.ptr b i j).flatV=(V.ptr b i j).flat1:=rfl
theorem z2r   (b i n):(V.bsl b i n).flatV=(V.bsl b i n).flat1:=rfl
theorem z2q   (b):(V.map b).flatV=(V.map b).flat1:=rfl
theorem z2o   (vs):(V.tup vs).flatV=(V.tup vs).flat1:=rfl
theorem z4a   (f cs):(V.fn f cs).flatV=(V.fn f cs).flat1:=rfl
theorem q8X   (t v):(V.iface t v).flatV=(V.iface t v).flat1:=rfl
theorem z0d:(V.junk).flatV=(V.junk).flat1:=rfl
theorem j0W(H)  (c x):view H (V.d c x)=(q0a viewDepth H (V.d c x)).map (.d false):=rfl
theorem z7C(H)  (c k r):view H (V.fs c k r)=(q0a viewDepth H (V.fs c k r)).map (.d false):=rfl
theorem z3N(H)  (b i j):view H (V.ptr b i j)=(q0a viewDepth H (V.ptr b i j)).map (.d false):=rfl
theorem z3P(H)  (b i n):view H (V.bsl b i n)=(q0a viewDepth H (V.bsl b i n)).map (.d false):=rfl
theorem z3O(H)  (b):view H (V.map b)=(q0a viewDepth H (V.map b)).map (.d false):=rfl
theorem z3M(H)  (vs):view H (V.tup vs)=(q0a viewDepth H (V.tup vs)).map (.d false):=rfl
theorem q99(H)  (t v):view H (V.iface t v)=(q0a viewDepth H (V.iface t v)).map (.d false):=rfl
theorem z2h(H):view H (V.junk)=(q0a viewDepth H (V.junk)).map (.d false):=rfl
theorem j01   (c x):(V.d c x).laid=(V.d c x).cell:=rfl
theorem z7N   (c k r):(V.fs c k r).laid=(V.fs c k r).cell:=rfl
theorem z35   (b i j):(V.ptr b i j).laid=(V.ptr b i j).cell:=rfl
theorem z38   (b i n):(V.bsl b i n).laid=(V.bsl b i n).cell:=rfl
theorem z36   (b):(V.map b).laid=(V.map b).cell:=rfl
theorem z34   (vs):(V.tup vs).laid=(V.tup vs).cell:=rfl
theorem z7O   (f cs):(V.fn f cs).laid=(V.fn f cs).cell:=rfl
theorem z0c   (t v):(V.iface t v).laid=(V.iface t v).cell:=rfl
theorem z2n:(V.junk).laid=(V.junk).cell:=rfl
theorem z7Y   (c x):(V.d c x).cells=[(V.d c x)]:=rfl
theorem z4o   (c k r):(V.fs c k r).cells=[(V.fs c k r)]:=rfl
theorem z2B   (b i j):(V.ptr b i j).cells=[(V.ptr b i j)]:=rfl
theorem z2D   (b i n):(V.bsl b i n).cells=[(V.bsl b i n)]:=rfl
theorem z2C   (b):(V.map b).cells=[(V.map b)]:=rfl
theorem z2A   (vs):(V.tup vs).cells=[(V.tup vs)]:=rfl
theorem z4p   (f cs):(V.fn f cs).cells=[(V.fn f cs)]:=rfl
theorem q8Z   (t v):(V.iface t v).cells=[(V.iface t v)]:=rfl
theorem z0h:(V.junk).cells=[(V.junk)]:=rfl
theorem j02(z) (bs) (H)  (c x):finV z bs H (V.d c x)=finA z bs H (V.d c x):=rfl
theorem z7Q(z) (bs) (H)  (c k r):finV z bs H (V.fs c k r)=finA z bs H (V.fs c k r):=rfl
theorem z4d(z) (bs) (H)  (b i j):finV z bs H (V.ptr b i j)=finA z bs H (V.ptr b i j):=rfl
theorem z4f(z) (bs) (H)  (b i n):finV z bs H (V.bsl b i n)=finA z bs H (V.bsl b i n):=rfl
theorem z4e(z) (bs) (H)  (b):finV z bs H (V.map b)=finA z bs H (V.map b):=rfl
theorem z4g(z) (bs) (H)  (cs):finV z bs H (V.agg cs)=finA z bs H (V.agg cs):=rfl
theorem z7R(z) (bs) (H)  (f cs):finV z bs H (V.fn f cs)=finA z bs H (V.fn f cs):=rfl
theorem z0f(z) (bs) (H)  (t v):finV z bs H (V.iface t v)=finA z bs H (V.iface t v):=rfl
theorem z2x(z) (bs) (H):finV z bs H (V.junk)=finA z bs H (V.junk):=rfl
theorem j03(z) (bs) (H)  (c x):finA z bs H (V.d c x)=finC z bs H (V.d c x):=rfl
theorem z7S(z) (bs) (H)  (c k r):finA z bs H (V.fs c k r)=finC z bs H (V.fs c k r):=rfl
theorem z4i(z) (bs) (H)  (b i j):finA z bs H (V.ptr b i j)=finC z bs H (V.ptr b i j):=rfl
theorem z4k(z) (bs) (H)  (b i n):finA z bs H (V.bsl b i n)=finC z bs H (V.bsl b i n):=rfl
theorem z4j(z) (bs) (H)  (b):finA z bs H (V.map b)=finC z bs H (V.map b):=rfl
theorem z4h(z) (bs) (H)  (vs):finA z bs H (V.tup vs)=finC z bs H (V.tup vs):=rfl
theorem z0g(z) (bs) (H)  (t v):finA z bs H (V.iface t v)=finC z bs H (V.iface t v):=rfl
theorem z2y(z) (bs) (H):finA z bs H (V.junk)=finC z bs H (V.junk):=rfl
theorem z4u   (cs):(V.agg cs).cell=false:=rfl
theorem z4q   (vs):(V.tup vs).cell=false:=rfl
theorem z2E:(V.junk).cell=false:=rfl
theorem j07   (c x):(V.d c x).cell=true:=rfl
theorem z7Z   (c k r):(V.fs c k r).cell=true:=rfl
theorem z4r   (b i j):(V.ptr b i j).cell=true:=rfl
theorem z4t   (b i n):(V.bsl b i n).cell=true:=rfl
theorem z4s   (b):(V.map b).cell=true:=rfl
theorem z71   (f cs):(V.fn f cs).cell=true:=rfl
theorem z0i   (t v):(V.iface t v).cell=true:=rfl
theorem j06(k n):(D.int k n).flat=true:=rfl
theorem z7X(b):(D.bool b).flat=true:=rfl
theorem j04(s):(D.str s).flat=true:=rfl
theorem j3m(k r):(D.sl k r).flat=false:=rfl
theorem j05(c):(D.ptr c).flat=false:=rfl
theorem z7U:(D.nilp).flat=true:=rfl
theorem z4l:(D.nilif).flat=true:=rfl
theorem z4m:(D.nilfn).flat=true:=rfl
theorem z4n(t c):(D.iface t c).flat=false:=rfl
theorem z7T(k):(D.nils k).flat=true:=rfl
theorem z7W(k):(D.emps k).flat=true:=rfl
theorem z7V:(D.nilm).flat=true:=rfl
def SW0:=PLift.up (And.intro (And.intro (And.intro (And.intro (And.intro (And.intro (And.intro @beq_self_eq_true.{0} (And.intro @if_true.{1} @Bool.and_self)) (And.intro (And.intro @decide_true @Nat.zero_add) (And.intro @if_false.{1} @Bool.false_eq_true))) (And.intro (And.intro @Bool.or_true (And.intro @Bool.or_self @Bool.and_false)) (And.intro (And.intro @Bool.not_true @List.getElem?_cons_zero.{0}) (And.intro @Bool.false_and @Bool.or_false)))) (And.intro (And.intro (And.intro @Nat.le_refl (And.intro @decide_false @and_self)) (And.intro (And.intro @not_false_eq_true @cond_true.{1}) (And.intro @Nat.add_zero @Bool.and_true))) (And.intro (And.intro @Bool.not_false (And.intro @List.getElem?_cons_succ.{0} @or_self)) (And.intro (And.intro @cond_false.{1} @bne_self_eq_false.{0}) (And.intro @e_cut @j1V))))) (And.intro (And.intro (And.intro (And.intro @Bool.true_or (And.intro @beq_iff_eq.{0} @or_false)) (And.intro (And.intro @eq_t @or_true) (And.intro @j20 @List.length_append.{0}))) (And.intro (And.intro @Int.toNat_natCast (And.intro @and_true @true_or)) (And.intro (And.intro @j5w @z8K) (And.intro @Bool.true_and @Prod.mk.injEq.{0,0})))) (And.intro (And.intro (And.intro @evBin.eq_1 (And.intro @evBin.eq_2 @intBin.eq_1)) (And.intro (And.intro @intBin.eq_2 @intBin.eq_3) (And.intro @intBin.eq_4 @intBin.eq_5))) (And.intro (And.intro @intBin.eq_6 (And.intro @intBin.eq_7 @intBin.eq_8)) (And.intro (And.intro @intBin.eq_9 @intBin.eq_10) (And.intro @intBin.eq_11 @intBin.eq_12)))))) (And.intro (And.intro (And.intro (And.intro (And.intro @intBin.eq_13 (And.intro @intBin.eq_14 @intBin.eq_15)) (And.intro (And.intro @evLen.eq_1 @evLen.eq_2) (And.intro @evLen.eq_3 @evLen.eq_4))) (And.intro (And.intro @evFa.eq_1 (And.intro @evFa.eq_2 @strBin.eq_1)) (And.intro (And.intro @strBin.eq_2 @strBin.eq_3) (And.intro @strBin.eq_4 @strBin.eq_5)))) (And.intro (And.intro (And.intro @strBin.eq_6 (And.intro @strBin.eq_7 @evUn.eq_1)) (And.intro (And.intro @evUn.eq_2 @evExt.eq_1) (And.intro @evSet.eq_1 @asD.eq_1))) (And.intro (And.intro @asD.eq_2 (And.intro @V.refs.eq_1 @V.refs.eq_2)) (And.intro (And.intro @V.refs.eq_3 @V.refs.eq_4) (And.intro @V.refs.eq_5 @V.refs.eq_6))))) (And.intro (And.intro (And.intro (And.intro @V.refs.eq_7 (And.intro @V.new1.eq_1 @V.new1.eq_2)) (And.intro (And.intro @V.new.eq_1 @V.new.eq_2) (And.intro @V.own.eq_1 @V.own.eq_2))) (And.intro (And.intro @V.own1.eq_1 (And.intro @V.own1.eq_2 @V.flat1.eq_1)) (And.intro (And.intro @V.flatV.eq_1 @view.eq_1) (And.intro @view.eq_2 @V.laid.eq_1)))) (And.intro (And.intro (And.intro @V.cells.eq_1 (And.intro @finC.eq_1 @finC.eq_2)) (And.intro (And.intro @finC.eq_3 @finC.eq_4) (And.intro @finC.eq_5 @finC.eq_6))) (And.intro (And.intro (And.intro @finA.eq_1 @finA.eq_2) (And.intro @finV.eq_1 @j0X)) (And.intro (And.intro @z7D @z2i) (And.intro @z3Y @z30))))))) (And.intro (And.intro (And.intro (And.intro (And.intro (And.intro @z3Z (And.intro @z32 @z3X)) (And.intro (And.intro @z7M @z0b) (And.intro @z2m @j3l))) (And.intro (And.intro @j0Z (And.intro @z7J @z7L)) (And.intro (And.intro @z7K @j00) (And.intro @z2l @z3W)))) (And.intro (And.intro (And.intro @z3S (And.intro @z3U @z3T)) (And.intro (And.intro @z3V @z3R) (And.intro @z7I @z0a))) (And.intro (And.intro @z2k (And.intro @j3k @j0Y)) (And.intro (And.intro @z7F @z7H) (And.intro @z7G @z7E))))) (And.intro (And.intro (And.intro (And.intro @z2j (And.intro @z3Q @z4b)) (And.intro (And.intro @z2t @z2v) (And.intro @z2u @z2w))) (And.intro (And.intro @z2s (And.intro @z4c @q8Y)) (And.intro (And.intro @z0e @z7P) (And.intro @z39 @z2p)))) (And.intro (And.intro (And.intro @z2r (And.intro @z2q @z2o)) (And.intro (And.intro @z4a @q8X) (And.intro @z0d @j0W))) (And.intro (And.intro @z7C (And.intro @z3N @z3P)) (And.intro (And.intro @z3O @z3M) (And.intro @q99 @z2h)))))) (And.intro (And.intro (And.intro (And.intro (And.intro @j01 (And.intro @z7N @z35)) (And.intro (And.intro @z38 @z36) (And.intro @z34 @z7O))) (And.intro (And.intro @z0c (And.intro @z2n @z7Y)) (And.intro (And.intro @z4o @z2B) (And.intro @z2D @z2C)))) (And.intro (And.intro (And.intro @z2A (And.intro @z4p @q8Z)) (And.intro (And.intro @z0h @j02) (And.intro @z7Q @z4d))) (And.intro (And.intro @z4f (And.intro @z4e @z4g)) (And.intro (And.intro @z7R @z0f) (And.intro @z2x @j03))))) (And.intro (And.intro (And.intro (And.intro @z7S (And.intro @z4i @z4k)) (And.intro (And.intro @z4j @z4h) (And.intro @z0g @z2y))) (And.intro (And.intro @z4u (And.intro @z4q @z2E)) (And.intro (And.intro @j07 @z7Z) (And.intro @z4r @z4t)))) (And.intro (And.intro (And.intro @z4s (And.intro @z71 @z0i)) (And.intro (And.intro @j06 @z7X) (And.intro @j04 @j3m))) (And.intro (And.intro (And.intro @j05 @z7U) (And.intro @z4l @z4m)) (And.intro (And.intro @z4n @z7T) (And.intro @z7W @z7V))))))))
theorem SW:type_of% SW0.down:=SW0.down
end Go.Vm
end

section
namespace Go.Vm
mutual
def D.eqb:D→D→Bool
 |.int k n,.int k' n'=>decide (k=k')&&decide (n=n')
 |.bool b,.bool b'=>b==b'
 |.str s,.str s'=>decide (s=s')
 |.sl k rows,.sl k' rows'=>decide (k=k')&&q2F rows rows'
 |.ptr cs,.ptr cs'=>dRow cs cs'
 |.nilp,.nilp=>true
 |.nilif,.nilif=>true
 |.nilfn,.nilfn=>true
 |.nilm,.nilm=>true
 |.nils k,.nils k'=>decide (k=k')
 |.emps k,.emps k'=>decide (k=k')
 |.iface t cs,.iface t' cs'=>decide (t=t')&&dRow cs cs'
 |_,_=>false
def dRow:List D→List D→Bool
 |[],[]=>true
 |a :: r,b :: s=>a.eqb b&&dRow r s
 |_,_=>false
def q2F:List (List D)→List (List D)→Bool
 |[],[]=>true
 |a :: r,b :: s=>dRow a b&&q2F r s
 |_,_=>false
end
mutual
theorem D.eqb_ok:∀ {x y:D},x.eqb y=true→x=y:=by
 intro x y h
 cases x <;> cases y <;> simp only[D.eqb,Bool.and_eq_true,decide_eq_true_eq,beq_iff_eq,reduceCtorEq,Bool.false_eq_true] at h <;> try rfl
 ·obtain⟨rfl,rfl⟩:=h;rfl
 ·subst h;rfl
 ·subst h;rfl
 ·obtain⟨rfl,h⟩:=h;rw[q8M h]
 ·rw[q8N h]
 ·obtain⟨rfl,h⟩:=h;rw[q8N h]
 ·subst h;rfl
 ·subst h;rfl
theorem q8N:∀ {x y:List D},dRow x y=true→x=y:=by
 intro x y h
 cases x with
 |nil=>cases y with
  |nil=>rfl
  |cons b s=>simp [dRow] at h
 |cons a r=>cases y with
  |nil=>simp [dRow] at h
  |cons b s=>
   simp only[dRow,Bool.and_eq_true] at h
   rw[D.eqb_ok h.1,q8N h.2]
theorem q8M:∀ {x y:List (List D)},q2F x y=true→x=y:=by
 intro x y h
 cases x with
 |nil=>cases y with
  |nil=>rfl
  |cons b s=>simp [q2F] at h
 |cons a r=>cases y with
  |nil=>simp [q2F] at h
  |cons b s=>
   simp only[q2F,Bool.and_eq_true] at h
   rw[q8N h.1,q8M h.2]
end
def V.eqb1:V→V→Bool
 |.d c x,.d c' x'=>c==c'&&x.eqb x'
 |.fs c k r,.fs c' k' r'=>c==c'&&decide (k=k')&&q2F r r'
 |_,_=>false
def vRow:List V→List V→Bool
 |[],[]=>true
 |a :: r,b :: s=>a.eqb1 b&&vRow r s
 |_,_=>false
def V.eqb:V→V→Bool
 |.agg cs,.agg cs'=>vRow cs cs'
 |v,u=>v.eqb1 u
theorem V.eqb1_ok{v u:V}(h:v.eqb1 u=true):v=u∧v.own1=false:=by
 cases v <;> cases u <;> simp only[V.eqb1,Bool.and_eq_true,decide_eq_true_eq,beq_iff_eq,Bool.false_eq_true] at h
 ·obtain⟨rfl,h⟩:=h;rw[D.eqb_ok h];exact⟨rfl,rfl⟩
 ·obtain⟨⟨rfl,rfl⟩,h⟩:=h;rw[q8M h];exact⟨rfl,rfl⟩
theorem j1a:∀ {x y:List V},vRow x y=true→x=y∧x.any V.own1=false:=by
 intro x
 induction x with
 |nil=>intro y h;cases y with
  |nil=>exact⟨rfl,rfl⟩
  |cons b s=>simp [vRow] at h
 |cons a r ih=>intro y h;cases y with
  |nil=>simp [vRow] at h
  |cons b s=>
   simp only[vRow,Bool.and_eq_true] at h
   obtain⟨h1,h2⟩:=V.eqb1_ok h.1
   obtain⟨h3,h4⟩:=ih h.2
   rw[←h1,←h3]
   exact⟨rfl,by simp [h2,h4]⟩
theorem V.eqb_ok{v u:V}(h:v.eqb u=true):v=u∧v.own=false:=by
 cases v with
 |agg cs=>cases u with
  |agg cs'=>
   simp only[V.eqb] at h
   obtain⟨h1,h2⟩:=j1a h
   exact⟨by rw[h1],h2⟩
  |_=>simp [V.eqb,V.eqb1] at h
 |d c x=>exact V.eqb1_ok (v:=.d c x) (by cases u <;> exact h)
 |fs c k r=>exact V.eqb1_ok (v:=.fs c k r) (by cases u <;> exact h)
 |_=>cases u <;> simp [V.eqb,V.eqb1] at h
def q3a(mv:List Nat):V→V→Bool
 |.ptr b i j,.ptr b' i' j'=>b==b'&&i==i'&&j==j'&&!mv.contains b
 |.bsl b i j,.bsl b' i' j'=>b==b'&&i==i'&&j==j'&&!mv.contains b
 |.map b,.map b'=>b==b'&&!mv.contains b
 |v,u=>v.eqb u
theorem z1V{mv:List Nat}{v u:V}(h:q3a mv v u=true):v=u∧q5s mv v:=by
 have other:v.eqb u=true→v=u∧q5s mv v:=fun h=>by
  obtain⟨h1,h2⟩:=V.eqb_ok h
  refine⟨h1,?_⟩
  cases v with
  |ptr b i j=>simp [V.own,V.own1] at h2
  |bsl b i j=>simp [V.own,V.own1] at h2
  |map b=>simp [V.own,V.own1] at h2
  |_=>exact h2
 unfold q3a at h
 split at h
 ·simp only[Bool.and_eq_true,beq_iff_eq,Bool.not_eq_true'] at h
  obtain⟨⟨⟨rfl,rfl⟩,rfl⟩,h⟩:=h
  exact⟨rfl,h⟩
 ·simp only[Bool.and_eq_true,beq_iff_eq,Bool.not_eq_true'] at h
  obtain⟨⟨⟨rfl,rfl⟩,rfl⟩,h⟩:=h
  exact⟨rfl,h⟩
 ·simp only[Bool.and_eq_true,beq_iff_eq,Bool.not_eq_true'] at h
  obtain⟨rfl,h⟩:=h
  exact⟨rfl,h⟩
 ·exact other h
def q4p(X:Cx)(s:S)(mv:List Nat)(g:Seg):Bool:=g.late.isEmpty||match q2E X s g.mks with
 |none=>true
 |some (s1,_)=>g.late.all fun e=>match ev X (q2g mv (q2i X s g mv) s1) e,ev X s1 e with
  |some v,some u=>q3a mv v u
  |_,_=>false
theorem z1U{X:Cx}{s:S}{mv:List Nat}{g:Seg}(h:q4p X s mv g=true):z1T X s mv g:=by
 intro e he s1 news hm
 unfold q4p at h
 rw[hm] at h
 simp only[Bool.or_eq_true,List.isEmpty_iff,List.all_eq_true] at h
 rcases h with h|h
 ·rw[h] at he;simp at he
 ·have:=h e he
  cases h1:ev X (q2g mv (q2i X s g mv) s1) e with
  |none=>rw[h1] at this;simp at this
  |some v=>cases h2:ev X s1 e with
   |none=>rw[h1,h2] at this;simp at this
   |some u=>
    rw[h1,h2] at this
    obtain⟨rfl,h3⟩:=z1V this
    exact⟨v,rfl,rfl,h3⟩
def q5S(X:Cx)(s:S)(g:Seg):Option S:=match q47 X s g with
 |some s'=>if q4p X s s'.mv g then some s' else none
 |none=>none
theorem q46{X:Cx}{g:Seg}{s s':S}(h:q5S X s g=some s'):q1g X s g=some s':=by
 unfold q5S at h
 unfold q1g
 cases h0:q47 X s g with
 |none=>rw[h0] at h;cases h
 |some s1=>
  rw[h0] at h
  simp only at h ⊢
  by_cases hl:q4p X s s1.mv g=true
  ·rw[if_pos hl] at h
   rw[if_pos (z1U hl)]
   exact h
  ·rw[if_neg hl] at h;cases h
def q64(X:Cx)(s:S):List Seg→Option S
 |[]=>some s
 |g :: r=>match q5S X s g with
  |some s'=>q64 X s' r
  |none=>none
theorem z3u{X:Cx}:∀ {l:List Seg}{s s':S},q64 X s l=some s'→q2f X s l=some s':=by
 intro l
 induction l with
 |nil=>intro s s' h;exact h
 |cons g l ih=>
  intro s s' h
  simp only[q64] at h
  simp only[q2f]
  cases h0:q5S X s g with
  |none=>rw[h0] at h;cases h
  |some s1=>rw[h0] at h;rw[q46 h0];exact ih h
def q8F(C:Cx)(s:S)(p:Pre)(g:Seg):Option S:=match p.sg with
 |none=>q5S C s g
 |some (t,b)=>match look s.rho t with
  |some (.d _ (.bool x))=>if x=b then q5S C s g else some (q21 s (q3O g))
  |_=>none
theorem z3v{X:Cx}{p:Pre}{g:Seg}{s s':S}(h:q8F X s p g=some s'):q3e X s p g=some s':=by
 unfold q8F at h
 unfold q3e
 split at h
 ·rename_i e;rw[e];exact q46 h
 ·rename_i t b e
  rw[e]
  simp only
  split at h
  ·rename_i c x hl
   rw[hl]
   simp only
   split at h
   ·rename_i hx;rw[if_pos hx];exact q46 h
   ·rename_i hx;rw[if_neg hx];exact h
  ·cases h
def q45(m:Nat)(C:Cx)(s:S):List (Pre×Seg)→Option S
 |[]=>some s
 |(p,g) :: r=>match q8F C (frzL m p.fz s) p g with
  |some s'=>q45 m C s' r
  |none=>none
theorem z07{X:Cx}{m:Nat}:∀ {l:List (Pre×Seg)}{s s':S},q45 m X s l=some s'→q06 m X s l=some s':=by
 intro l
 induction l with
 |nil=>intro s s' h;exact h
 |cons q l ih=>
  intro s s' h
  obtain⟨p,g⟩:=q
  simp only[q45] at h
  simp only[q06]
  cases h0:q8F X (frzL m p.fz s) p g with
  |none=>rw[h0] at h;cases h
  |some s1=>rw[h0] at h;rw[z3v h0];exact ih h
def q4e(X:Cx)(s s2:S)(g:Seg):Bool:=g.late.isEmpty||match q2E X s g.mks with
 |some (s1,_)=>g.late.all fun e=>match ev X s2 e,ev X s1 e with
  |some v,some u=>q3a [] v u
  |_,_=>false
 |none=>true
theorem z1w{X:Cx}{s s2:S}{g:Seg}(h:q4e X s s2 g=true):j0w X s s2 g:=by
 intro e he s1 news hm
 unfold q4e at h
 rw[hm] at h
 simp only[Bool.or_eq_true,List.isEmpty_iff,List.all_eq_true] at h
 rcases h with h|h
 ·rw[h] at he;simp at he
 ·have:=h e he
  cases h1:ev X s2 e with
  |none=>simp [h1] at this
  |some v=>
   cases h2:ev X s1 e with
   |none=>simp [h1,h2] at this
   |some u=>
    rw[h1,h2] at this
    rw[(z1V this).1]
def q44(C:Cx)(s:S):List Seg→Option S
 |[]=>some s
 |g :: r=>match q5S C s g with
  |some s'=>if r.isEmpty||q4e C s s' g then q44 C s' r else none
  |none=>none
theorem z05{X:Cx}:∀ {l:List Seg}{s s':S},q44 X s l=some s'→q1f X s l=some s':=by
 intro l
 induction l with
 |nil=>intro s s' h;exact h
 |cons g l ih=>
  intro s s' h
  simp only[q44] at h
  simp only[q1f]
  cases h0:q5S X s g with
  |none=>rw[h0] at h;cases h
  |some s1=>
   rw[h0] at h
   rw[q46 h0]
   simp only at h ⊢
   split at h
   ·rename_i hc
    rw[if_pos ?_]
    ·exact ih h
    ·simp only[Bool.or_eq_true,List.isEmpty_iff] at hc
     exact hc.imp id z1w
   ·cases h
def execC(N:Nat)(X:Cx):C→S→Option (Ex×S)
 |.skip,s=>some (.nrm,s)
 |.regg m l,s=>match q45 m X s l with
  |some s'=>some (.nrm,s')
  |none=>none
 |.regl l,s=>match q44 X s l with
  |some s'=>some (.nrm,s')
  |none=>none
 |.ownc t j k,s=>some (.nrm,z2W t j k s)
 |.reg l,s=>match q64 X s l with
  |some s'=>some (.nrm,s')
  |none=>none
 |.seq a b,s=>match execC N X a s with
  |some (.nrm,s')=>execC N X b s'
  |r=>r
 |.cond e a b,s=>match ev X s e with
  |some (.d _ (.bool x))=>if x then execC N X a s else execC N X b s
  |_=>none
 |.block id c,s=>match execC N X c s with
  |some (.exit i,s')=>if i=id then some (.nrm,s') else some (.exit i,s')
  |r=>r
 |.loop c,s=>iter (execC N X c) N s
 |.exit id,s=>some (.exit id,s)
 |.scope c ls,s=>q2I (fun l=>labelled N X ls l) N (execC N X c s)
 |.lnil,_=>none
 |.lcons _ _ _,_=>none
 |.label _,s=>some (.nrm,s)
 |.goto l,s=>some (.goto l,s)
 |.ret,s=>some (.ret,s)
 |.tidy m slots,s=>match q5l m slots s with
  |some s'=>some (.nrm,s')
  |none=>none
 |.own t k,s=>match look s.rho t with
  |some (.fs _ k' [])=>if k'=k then some (.nrm,⟨put s.rho t (.bsl s.nx 0 0),(s.nx,.dat true k []) :: s.heap,s.nx+1,s.mv⟩) else some (.nrm,s)
  |_=>some (.nrm,s)
 |.frz m t j,s=>some (.nrm,frzS m t j s)
 |.keep sl,s=>some (.nrm,q21 s sl)
 |.stuck,_=>none
 where
 labelled (N:Nat) (X:Cx):C→Nat→Option (S→Option (Ex×S))
  |.lcons l c ls,l'=>if l=l' then some (execC N X c) else labelled N X ls l'
  |_,_=>none
theorem j2h{f g:S→Option (Ex×S)}(h:∀ s r,f s=some r→g s=some r):∀(n:Nat)(s:S)(r:Ex×S),iter f n s=some r→iter g n s=some r:=by
 intro n
 induction n with
 |zero=>intro s r h;cases h
 |succ n ih=>
  intro s r hr
  simp only[iter] at hr ⊢
  cases hf:f s with
  |none=>rw[hf] at hr;cases hr
  |some q=>
   rw[h s q hf]
   rw[hf] at hr
   obtain⟨e,s'⟩:=q
   cases e with
   |nrm=>exact ih s' r hr
   |_=>exact hr
theorem z89{f g:Nat→Option (S→Option (Ex×S))}(h:∀ l k,f l=some k→∃ k',g l=some k'∧∀ s r,k s=some r→k' s=some r):∀(n:Nat)(q q':Option (Ex×S))(r:Ex×S),(∀ x,q=some x→q'=some x)→q2I f n q=some r→q2I g n q'=some r:=by
 intro n
 induction n with
 |zero=>intro q q' r _ h;cases h
 |succ n ih=>
  intro q q' r hq hr
  cases q with
  |none=>simp [q2I] at hr
  |some x=>
   rw[hq x rfl]
   obtain⟨e,s⟩:=x
   cases e with
   |goto l=>
    simp only[q2I] at hr ⊢
    cases hl:f l with
    |none=>rw[hl] at hr;cases hr
    |some k=>
     obtain⟨k',h1,h2⟩:=h l k hl
     rw[hl] at hr
     rw[h1]
     exact ih _ _ r (fun x hx=>h2 s x hx) hr
   |_=>exact hr
theorem z9p(N:Nat)(X:Cx):∀ c:C,(∀ s r,execC N X c s=some r→exec X c s=some r)∧∀ l k,execC.labelled N X c l=some k→∃ k',exec.labelled X c l=some k'∧∀ s r,k s=some r→k' s=some r:=by
 intro c
 induction c with
 |skip=>exact⟨fun s r h=>h,fun l k h=>by simp [execC.labelled] at h⟩
 |reg l=>
  refine⟨fun s r h=>?_,fun l k h=>by simp [execC.labelled] at h⟩
  simp only[execC] at h
  simp only[exec]
  cases hs:q64 X s l with
  |none=>rw[hs] at h;cases h
  |some s'=>rw[hs] at h;rw[z3u hs];exact h
 |seq a b iha ihb=>
  refine⟨fun s r h=>?_,fun l k h=>by simp [execC.labelled] at h⟩
  simp only[execC] at h
  simp only[exec]
  cases hs:execC N X a s with
  |none=>rw[hs] at h;cases h
  |some q=>
   rw[hs] at h
   rw[iha.1 s q hs]
   obtain⟨e,s'⟩:=q
   cases e with
   |nrm=>exact ihb.1 s' r h
   |_=>exact h
 |cond e a b iha ihb=>
  refine⟨fun s r h=>?_,fun l k h=>by simp [execC.labelled] at h⟩
  simp only[execC] at h
  simp only[exec]
  split at h
  ·rename_i x hx
   rw[hx]
   simp only
   cases x with
   |true=>exact iha.1 s r h
   |false=>exact ihb.1 s r h
  ·cases h
 |block id c ih=>
  refine⟨fun s r h=>?_,fun l k h=>by simp [execC.labelled] at h⟩
  simp only[execC] at h
  simp only[exec]
  cases hs:execC N X c s with
  |none=>rw[hs] at h;cases h
  |some q=>
   rw[hs] at h
   rw[ih.1 s q hs]
   exact h
 |loop c ih=>
  refine⟨fun s r h=>?_,fun l k h=>by simp [execC.labelled] at h⟩
  simp only[execC] at h
  simp only[exec]
  exact q36 (j2h ih.1 N s r h)
 |exit id=>exact⟨fun s r h=>h,fun l k h=>by simp [execC.labelled] at h⟩
 |scope c ls ihc ihl=>
  refine⟨fun s r h=>?_,fun l k h=>by simp [execC.labelled] at h⟩
  simp only[execC] at h
  simp only[exec]
  exact z47 (z89 ihl.2 N _ _ r (fun x hx=>ihc.1 s x hx) h)
 |lnil=>exact⟨fun s r h=>by simp [execC] at h,fun l k h=>by simp [execC.labelled] at h⟩
 |lcons l c ls ihc ihl=>
  refine⟨fun s r h=>by simp [execC] at h,fun l' k h=>?_⟩
  simp only[execC.labelled] at h
  simp only[exec.labelled]
  by_cases e:l=l'
  ·rw[if_pos e] at h ⊢
   obtain rfl:=Option.some.inj h
   exact⟨_,rfl,ihc.1⟩
  ·rw[if_neg e] at h ⊢
   exact ihl.2 l' k h
 |label l=>exact⟨fun s r h=>h,fun l k h=>by simp [execC.labelled] at h⟩
 |goto l=>exact⟨fun s r h=>h,fun l k h=>by simp [execC.labelled] at h⟩
 |ret=>exact⟨fun s r h=>h,fun l k h=>by simp [execC.labelled] at h⟩
 |tidy m slots=>exact⟨fun s r h=>h,fun l k h=>by simp [execC.labelled] at h⟩
 |own t k=>exact⟨fun s r h=>h,fun l k h=>by simp [execC.labelled] at h⟩
 |stuck=>exact⟨fun s r h=>by simp [execC] at h,fun l k h=>by simp [execC.labelled] at h⟩
 |keep sl=>exact⟨fun s r h=>h,fun l k h=>by simp [execC.labelled] at h⟩
 |frz m t j=>exact⟨fun s r h=>h,fun l k h=>by simp [execC.labelled] at h⟩
 |ownc t j k=>exact⟨fun s r h=>h,fun l k h=>by simp [execC.labelled] at h⟩
 |regl l=>
  refine⟨fun s r h=>?_,fun l k h=>by simp [execC.labelled] at h⟩
  simp only[execC] at h
  simp only[exec]
  cases h0:q44 X s l with
  |none=>rw[h0] at h;cases h
  |some s1=>rw[h0] at h;rw[z05 h0];exact h
 |regg m l=>
  refine⟨fun s r h=>?_,fun l k h=>by simp [execC.labelled] at h⟩
  simp only[execC] at h
  simp only[exec]
  cases h0:q45 m X s l with
  |none=>rw[h0] at h;cases h
  |some s1=>rw[h0] at h;rw[z07 h0];exact h
def z5b(N:Nat)(K:Cx)(g:Fun)(args:List V)(blks:List Blk):Option (V×List Blk×List Nat):=
 match execC N K g.body (startS args blks) with
 |some (.nrm,s)=>match mapO (ev K s) g.res with
  |some vs=>finish blks.length g.own s (q0b vs)
  |none=>none
 |some (.ret,s)=>match mapO (ev K s) g.res with
  |some vs=>finish blks.length g.own s (q0b vs)
  |none=>none
 |_=>none
theorem q7L{N:Nat}{K:Cx}{g:Fun}{args:List V}{blks:List Blk}{r:V×List Blk×List Nat}(h:z5b N K g args blks=some r):q0c K g args blks=some r:=by
 unfold z5b at h
 unfold q0c
 cases hs:execC N K g.body (startS args blks) with
 |none=>rw[hs] at h;cases h
 |some q=>
  rw[hs] at h
  rw[(z9p N K g.body).1 _ _ hs]
  exact h
variable {P:Program}
end Go.Vm
end

section
namespace Go.Vm
theorem q0q(K m l s):exec K (.regg m l) s=nrm (q06 m K s l):=by
 simp only[exec,nrm];cases q06 m K s l <;> rfl
noncomputable def z4X(K:Cx)(m:Nat)(r:List (Pre×Seg))(s:S):Option S:=q06 m K s r
theorem z06(m K s):q06 m K s []=some s:=by simp only[q06]
theorem q0x(K m s):z4X K m [] s=some s:=z06 m K s
theorem q0i(m K s fz sg g r):q06 m K s ((⟨fz,sg⟩,g) :: r)=o1 (z4X K m r) (q3e K (frzL m fz s) ⟨fz,sg⟩ g):=by
 simp only[q06,o1,z4X];cases q3e K (frzL m fz s) ⟨fz,sg⟩ g <;> rfl
theorem q0s(K m fz sg g r s):z4X K m ((⟨fz,sg⟩,g) :: r) s=o1 (z4X K m r) (q3e K (frzL m fz s) ⟨fz,sg⟩ g):=q0i m K s fz sg g r
theorem q0k(K s fz g):q3e K s ⟨fz,none⟩ g=q1g K s g:=rfl
noncomputable def sgC(K:Cx)(s:S)(g:Seg)(b:Bool):Option V→Option S
 |some (.d _ (.bool x))=>if x=b then q1g K s g else some (q21 s (q3O g))
 |_=>none
theorem q5J(K s g b c x):sgC K s g b (some (.d c (.bool x)))=if x=b then q1g K s g else some (q21 s (q3O g)):=rfl
theorem q1r(K s fz t b g):q3e K s ⟨fz,some (t,b)⟩ g=sgC K s g b (look s.rho t):=by
 simp only[q3e,sgC]
 cases look s.rho t with
 |none=>rfl
 |some v=>cases v <;> try rfl
theorem q0G(m s):frzL m [] s=s:=rfl
theorem q0y(m t l s):frzL m (t :: l) s=frzL m l (frzV m t s):=rfl
def frzD(m t:Nat)(s:S)(b n:Nat):Option Blk→S
 |some (.dat c k rows)=>if n=rows.length∧0<n∧m≤b then⟨put (forgetR (·== b) s.rho) t (.d c (.sl k rows)),put (forgetH (·== b) s.heap) b (.dat true k []),s.nx,s.mv⟩ else s
 |_=>s
theorem q58(m t s b n c k rows)(h:n=rows.length∧0<n∧m≤b):frzD m t s b n (some (.dat c k rows))=⟨put (forgetR (·== b) s.rho) t (.d c (.sl k rows)),put (forgetH (·== b) s.heap) b (.dat true k []),s.nx,s.mv⟩:=if_pos h
theorem q2U(m t s b c k r)(h:m≤b):frzD m t s b 1 (some (.dat c k [r]))=⟨put (forgetR (·== b) s.rho) t (.d c (.sl k [r])),put (forgetH (·== b) s.heap) b (.dat true k []),s.nx,s.mv⟩:=if_pos ⟨rfl,Nat.one_pos,h⟩
theorem q3c(m t s b n c k rows r)(h:n=rows.length)(h2:m≤b):frzD m t s b (n+1) (some (.dat c k (rows++[r])))=⟨put (forgetR (·== b) s.rho) t (.d c (.sl k (rows++[r]))),put (forgetH (·== b) s.heap) b (.dat true k []),s.nx,s.mv⟩:=if_pos ⟨by rw[List.length_append,h];rfl,Nat.succ_pos _,h2⟩
def frzA(m t:Nat)(s:S):Option V→S
 |some (.bsl b 0 n)=>frzD m t s b n (look s.heap b)
 |none=>s
 |_=>frzV m t s
theorem q9H(m t s):frzA m t s none=s:=rfl
theorem q0V(m t s b n):frzA m t s (some (.bsl b 0 n))=frzD m t s b n (look s.heap b):=rfl
theorem q05(m t s):frzV m t s=frzA m t s (look s.rho t):=by
 unfold frzA
 split
 ·rename_i b n h
  unfold frzV frzD
  rw[h]
  cases hb:look s.heap b with
  |none=>simp only[hb]
  |some k=>cases k <;> simp only[hb]
 ·rename_i h
  unfold frzV
  rw[h]
 ·rfl
theorem q2L(ρ H n mv keep):q21 ⟨ρ,H,n,mv⟩ keep=⟨q0g ρ keep,H,n,mv⟩:=rfl
theorem q01{K s g s'}(h:q47 K s g=some s')(hl:q4p K s s'.mv g=true):q1g K s g=some s':=by
 unfold q1g
 rw[h]
 exact if_pos (z1U hl)
theorem q1A(K s mks lets chk wr keep cnt aux wg late):q47 K s ⟨mks,lets,chk,wr,keep,cnt,aux,wg,late⟩=o1 (segL K s ⟨[],lets,chk,wr,keep,cnt,[],wg,[]⟩) (q2E K s mks):=by
 simp only[q47,o1,segL];cases q2E K s mks <;> rfl
end Go.Vm
end

section
namespace Go.Vm
set_option maxRecDepth 20000
abbrev BY:=List UInt8
@[reducible] def sV (s:BY):V:=.d false (.str s)
@[reducible] def cV (c:UInt8):V:=.d false (.int .u8 (c.toNat:Int))
def q1o(c:UInt8):Bool:=decide ((97:Int)≤(c.toNat:Int))&&decide ((c.toNat:Int)≤122)
def capB(c:UInt8):Bool:=decide ((65:Int)≤(c.toNat:Int))&&decide ((c.toNat:Int)≤90)
def q2w(c:UInt8):Bool:=q1o c||capB c||(decide ((48:Int)≤(c.toNat:Int))&&decide ((c.toNat:Int)≤57))||((c.toNat:Int)==95)||((c.toNat:Int)==39)
def q0O(s:BY):Bool:=s.all q2w
def q1Y(s:BY):Bool:=match s with
  |[]=>false
  |c :: r=>decide (s.length≤4096)&&q1o c&&q0O s
def K88(K:Cx):Prop:=∀ c:UInt8,K.call 88 [cV c]=some (.bool (q1o c),[])
def K91(K:Cx):Prop:=∀ c:UInt8,K.call 91 [cV c]=some (.bool (capB c),[])
def K96(K:Cx):Prop:=∀ c:UInt8,K.call 96 [cV c]=some (.bool (q2w c),[])
def K89(K:Cx):Prop:=∀ s:BY,s.length≤1099511627776→K.call 89 [sV s]=some (.bool (q0O s),[])
def K77(K:Cx):Prop:=∀ s:BY,K.call 77 [sV s]=some (.bool (q1Y s),[])
/- 'sloth/types.isVar' -/
def f77:Fun:=⟨ (.seq (.reg [⟨[],[],[(.bool false)],none,[0],1,[],[],[]⟩]) (.seq (.reg [⟨[],[(2,(.and (.and (.and (.bin .neq (.sl 0) (.str [])) (.bin .leq (.len true (.sl 0)) (.int .i64 4096))) (.call 88 (.cons (.ix (.sl 0) (.int .i64 0)) .nil))) (.call 89 (.cons (.sl 0) .nil))))],[],none,[],17,[],[],[]⟩]) (.seq (.tidy 0 [2]) .ret))), [(.sl 2)],false⟩
theorem j4l:q0o Go.Proofs.Tryz.prog 77 0 1 f77=true:=by kernel_rfl
/- 'sloth/types.small' -/
def f88:Fun:=⟨ (.seq (.reg [⟨[],[],[(.bool false)],none,[0],1,[],[],[]⟩]) (.seq (.reg [⟨[],[(2,(.and (.bin .geq (.sl 0) (.int .u8 97)) (.bin .leq (.sl 0) (.int .u8 122))))],[],none,[],7,[],[],[]⟩]) (.seq (.tidy 0 [2]) .ret))), [(.sl 2)],false⟩
theorem j4d:q0o Go.Proofs.Tryz.prog 88 0 1 f88=true:=by kernel_rfl
/- 'sloth/types.signs' -/
def f89_L0:C:= (.seq (.reg [⟨[],[(7,(.bin .lss (.sl 6) (.sl 5)))],[],none,[0,5,6],1,[],[],[]⟩]) (.seq (.cond (.sl 7) .skip (.seq (.tidy 0 []) (.exit 0))) (.seq (.block 1 (.seq (.reg [⟨[],[(3,(.sl 6))],[],none,[0,5,6],2,[],[],[]⟩]) (.seq (.reg [⟨[],[(13,(.un .not (.call 96 (.cons (.ix (.sl 0) (.sl 3)) .nil))))],[],none,[0,5,6],5,[],[],[]⟩]) (.cond (.sl 13) (.seq (.reg [⟨[],[(2,(.bool false))],[],none,[],1,[],[],[]⟩]) (.seq (.tidy 0 [2]) .ret)) .skip)))) (.reg [⟨[],[(6,(.bin .add (.sl 6) (.int .i64 1)))],[],none,[0,5],2,[],[],[]⟩]))))
def f89:Fun:=⟨ (.seq (.reg [⟨[],[],[(.bool false)],none,[0],1,[],[],[]⟩]) (.seq (.seq (.reg [⟨[],[(5,(.len true (.sl 0))),(6,(.int .i64 0))],[],none,[0],3,[],[],[]⟩]) (.block 0 (.seq (.tidy 0 [0,5,6]) (.loop (.seq (.tidy 0 [0,5,6]) f89_L0))))) (.seq (.reg [⟨[],[(2,(.bool true))],[],none,[],1,[],[],[]⟩]) (.seq (.tidy 0 [2]) .ret)))), [(.sl 2)],false⟩
theorem j4c:q0o Go.Proofs.Tryz.prog 89 0 1 f89=true:=by kernel_rfl
/- 'sloth/types.capital' -/
def f91:Fun:=⟨ (.seq (.reg [⟨[],[],[(.bool false)],none,[0],1,[],[],[]⟩]) (.seq (.reg [⟨[],[(2,(.and (.bin .geq (.sl 0) (.int .u8 65)) (.bin .leq (.sl 0) (.int .u8 90))))],[],none,[],7,[],[],[]⟩]) (.seq (.tidy 0 [2]) .ret))), [(.sl 2)],false⟩
theorem j4b:q0o Go.Proofs.Tryz.prog 91 0 1 f91=true:=by kernel_rfl
/- 'sloth/types.sign' -/
def f96:Fun:=⟨ (.seq (.reg [⟨[],[],[(.bool false)],none,[0],1,[],[],[]⟩]) (.seq (.reg [⟨[],[(2,(.or (.or (.or (.or (.call 88 (.cons (.sl 0) .nil)) (.call 91 (.cons (.sl 0) .nil))) (.and (.bin .geq (.sl 0) (.int .u8 48)) (.bin .leq (.sl 0) (.int .u8 57)))) (.bin .eql (.sl 0) (.int .u8 95))) (.bin .eql (.sl 0) (.int .u8 39))))],[],none,[],23,[],[],[]⟩]) (.seq (.tidy 0 [2]) .ret))), [(.sl 2)],false⟩
theorem j38:q0o Go.Proofs.Tryz.prog 96 0 1 f96=true:=by kernel_rfl
theorem z9s(K:Cx)(c:UInt8):q0c K f88 [cV c] []=some (.bool (q1o c),[],[]):=by
  unfold f88 q1o
  simp only[cV]
  simp(disch:=first|decide|omega|(simp only[LN];first|done|omega)) only[SV,SW,q0b]
theorem z3q(K:Cx)(c:UInt8):q0c K f91 [cV c] []=some (.bool (capB c),[],[]):=by
  unfold f91 capB
  simp only[cV]
  simp(disch:=first|decide|omega|(simp only[LN];first|done|omega)) only[SV,SW,q0b]
theorem j2B(K:Cx)(h1:K88 K)(h2:K91 K)(c:UInt8):q0c K f96 [cV c] []=some (.bool (q2w c),[],[]):=by
  have w1:=h1 c
  have w2:=h2 c
  unfold f96 q2w
  simp only[cV] at w1 w2 ⊢
  generalize q1o c=p at w1 ⊢
  generalize capB c=q at w2 ⊢
  simp(disch:=first|decide|omega|(simp only[LN];first|done|omega)) only[SV,SW,q0a,w1,w2,q0b]
theorem q0U(k:Nat):((k:Int)+1)=((k+1:Nat):Int):=by omega
theorem j23{s:BY}{k:Nat}{c:UInt8}{r:BY}(h:s.drop k=c :: r):nth s (k:Int)=c∧k<s.length∧s.drop (k+1)=r:=by
  have hl:k<s.length:=by
    rcases Nat.lt_or_ge k s.length with h'|h'
    · exact h'
    · rw[List.drop_eq_nil_of_le h'] at h;cases h
  have:=q1i hl
  rw[h] at this
  simp only[List.cons.injEq] at this
  exact⟨this.1.symm,hl,this.2.symm⟩
def z8l:Bool→Option (Ex×S)
  |true=>some (.exit 0,⟨[],[],0,[]⟩)
  |false=>some (.ret,⟨[(2,.bool false)],[],0,[]⟩)
theorem j1q(K:Cx)(h:K96 K)(s:BY)(hs:s.length≤1099511627776):∀(r:BY)(k:Nat),s.drop k=r→k≤s.length→
    lp K 0 [0,5,6] f89_L0 ⟨[(0,sV s),(5,.d false (.int .i64 s.length)),(6,.d false (.int .i64 k))],[],0,[]⟩=z8l (q0O r):=by
  intro r
  induction r with
  |nil=>
    intro k hd hk
    have hlen:=congrArg List.length hd
    rw[List.length_drop,List.length_nil] at hlen
    simp only[q0O,List.all_nil,z8l]
    rw[q0p f89_L0.eq_1]
    simp(disch:=first|decide|omega|(simp only[LN];first|done|omega)) only[SV,SW,Nat.reduceBEq]
  |cons c r ih=>
    intro k hd hk
    obtain⟨hn,hl,hd'⟩:=j23 hd
    have ih:=ih (k+1) hd' (by omega)
    have w:=h c
    simp only[cV] at w
    have e:q0O (c :: r)=(q2w c&&q0O r):=rfl
    rw[e]
    rw[q0p f89_L0.eq_1]
    clear hd hd'
    cases hc:q2w c with
    |false=>
      rw[hc] at w
      simp only[Bool.false_and,z8l]
      clear ih
      simp(disch:=first|decide|omega|(simp only[LN];first|done|omega)) only[SV,SW,Nat.reduceBEq,hn,q0a,w]
    |true=>
      rw[hc] at w
      simp only[Bool.true_and]
      rw[←ih]
      clear ih
      simp(disch:=first|decide|omega|(simp only[LN];first|done|omega)) only[SV,SW,Nat.reduceBEq,hn,q0a,w,q0U]
theorem z9t(K:Cx)(h:K96 K)(s:BY)(hs:s.length≤1099511627776):q0c K f89 [sV s] []=some (.bool (q0O s),[],[]):=by
  have w:=j1q K h s hs s 0 rfl (by omega)
  unfold f89
  simp only[Int.natCast_zero,Int.ofNat_zero] at w
  generalize q0O s=q at w ⊢
  cases q <;> (simp only[z8l] at w;simp(disch:=first|decide|omega|(simp only[LN];first|done|omega)) only[SV,SW,Nat.reduceBEq,w,q0b])
theorem z9I(K:Cx)(h1:K88 K)(h2:K89 K)(s:BY):q0c K f77 [sV s] []=some (.bool (q1Y s),[],[]):=by
  cases s with
  |nil=>
    unfold f77 q1Y
    simp only[sV]
    simp(disch:=first|decide|omega|(simp only[LN];first|done|omega)) only[SV,SW,q0a,q0b]
  |cons c r=>
    have hne:decide (c :: r=([]:BY))=false:=by simp
    have hle:decide (((r.length+1:Nat):Int)≤4096)=decide ((c :: r).length≤4096):=decide_eq_decide.2 (by simp only[List.length_cons];omega)
    unfold f77 q1Y
    by_cases hs:(c :: r).length≤4096
    · have w1:=h1 c
      have w2:=h2 (c :: r) (by omega)
      have hn:nth (c :: r) (0:Int)=c:=rfl
      simp only[cV,sV] at w1 w2 ⊢
      generalize q1o c=p at w1 ⊢
      generalize q0O (c :: r)=q at w2 ⊢
      simp(disch:=first|decide|omega|(simp only[LN];first|done|omega)) only[SV,SW,reduceCtorEq,hle,hn,q0a,w1,w2,q0b]
    · have hd:decide ((c :: r).length≤4096)=false:=decide_eq_false hs
      rw[hd] at hle
      simp only[hd,Bool.false_and]
      simp only[sV]
      simp(disch:=first|decide|omega|(simp only[LN];first|done|omega)) only[SV,SW,reduceCtorEq,hle,q0a,q0b]
def q04:BY→Bool
  |[]=>false
  |c :: r=>capB c&&q0O (c :: r)
def q1b(s:BY):Bool:=decide (s.length≤4096)&&!decide (s=[73,110,116])&&(Go.Lib.split s [46]).all q04&&decide ((Go.Lib.split s [46]).length≤2)
def K90(K:Cx):Prop:=∀ s:BY,s.length≤4096→K.call 90 [sV s,sV [46]]=some (.d true (.sl 1 ((Go.Lib.split s [46]).map fun x=>[.str x])),[])
def K78(K:Cx):Prop:=∀ s:BY,K.call 78 [sV s]=some (.bool (q1b s),[])
/- 'sloth/types.isData' -/
def f78_L0:C:= (.seq (.reg [⟨[],[(18,(.bin .lss (.sl 17) (.sl 16)))],[],none,[3,15,16,17],1,[],[],[]⟩]) (.seq (.cond (.sl 18) .skip (.seq (.tidy 0 [3]) (.exit 0))) (.seq (.block 1 (.seq (.reg [⟨[],[(5,(.ld 1 false (.ia 1 (.sl 15) (.sl 17))))],[],none,[3,15,16,17],3,[],[],[]⟩]) (.seq (.reg [⟨[],[(33,(.or (.or (.bin .eql (.sl 5) (.str [])) (.un .not (.call 91 (.cons (.ix (.sl 5) (.int .i64 0)) .nil)))) (.un .not (.call 89 (.cons (.sl 5) .nil)))))],[],none,[3,15,16,17],13,[],[],[]⟩]) (.cond (.sl 33) (.seq (.reg [⟨[],[(2,(.bool false))],[],none,[],1,[],[],[]⟩]) (.seq (.tidy 0 [2]) .ret)) .skip)))) (.reg [⟨[],[(17,(.bin .add (.sl 17) (.int .i64 1)))],[],none,[3,15,16],2,[],[],[]⟩]))))
def f78:Fun:=⟨ (.seq (.reg [⟨[],[],[(.bool false)],none,[0],1,[],[],[]⟩]) (.seq (.seq (.reg [⟨[],[(12,(.or (.bin .gtr (.len true (.sl 0)) (.int .i64 4096)) (.bin .eql (.sl 0) (.str [73,110,116]))))],[],none,[0],7,[],[],[]⟩]) (.cond (.sl 12) (.seq (.reg [⟨[],[(2,(.bool false))],[],none,[],1,[],[],[]⟩]) (.seq (.tidy 0 [2]) .ret)) .skip)) (.seq (.reg [⟨[],[(3,(.call 90 (.cons (.sl 0) (.cons (.str [46]) .nil))))],[],none,[],3,[],[],[]⟩]) (.seq (.seq (.reg [⟨[],[(15,(.sl 3)),(16,(.len false (.sl 3))),(17,(.int .i64 0))],[],none,[3],3,[],[],[]⟩]) (.block 0 (.seq (.tidy 0 [3,15,16,17]) (.loop (.seq (.tidy 0 [3,15,16,17]) f78_L0))))) (.seq (.reg [⟨[],[(2,(.bin .leq (.len false (.sl 3)) (.int .i64 2)))],[],none,[],4,[],[],[]⟩]) (.seq (.tidy 0 [2]) .ret)))))), [(.sl 2)],false⟩
theorem j4k:q0o Go.Proofs.Tryz.prog 78 0 1 f78=true:=by kernel_rfl
def sdD(x:BY):List D:=[.str x]
theorem j22(K:Cx)(h1:K91 K)(h2:K89 K)(l:List BY)(hl:l.length≤5000)(hs:∀ x∈l,x.length≤4096):∀(r:List BY)(k:Nat),l.drop k=r→k≤l.length→
    lp K 0 [3,15,16,17] f78_L0 ⟨[(3,.d true (.sl 1 (l.map sdD))),(15,.d true (.sl 1 (l.map sdD))),(16,.d false (.int .i64 l.length)),(17,.d false (.int .i64 k))],[],0,[]⟩ =
      if r.all q04 then some (.exit 0,⟨[(3,.d true (.sl 1 (l.map sdD)))],[],0,[]⟩) else some (.ret,⟨[(2,.bool false)],[],0,[]⟩):=by
  intro r
  induction r with
  |nil=>
    intro k hd hk
    have hlen:=congrArg List.length hd
    rw[List.length_drop,List.length_nil] at hlen
    simp only[List.all_nil,if_true]
    rw[q0p f78_L0.eq_1]
    clear hs
    simp(disch:=first|decide|omega|(simp only[LN];first|done|omega)) only[SV,SW,Nat.reduceBEq]
  |cons x r ih=>
    intro k hd hk
    have hl':k<l.length:=by
      rcases Nat.lt_or_ge k l.length with h'|h'
      · exact h'
      · rw[List.drop_eq_nil_of_le h'] at hd;cases hd
    have hdn:=q1i hl'
    rw[hd] at hdn
    simp only[List.cons.injEq] at hdn
    obtain⟨hn,hd'⟩:=hdn
    have hn:=hn.symm
    have ih:=ih (k+1) hd'.symm (by omega)
    have hx:x.length≤4096:=hs x (by rw[←List.take_append_drop k l,hd];simp)
    rw[q0p f78_L0.eq_1]
    clear hd hd' hs
    cases x with
    |nil=>
      simp only[List.all_cons,q04,Bool.false_and,Bool.false_eq_true,if_false]
      clear ih
      simp(disch:=first|decide|omega|(simp only[LN];first|done|omega)) only[SV,SW,Nat.reduceBEq,sdD,hn,q0a]
    |cons c y=>
      have w1:=h1 c
      have w2:=h2 (c :: y) (by omega)
      have hz:nth (c :: y) (0:Int)=c:=rfl
      have hne:decide (c :: y=([]:BY))=false:=by simp
      simp only[List.all_cons,q04]
      simp only[cV,sV] at w1 w2
      rcases Bool.eq_false_or_eq_true (capB c) with hp|hp
      · rcases Bool.eq_false_or_eq_true (q0O (c :: y)) with hq|hq
        · rw[hp] at w1
          rw[hq] at w2
          simp only[hp,hq,Bool.and_self,Bool.true_and]
          rw[←ih]
          clear ih
          simp(disch:=first|decide|omega|(simp only[LN];first|done|omega)) only[SV,SW,Nat.reduceBEq,sdD,hn,reduceCtorEq,hz,q0a,w1,w2,q0U]
        · rw[hp] at w1
          rw[hq] at w2
          simp only[hp,hq,Bool.and_false,Bool.false_and,Bool.false_eq_true,if_false]
          clear ih
          simp(disch:=first|decide|omega|(simp only[LN];first|done|omega)) only[SV,SW,Nat.reduceBEq,sdD,hn,reduceCtorEq,hz,q0a,w1,w2]
      · rw[hp] at w1
        simp only[hp,Bool.false_and,Bool.false_eq_true,if_false]
        clear ih
        simp(disch:=first|decide|omega|(simp only[LN];first|done|omega)) only[SV,SW,Nat.reduceBEq,sdD,hn,reduceCtorEq,hz,q0a,w1,w2]
theorem q7G(sep:BY)(sv:Nat):∀(k:Nat)(s:BY),(Go.Lib.splitK sep sv k s).length≤k+1
  |0,s=>by simp [Go.Lib.splitK]
  |k+1,s=>by
    unfold Go.Lib.splitK
    split
    · simp
    · simp only[List.length_cons]
      exact Nat.succ_le_succ (q7G sep sv k _)
theorem q9c(sep:BY):∀(k:Nat)(s:BY),∀ x∈Go.Lib.splitK sep 0 k s,x.length≤s.length
  |0,s=>by simp [Go.Lib.splitK]
  |k+1,s=>by
    unfold Go.Lib.splitK
    split
    · simp
    · intro x hx
      rcases List.mem_cons.1 hx with rfl|h
      · rw[List.length_take];omega
      · have:=q9c sep k _ x h
        rw[List.length_drop] at this
        omega
theorem z6N(K:Cx)(h1:K91 K)(h2:K89 K)(h3:K90 K)(s:BY):q0c K f78 [sV s] []=some (.bool (q1b s),[],[]):=by
  have hle:decide ((4096:Int)<(s.length:Int)) = !decide (s.length≤4096):=by
    by_cases h:s.length≤4096
    · simp only[h,decide_true,Bool.not_true,decide_eq_false_iff_not];omega
    · simp only[h,decide_false,Bool.not_false,decide_eq_true_eq];omega
  unfold q1b
  by_cases hs:s.length≤4096
  · by_cases hi:s=[73,110,116]
    · unfold f78
      simp only[sV,hs,hi,decide_true,Bool.not_true,Bool.and_false,Bool.false_and]
      simp(disch:=first|decide|omega|(simp only[LN];first|done|omega)) only[SV,SW,Nat.reduceAdd,q0b]
    · have w:=h3 s hs
      have hcnt:=Go.Lib.count_le s [46]
      have hlen:(Go.Lib.split s [46]).length≤5000:=by
        have:=q7G [46] 0 (Go.Lib.count s [46]) s
        unfold Go.Lib.split
        omega
      have wl:=j22 K h1 h2 (Go.Lib.split s [46]) hlen (fun x hx=>Nat.le_trans (q9c [46] _ s x hx) hs) _ 0 rfl (by omega)
      have hi':decide (s=[73,110,116])=false:=decide_eq_false hi
      have hi2:(List.map (fun x=>[D.str x]) (Go.Lib.split s [46]))=(Go.Lib.split s [46]).map sdD:=rfl
      rw[hi2] at w
      have hs':decide (s.length≤4096)=true:=decide_eq_true hs
      rw[hs'] at hle
      have hl2:decide (((Go.Lib.split s [46]).length:Int)≤2)=decide ((Go.Lib.split s [46]).length≤2):=decide_eq_decide.2 (by omega)
      simp only[hs',hi',Bool.not_false,Bool.true_and]
      simp only[List.drop_zero] at wl
      unfold f78
      simp only[sV,Int.natCast_zero,Int.ofNat_zero] at w wl ⊢
      generalize Go.Lib.split s [46]=l at *
      rcases Bool.eq_false_or_eq_true (l.all q04) with hp|hp
      · simp only[hp,if_true] at wl
        simp only[hp,Bool.true_and]
        clear hcnt
        simp(disch:=first|decide|omega|(simp only[LN];first|done|omega)) only[SV,SW,hi',Nat.reduceBEq,q0a,w,wl,hl2,q0b]
      · simp only[hp,Bool.false_eq_true,if_false] at wl
        simp only[hp,Bool.false_and]
        clear hcnt
        simp(disch:=first|decide|omega|(simp only[LN];first|done|omega)) only[SV,SW,hi',Nat.reduceBEq,q0a,w,wl,q0b]
  · have hs':decide (s.length≤4096)=false:=decide_eq_false hs
    rw[hs'] at hle
    unfold f78
    simp only[sV,hs',Bool.false_and]
    simp(disch:=first|decide|omega|(simp only[LN];first|done|omega)) only[SV,SW,q0b]
end Go.Vm
end

section
namespace Go.Vm
open Go.RowKit
variable {P:Program}{K:Cx}{n nn l:Nat}{X:Nat→Nat→Prop}{base:Nat}{w0:World}{F0:Nat→Prop}{m0:Nat}{σ0:Nat→Option Loc}{Q:Exit→Act→World→Prop}
def q5o(ops:Array Oper):Bool:=ops.all fun o=>match o.op with|.defer _=>false|_=>true
def q0Z:Code→Bool
 |.skip=>true
 |.region _ ops _=>q5o ops
 |.seq a b=>q0Z a&&q0Z b
 |.cond _ a b=>q0Z a&&q0Z b
 |.block _ a=>q0Z a
 |.exit _=>true
 |.ret=>true
 |_=>false
theorem z0J{ops:Array Oper}(h:q5o ops=true){i:Nat}{o:Oper}(ho:ops[i]? = some o):∀ c,o.op≠.defer c:=by
 intro c hc
 unfold q5o at h
 rw[Array.all_eq_true'] at h
 have:=h o (Array.mem_of_getElem? ho)
 rw[hc] at this
 cases this
abbrev FR(l:Nat):Fence:=Fence.wide.inRound l
theorem op_in{o:Oper}{a:Act}{w:World}{Kn:Act→World→Prop}(hnd:∀ c,o.op≠.defer c)(h:o.wp P a w Kn Q):o.wpIn (FR l) nn P a w Kn Q:=by
 refine⟨fun _ _=>trivial,?_⟩
 rw[Oper.semAt_eq _ _ _ hnd]
 unfold Oper.wp at h
 generalize (execOp a.eval o).run P w=r at h
 have hd:((FR l).depth.isSome=true→1≤nn):=fun h=>by cases h
 cases r with
 |ok v w'=>
  cases v with
  |enter f args=>
   exact⟨hd,CallsIn.inRound l (callsIn_wide.2 (h.mono fun e w'' he=>by cases e <;> exact he))⟩
  |row row args=>
   refine⟨hd,fun c cs _=>?_⟩
   obtain⟨v,w',r,s⟩:=h c cs
   exact⟨v,w',r,stepsIn_wide.2 s⟩
  |round=>exact h.elim
  |_=>exact h
 |halt x w'=>cases x <;> exact h
theorem z4B{ops:Array Oper}(hnd:q5o ops=true)(hQ:¬ LetsOut Q){i:Nat}{a:Act}{w:World}{Kn Kn':Act→World→Prop}(hk:∀ a w,Kn a w→Kn' a w)(h:wpOp P ops Q i Kn a w):wpOpIn (FR l) nn P ops Q i Kn' a w:=by
 unfold wpOp at h
 unfold wpOpIn
 cases ho:ops[i]? with
 |none=>rw[ho] at h;exact hk _ _ h
 |some o=>
  rw[ho] at h
  simp only at h ⊢
  split at h
  ·rename_i hw
   rw[if_pos hw]
   rcases h with h|⟨_,h⟩
   ·exact Oper.wpIn_mono hk (op_in (z0J hnd ho) h)
   ·exact absurd h hQ
  ·rename_i hw
   rw[if_neg hw]
   exact⟨fun _ _=>trivial,hk _ _ h⟩
theorem q8e{ops:Array Oper}(hnd:q5o ops=true)(hQ:¬ LetsOut Q):∀(is:List Nat)(a:Act)(w:World),wpOps P ops Q is a w→wpOpsIn (FR l) nn P ops Q is a w
 |[],a,w,h=>h
 |i :: is,a,w,h=>by
  rw[wpOps_cons] at h
  rw[wpOpsIn_cons]
  exact z4B hnd hQ (q8e hnd hQ is) h
theorem q5Z{ops:Array Oper}(hnd:q5o ops=true)(hQ:¬ LetsOut Q):∀(fuel:Nat)(listed:Array Bool)(a:Act)(w:World),wpAny P .any ops Q fuel listed a w→wpAnyIn (FR l) nn P .any ops Q fuel listed a w
 |0,_,_,_,h=>h
 |fuel+1,listed,a,w,h=>⟨h.1,fun i hi=>z4B hnd hQ (q5Z hnd hQ fuel _) (h.2 i hi)⟩
theorem q4M{r:Ex×S}:¬ LetsOut (Post K X base w0 F0 m0 σ0 n r):=by
 rintro⟨a,w,h,_⟩
 obtain⟨e,s⟩:=r
 cases e <;> cases h
theorem j2z(hm:P.follows .mixedOrders=true)(hK:K.Sound P):∀(c:C)(code:Code)(s:S)(r:Ex×S)(a:Act)(w:World)(F:Nat→Prop)(σ:Nat→Option Loc),chk P m0 n c code=true→q0Z code=true→exec K c s=some r→StRel K X base w0 F0 m0 σ0 n s a w F σ→
  code.wpIn (FR l) nn P (Post K X base w0 F0 m0 σ0 n r) a w:=by
 intro c
 induction c with
 |skip=>
  intro code s r a w F σ hc _ he hs
  cases code <;> simp only[chk] at hc <;> (try(cases hc;done))
  simp only[exec,Option.some.injEq] at he
  subst he
  exact wpIn_skip ⟨rfl,F,σ,hs⟩
 |reg g=>
  intro code s r a w F σ hc hp he hs
  cases code <;> simp only[chk] at hc <;> (try(cases hc;done))
  rename_i id ops draw
  simp only[q0Z] at hp
  simp only[exec] at he
  cases hev:q2f K s g with
  |none=>simp [hev] at he
  |some s'=>
   simp only[hev,Option.some.injEq] at he
   subst he
   cases draw with
   |false=>
    simp only[Bool.false_eq_true,if_false] at hc
    refine wpIn_region ?_
    have:=q8i (Q:=Post K X base w0 F0 m0 σ0 n (.nrm,s')) hK g 0 s s' a w F σ hc (Nat.zero_le _) hev hs fun a w F σ h=>⟨rfl,F,σ,h⟩
    rw[List.range_eq_range']
    exact q8e hp q4M _ _ _ (by simpa using this)
   |true=>
    simp only[if_true] at hc
    simp only[q8L,Bool.and_eq_true] at hc
    refine wpIn_region_any hm (q5Z hp q4M _ _ _ _ ?_)
    have hno:∀ i,(Array.replicate ops.size false).getD i false=false:=by
     intro i
     simp only[Array.getD_eq_getD_getElem?,Array.getElem?_replicate]
     split <;> rfl
    refine z1h hK (q7D hc.2) g 0 s s' hc.1 hev (fun a w F σ h=>⟨rfl,F,σ,h⟩) ops.size _ a _ F σ (by simp) ?_ (fun i hi=>by omega) (fun i _=>hno i) (hs.drawn _)
    unfold q0D
    refine Nat.le_trans (List.length_filter_le _ _) ?_
    simp
 |regl g=>
  intro code s r a w F σ hc hp he hs
  cases code <;> simp only[chk] at hc <;> (try(cases hc;done))
  rename_i id ops draw
  simp only[q0Z] at hp
  simp only[Bool.and_eq_true] at hc
  obtain⟨rfl,hc⟩:=hc
  simp only[exec] at he
  cases hev:q1f K s g with
  |none=>simp [hev] at he
  |some s'=>
   simp only[hev,Option.some.injEq] at he
   subst he
   simp only[q6b,Bool.and_eq_true] at hc
   refine wpIn_region_any hm (q5Z hp q4M _ _ _ _ ?_)
   have hno:∀ i,(Array.replicate ops.size false).getD i false=false:=by
    intro i
    simp only[Array.getD_eq_getD_getElem?,Array.getElem?_replicate]
    split <;> rfl
   refine q6g hK (q7D hc.2) s' (fun a w F σ h=>⟨rfl,F,σ,h⟩) g [] 0 s hc.1 hev (fun j hj=>by simp at hj) hs.dom hs.nxm hs.xm ops.size _ a _ (by simp) ?_ (fun i hi=>by omega) (fun i _ h=>by simp only[Li] at h;rw[hno] at h;cases h) (fun i _ h=>by simp only[Li] at h;rw[hno] at h;cases h) (fun g1 gs1 he R s1 T s2 news l hf=>?_)
   ·unfold q0D
    refine Nat.le_trans (List.length_filter_le _ _) ?_
    simp
   ·refine(q1a (P:=P) (ops:=ops) (B:=tabB (z2L g)) (R:=R) (s':=s2) hf.traced (hs.drawn _)).congr (fun r hr=>?_)
    exact⟨fun h=>h.elim,fun h=>by simp only[Li] at h;rw[hno] at h;cases h⟩
 |regg m' g=>
  intro code s r a w F σ hc hp he hs
  cases code <;> simp only[chk] at hc <;> (try(cases hc;done))
  rename_i id ops draw
  simp only[q0Z] at hp
  simp only[Bool.and_eq_true] at hc
  obtain⟨hm',hc⟩:=hc
  obtain rfl:m'=m0:=by simpa using hm'
  simp only[exec] at he
  cases hev:q06 m' K s g with
  |none=>simp [hev] at he
  |some s'=>
   simp only[hev,Option.some.injEq] at he
   subst he
   cases draw with
   |false=>
    simp only[Bool.false_eq_true,if_false] at hc
    refine wpIn_region ?_
    have:=q6k (Q:=Post K X base w0 F0 m' σ0 n (.nrm,s')) hK g 0 s s' a w F σ hc hev hs fun a w F σ h=>⟨rfl,F,σ,h⟩
    rw[List.range_eq_range']
    exact q8e hp q4M _ _ _ (by simpa using this)
   |true=>
    simp only[if_true] at hc
    simp only[q6c,Bool.and_eq_true] at hc
    refine wpIn_region_any hm (q5Z hp q4M _ _ _ _ ?_)
    have hno:∀ i,(Array.replicate ops.size false).getD i false=false:=by
     intro i
     simp only[Array.getD_eq_getD_getElem?,Array.getElem?_replicate]
     split <;> rfl
    refine q8V hK (q7D hc.2) g 0 s s' hc.1 hev (fun a w F σ h=>⟨rfl,F,σ,h⟩) ops.size _ a _ F σ (by simp) ?_ (fun i hi=>by omega) (fun i _=>hno i) (hs.drawn _)
    unfold q0D
    refine Nat.le_trans (List.length_filter_le _ _) ?_
    simp
 |seq x y ihx ihy=>
  intro code s r a w F σ hc hp he hs
  simp only[exec] at he
  have plain:∀ cx cy,code=.seq cx cy→chk P m0 n x cx=true→chk P m0 n y cy=true→code.wpIn (FR l) nn P (Post K X base w0 F0 m0 σ0 n r) a w:=by
   rintro cx cy rfl h1 h2
   simp only[q0Z,Bool.and_eq_true] at hp
   cases hx:exec K x s with
   |none=>simp [hx] at he
   |some p=>
    obtain⟨ex,s'⟩:=p
    refine wpIn_seq (wpIn_mono (ihx cx s _ a w F σ h1 hp.1 hx hs) fun e a' w' hp'=>?_)
    obtain⟨rfl,F',σ',hs'⟩:=hp'
    cases ex with
    |nrm=>
     simp only[hx] at he
     exact ihy cy s' r a' w' F' σ' h2 hp.2 he hs'
    |exit id=>simp only[hx,Option.some.injEq] at he;subst he;exact⟨rfl,F',σ',hs'⟩
    |goto l=>simp only[hx,Option.some.injEq] at he;subst he;exact⟨rfl,F',σ',hs'⟩
    |ret=>simp only[hx,Option.some.injEq] at he;subst he;exact⟨rfl,F',σ',hs'⟩
  by_cases hkp:∃ sl,x=.keep sl
  ·obtain⟨sl,rfl⟩:=hkp
   have hc':chk P m0 n y code=true:=by cases code <;> simpa only[chk] using hc
   simp only[exec] at he
   exact ihy code _ r a w F σ hc' hp he (hs.skip sl)
  by_cases hgc:∃ m' sl,x=.tidy m' sl
  ·obtain⟨m',sl,rfl⟩:=hgc
   have hc':(m'==m0)=true∧chk P m0 n y code=true:=by cases code <;> simpa only[chk,Bool.and_eq_true] using hc
   obtain⟨hm',hc'⟩:=hc'
   obtain rfl:m'=m0:=by simpa using hm'
   simp only[exec] at he
   cases hts:q5l m' sl s with
   |none=>simp [hts] at he
   |some s'=>
    simp only[hts] at he
    obtain⟨σ',hs'⟩:=hs.tidy hts
    exact ihy code _ r a w F σ' hc' hp he hs'
  ·by_cases hown:∃ t k,x=.own t k
   ·obtain⟨t,k,rfl⟩:=hown
    have hc':decide (t<n)=true∧chk P m0 n y code=true:=by cases code <;> simpa only[chk,Bool.and_eq_true] using hc
    simp only[exec] at he
    cases hl:look s.rho t with
    |none=>simp only[hl] at he;exact ihy code s r a w F σ hc'.2 hp he hs
    |some v=>
     cases v with
     |fs c k' rows=>
      cases rows with
      |nil=>
       simp only[hl] at he
       by_cases hk:k'=k
       ·simp only[hk,if_true] at he
        exact ihy code _ r a w F σ hc'.2 hp he (hs.own hl)
       ·simp only[hk,if_false] at he;exact ihy code s r a w F σ hc'.2 hp he hs
      |cons _ _=>simp only[hl] at he;exact ihy code s r a w F σ hc'.2 hp he hs
     |_=>simp only[hl] at he;exact ihy code s r a w F σ hc'.2 hp he hs
   ·by_cases hfrz:∃ m' t j,x=.frz m' t j
    ·obtain⟨m',t,j,rfl⟩:=hfrz
     have hc':(m'==m0)=true∧chk P m0 n y code=true:=by cases code <;> simpa only[chk,Bool.and_eq_true] using hc
     obtain⟨hm',hc'⟩:=hc'
     obtain rfl:m'=m0:=by simpa using hm'
     simp only[exec] at he
     obtain⟨F',σ',hs'⟩:=hs.freeze t j
     exact ihy code _ r a w F' σ' hc' hp he hs'
    ·by_cases hoc:∃ t j k,x=.ownc t j k
     ·obtain⟨t,j,k,rfl⟩:=hoc
      have hc':chk P m0 n y code=true:=by cases code <;> simpa only[chk] using hc
      simp only[exec] at he
      exact ihy code _ r a w F σ hc' hp he (hs.ownc t j k)
     ·cases code with
      |seq cx cy=>
       have:chk P m0 n x cx=true∧chk P m0 n y cy=true:=by
        cases x <;> first|(exact absurd ⟨_,rfl⟩ hkp)|(exact absurd ⟨_,_,rfl⟩ hgc)|(exact absurd ⟨_,_,rfl⟩ hown)|(exact absurd ⟨_,_,_,rfl⟩ hfrz)|(exact absurd ⟨_,_,_,rfl⟩ hoc)|(simpa only[chk,Bool.and_eq_true] using hc)
       exact plain cx cy rfl this.1 this.2
      |_=>cases x <;> first|(exact absurd ⟨_,rfl⟩ hkp)|(exact absurd ⟨_,_,rfl⟩ hgc)|(exact absurd ⟨_,_,rfl⟩ hown)|(exact absurd ⟨_,_,_,rfl⟩ hfrz)|(exact absurd ⟨_,_,_,rfl⟩ hoc)|(simp [chk] at hc)
 |cond e x y ihx ihy=>
  intro code s r a w F σ hc hp he hs
  cases code <;> simp only[chk] at hc <;> (try(cases hc;done))
  rename_i oc cx cy
  simp only[Bool.and_eq_true,decide_eq_true_eq] at hc
  simp only[q0Z,Bool.and_eq_true] at hp
  simp only[exec] at he
  cases hv:ev K s e with
  |none=>simp [hv] at he
  |some v=>
   cases v with
   |d k x=>
    cases x with
    |bool b=>
     simp only[hv] at he
     have hb:=(q9F hs hc.1.1 hv).bool_inv
     refine wpIn_cond hb ?_
     cases b with
     |true=>exact ihx cx s r a w F σ hc.1.2 hp.1 (by simpa using he) hs
     |false=>exact ihy cy s r a w F σ hc.2 hp.2 (by simpa using he) hs
    |_=>simp [hv] at he
   |_=>simp [hv] at he
 |block id x ih=>
  intro code s r a w F σ hc hp he hs
  cases code <;> simp only[chk] at hc <;> (try(cases hc;done))
  rename_i id' cx
  simp only[Bool.and_eq_true,beq_iff_eq] at hc
  obtain⟨rfl,hc⟩:=hc
  simp only[q0Z] at hp
  simp only[exec] at he
  cases hx:exec K x s with
  |none=>simp [hx] at he
  |some p=>
   obtain⟨ex,s'⟩:=p
   refine wpIn_block (wpIn_mono (ih cx s _ a w F σ hc hp hx hs) fun e a' w' hp=>?_)
   obtain⟨rfl,F',σ',hs'⟩:=hp
   cases ex with
   |exit i=>
    simp only[hx] at he
    simp only[Ex.to,Exit.inBlock]
    split at he
    ·rename_i hi
     rw[if_pos hi]
     simp only[Option.some.injEq] at he
     subst he
     exact⟨rfl,F',σ',hs'⟩
    ·rename_i hi
     rw[if_neg hi]
     simp only[Option.some.injEq] at he
     subst he
     exact⟨rfl,F',σ',hs'⟩
   |nrm=>simp only[hx,Option.some.injEq] at he;subst he;exact⟨rfl,F',σ',hs'⟩
   |goto l=>simp only[hx,Option.some.injEq] at he;subst he;exact⟨rfl,F',σ',hs'⟩
   |ret=>simp only[hx,Option.some.injEq] at he;subst he;exact⟨rfl,F',σ',hs'⟩
 |exit id=>
  intro code s r a w F σ hc hp he hs
  cases code <;> simp only[chk] at hc <;> (try(cases hc;done))
  simp only[beq_iff_eq] at hc
  subst hc
  simp only[exec,Option.some.injEq] at he
  subst he
  exact wpIn_exit ⟨rfl,F,σ,hs⟩
 |ret=>
  intro code s r a w F σ hc hp he hs
  cases code <;> simp only[chk] at hc <;> (try(cases hc;done))
  simp only[exec,Option.some.injEq] at he
  subst he
  exact wpIn_ret ⟨rfl,F,σ,hs⟩
 |_=>
  intro code s r a w F σ hc hp he hs
  first
   |(simp only[exec] at he;cases he;done)
   |(cases code <;> simp_all [chk,q0Z];done)
end Go.Vm
end

section
namespace Go.Vm
open Go.Proofs Go.RowKit Go.Shelf
attribute [local go_sem] Oper.semAt_some
inductive Ty where
 |mk (k:Int) (name:List UInt8) (args:List Ty)
mutual
def Ty.d:Ty→List D
 |.mk k n l=>[.int .i64 k,.str n,.sl 3 (dL l)]
def dL:List Ty→List (List D)
 |[]=>[]
 |t :: r=>t.d :: dL r
end
mutual
def Ty.vars:Ty→List (List UInt8)
 |.mk k n l=>if k=2 then [n] else q2G l
def q2G:List Ty→List (List UInt8)
 |[]=>[]
 |t :: r=>t.vars++q2G r
end
mutual
def Ty.fit:Ty→Prop
 |.mk _ _ l=>l.length≤most∧fitL l
def fitL:List Ty→Prop
 |[]=>True
 |t :: r=>t.fit∧fitL r
end
theorem z1Z:∀(l:List Ty)(i:Nat)(t:Ty),fitL l→l[i]? = some t→t.fit
 |[],i,t,_,h=>by simp at h
 |u :: r,0,t,hf,h=>by simp at h;subst h;exact hf.1
 |u :: r,i+1,t,hf,h=>by simp at h;exact z1Z r i t hf.2 h
theorem z2d:∀ l:List Ty,(dL l).length=l.length
 |[]=>rfl
 |t :: r=>by simp [dL,z2d r]
theorem z7m:∀(l:List Ty)(i:Nat)(t:Ty),l[i]? = some t→(dL l)[i]? = some t.d
 |[],i,t,h=>by simp at h
 |u :: r,0,t,h=>by simp at h;simp [dL,h]
 |u :: r,i+1,t,h=>by simp at h;simp [dL,z7m r i t h]
theorem q7z:∀(l:List Ty)(i:Nat)(t:Ty),l[i]? = some t→q2G (l.take (i+1))=q2G (l.take i)++t.vars
 |[],i,t,h=>by simp at h
 |u :: r,0,t,h=>by simp at h;simp [q2G,h]
 |u :: r,i+1,t,h=>by simp at h;simp [q2G,q7z r i t h]
theorem q5H:∀(a b:List Ty),q2G (a++b)=q2G a++q2G b
 |[],b=>rfl
 |t :: a,b=>by simp [q2G,q5H a b]
theorem q7m(l:List Ty)(i:Nat):(q2G (l.take i)).length≤(q2G l).length:=by
 have:=congrArg (fun x=>(q2G x).length) (List.take_append_drop i l)
 simp only[q5H,List.length_append] at this
 omega
theorem q4I{W:World}{F:Nat→Prop}{v:Value}{ls:List Ty}(h:RepD W F v (.sl 3 (dL ls))):∃ a cap,v=.slice a ls.length cap∧ls.length≤cap∧
  ∀(j:Nat) (t:Ty),ls[j]? = some t→∃(b o:Nat) (g:Nat→Value),a=some ⟨b,o,none⟩∧F b∧∀(c:Nat) (d:D),t.d[c]? = some d→W.cell? ⟨b,o+(j*3+c),none⟩=some (g c)∧RepD W F (g c) d:=by
 generalize hd:D.sl 3 (dL ls)=dd at h
 cases h with
 |sl0 a cap k=>
  simp only[D.sl.injEq] at hd
  have:ls=[]:=by
   have:=congrArg List.length hd.2
   rw[z2d] at this
   exact List.length_eq_zero_iff.1 this
  subst this
  exact⟨a,cap,rfl,Nat.zero_le _,fun j t h=>by simp at h⟩
 |sl b o len cap k rows g h1 h2 h3 h4 h5 h6=>
  simp only[D.sl.injEq] at hd
  obtain⟨rfl,rfl⟩:=hd
  rw[z2d] at h1
  subst h1
  exact⟨_,cap,rfl,h2,fun j t ht=>⟨b,o,g j,rfl,h3,fun c d hd=>⟨h5 j c _ d (z7m ls j t ht) hd,h6 j c _ d (z7m ls j t ht) hd⟩⟩⟩
 |_=>cases hd
set_option maxRecDepth 100000 in
set_option maxHeartbeats 2000000 in
theorem j2Y(l n₀ N:Nat)(F:Nat→Prop)(hFn:∀ b,F b→b<n₀)(J:List (List UInt8)→World→Prop)(hJ:∀ s A B,J s A→World.grownBy A B none→J s B)
  (Jx:List (List UInt8)→World→Prop) (hY:∀ m pre x W,J pre W→pre.length<N→YieldAt Fence.wide m Tryz.prog l #[.string ⟨x.toArray⟩] W fun e W'=>(e=.returned (.bool true)∧J (pre++[x]) W'∧Below n₀ W W')∨(e=.returned (.bool false)∧Jx (pre++[x]) W')) :
  ∀(sz:Nat) (T:Ty) (n:Nat) (pre:List (List UInt8)) (W:World) (v0 v1 v2:Value),SizeOf.sizeOf T<sz→T.fit→n₀≤W.heap.size→(∀(j:Nat) (v:Value) (d:D),#[v0,v1,v2][j]? = some v→T.d[j]? = some d→RepD W F v d)→J pre W→pre.length+T.vars.length≤N→
   CallsIn Fence.wide n Tryz.prog 63 #[.agg #[v0,v1,v2],.func (.yield l) #[] #[]] W fun e W'=>(e=.returned (.bool true)∧J (pre++T.vars) W'∧Below n₀ W W')∨(e=.returned (.bool false)∧∃ q,Jx (pre++q) W'):=by
 intro sz
 induction sz with
 |zero=>intro T n pre W v0 v1 v2 h;omega
 |succ sz ih=>
  rintro⟨k,nm,ls⟩ n pre W v0 v1 v2 hsz ⟨hln,hfl⟩ hle hrep h0 hN
  have hmost:most=1099511627776:=rfl
  have r0:=hrep 0 v0 _ rfl rfl
  have r1:=hrep 1 v1 _ rfl rfl
  have r2:=hrep 2 v2 _ rfl rfl
  cases r0 with
  |int=>
   generalize hd1:D.str nm=d1 at r1
   cases r1 with
   |str s=>
    simp only[D.str.injEq] at hd1
    subst hd1
    refine callsIn_of_wp Tryz.func63 rfl trivial ?_ rfl
    simp only[Tryz.ntmps63,List.size_toArray,List.length_cons,List.length_nil,Nat.reduceAdd,Nat.reduceSub,Array.replicate_succ,Array.replicate_zero,List.push_toArray,List.append_toArray,List.nil_append,List.cons_append]
    by_cases hk:k=2
    ·subst hk
     simp only[Ty.vars,if_true,List.length_cons,List.length_nil] at hN ⊢
     obtain⟨fn,tmps,assign,body,hy,hR⟩:=hY (n - 1) pre s.data.toList (W.alloc (.cells #[.int .i64 2,.string s,v2] 24)) (hJ _ _ _ h0 (World.grownBy_alloc W _ none)) (by omega)
     simp only[Array.toArray_toList] at hy hR
     gi_wp2
     refine⟨fun h=>(by cases h),hR.mono ?_⟩
     rintro e W2 (⟨rfl,hj,hb⟩|⟨rfl,hx⟩)
     ·gi_wp2
      go_ret
      exact .inl ⟨rfl,hj,((Below.refl n₀ W).alloc hle _).trans hb⟩
     ·gi_wp2
      go_ret
      exact .inr ⟨rfl,_,hx⟩
    ·simp only[Ty.vars,if_neg hk] at hN ⊢
     obtain⟨a,cap,rfl,hcap,hel⟩:=q4I r2
     have hkb:(k==2)=false:=by simpa using hk
     gi_wp2
     gi_loopw [17] (fun i wr=>∃ j:Nat,j≤ls.length∧i=.int .i64 j∧J (pre++q2G (ls.take j)) wr∧Below n₀ W wr)
      (fun i _=>ls.length - (intOf i).toNat)
     case atStart=>exact⟨0,Nat.zero_le _,rfl,by simpa [q2G] using hJ _ _ _ h0 (World.grownBy_alloc W _ none),(Below.refl n₀ W).alloc hle _⟩
     case round=>
      obtain⟨j,hj,rfl,hJs,hbw⟩:=hrel
      by_cases hlt:j<ls.length
      ·obtain⟨b,o,g,rfl,hFb,hg⟩:=hel j ls[j] (List.getElem?_eq_getElem hlt)
       cases hT:ls[j] with
       |mk k' n' l'=>
        rw[hT] at hg
        obtain⟨c0,q0⟩:=hg 0 _ rfl
        obtain⟨c1,q1⟩:=hg 1 _ rfl
        obtain⟨c2,q2⟩:=hg 2 _ rfl
        have hbn:=hFn b hFb
        replace c0:=(hbw.cell (p:=⟨b,o+(j*3+0),none⟩) hbn).trans c0
        replace c1:=(hbw.cell (p:=⟨b,o+(j*3+1),none⟩) hbn).trans c1
        replace c2:=(hbw.cell (p:=⟨b,o+(j*3+2),none⟩) hbn).trans c2
        simp only[←Nat.add_assoc,Nat.add_zero] at c0 c1 c2
        obtain⟨s',e1⟩:∃ s',g 1=.string s':=by
         generalize hd1:D.str n'=d1 at q1
         generalize g 1=x1 at q1
         cases q1 with
         |str s'=>exact⟨s',rfl⟩
         |_=>cases hd1
        have e0:g 0=.int .i64 k':=by
         generalize g 0=x0 at q0
         cases q0;rfl
        obtain⟨a2,cap2,e2,_⟩:=q4I q2
        rw[e0] at c0 q0
        rw[e1] at c1 q1
        rw[e2] at c2 q2
        have hT':ls[j]? = some (.mk k' n' l'):=by rw[List.getElem?_eq_getElem hlt,hT]
        have hvt:=q7z ls j _ hT'
        have hvl:(q2G (ls.take j)).length+(Ty.mk k' n' l').vars.length≤(q2G ls).length:=by
         have:=q7m ls (j+1)
         rw[hvt,List.length_append] at this
         exact this
        gi_wp2
        refine⟨trivial,fun h=>(by cases h),(ih (.mk k' n' l') (n - 1) (pre++q2G (ls.take j)) _ _ _ _ ?size (z1Z ls j _ hfl hT') (by have:=hbw.size;simp;omega) (fun i v d hv hd=>?rep) (hJ _ _ _ hJs (World.grownBy_alloc wr _ none)) (by rw[List.length_append];omega)).mono ?_⟩
        case size=>
         have h1:=List.sizeOf_lt_of_mem (List.mem_of_getElem? hT')
         simp only[Ty.mk.sizeOf_spec] at hsz h1 ⊢
         omega
        case rep=>
         have mono:∀ {v d},RepD W F v d→RepD (wr.alloc (.cells #[.int .i64 k',.string s',.slice a2 l'.length cap2] 24)) F v d:=fun h=>h.mono fun y hy=>⟨hy,by
          have hy':=hFn y hy
          have hws:=hbw.size
          exact(Below.heap_alloc wr _ y (by omega)).trans (hbw.block y hy')⟩
         match i,hv,hd with
         |0,hv,hd=>simp [Ty.d] at hv hd;subst hv;subst hd;exact mono q0
         |1,hv,hd=>simp [Ty.d] at hv hd;subst hv;subst hd;exact mono q1
         |2,hv,hd=>simp [Ty.d] at hv hd;subst hv;subst hd;exact mono q2
         |i+3,hv,hd=>simp at hv
        rintro e W3 (⟨rfl,hJ3,hb3⟩|⟨rfl,q,hx3⟩)
        case inr=>
         gi_wp2
         go_ret
         exact .inr ⟨rfl,q2G (ls.take j)++q,by simpa [List.append_assoc] using hx3⟩
        gi_wp2
        go_roundw
        case rel=>
         exact⟨j+1,by omega,by simp,by rw[hvt,←List.append_assoc];exact hJ3,(hbw.alloc (Nat.le_trans hle hbw.size) _).trans hb3⟩
        case measure=>
         simp [intOf];omega
      ·obtain rfl:j=ls.length:=by omega
       gi_wp2
       go_ret
       refine .inl ⟨rfl,?_,hbw⟩
       simpa using hJs
   |_=>cases hd1
end Go.Vm
end

section
namespace Go.Vm
set_option maxRecDepth 20000
open Go.Proofs
instance:Inhabited Ty:=⟨.mk 0 [] []⟩
theorem q09:∀ l:List Ty,dL l=l.map Ty.d
  |[]=>rfl
  |t :: r=>by rw[dL,q09 r];rfl
@[reducible] def tyW:Ty→V
  |.mk k n l=>.agg [.d false (.int .i64 k),.d false (.str n),.d false (.sl 3 (dL l))]
@[reducible] def tlV (l:List Ty):V:=.d false (.sl 3 (l.map Ty.d))
mutual
def Ty.mayB:Ty→Bool
  |.mk k n l=>if k=1 then decide (n=[])&&decide (l.length=0)&&mayL l
    else if k=2 then q1Y n&&decide (l.length=0)&&mayL l
    else if k=3 then decide (n=[])&&decide (l.length=2)&&mayL l
    else if k=4 then q1b n&&decide (l.length≤6)&&mayL l
    else false
def mayL:List Ty→Bool
  |[]=>true
  |t :: r=>t.mayB&&mayL r
end
mutual
def Ty.varB:Ty→Bool
  |.mk k _ l=>(k==2)||varL l
def varL:List Ty→Bool
  |[]=>false
  |t :: r=>t.varB||varL r
end
def q2V(p:Ty→Bool):Nat→List Ty→Int
  |_,[]=>-1
  |k,t :: r=>if p t then(k:Int) else q2V p (k+1) r
theorem q71(p:Ty→Bool):∀(l:List Ty)(k:Nat),decide ((0:Int)≤q2V p k l)=l.any p
  |[],k=>rfl
  |t :: r,k=>by
    simp only[q2V,List.any_cons]
    rcases Bool.eq_false_or_eq_true (p t) with h|h
    · simp [h]
    · simp only[h,Bool.false_eq_true,if_false,Bool.false_or]
      exact q71 p r (k+1)
/- 'slices.ContainsFunc[[]sloth/api.Type,sloth/api.Type]' -/
def f51:Fun:=⟨ (.seq (.reg [⟨[],[],[(.bool false)],none,[0,1],1,[],[],[]⟩]) (.seq (.reg [⟨[],[(4,(.bin .geq (.call 67 (.cons (.sl 0) (.cons (.sl 1) .nil))) (.int .i64 0)))],[],none,[],5,[],[],[]⟩]) (.seq (.tidy 0 [4]) .ret))), [(.sl 4)],false⟩
theorem j4F:q0o Go.Proofs.Tryz.prog 51 0 2 f51=true:=by kernel_rfl
/- 'slices.IndexFunc[[]sloth/api.Type,sloth/api.Type]' -/
def f67_L0:C:= (.seq (.reg [⟨[],[(9,(.bin .lss (.sl 8) (.sl 7)))],[],none,[0,1,7,8],1,[],[],[]⟩]) (.seq (.cond (.sl 9) .skip (.seq (.tidy 0 []) (.exit 0))) (.seq (.block 1 (.seq (.reg [⟨[],[(5,(.sl 8))],[],none,[0,1,7,8],2,[],[],[]⟩]) (.seq (.reg [⟨[],[(16,(.callv (.sl 1) (.cons (.ld 3 true (.ia 3 (.sl 0) (.sl 5))) .nil)))],[],none,[0,1,5,7,8],6,[],[],[]⟩]) (.cond (.sl 16) (.seq (.reg [⟨[],[(4,(.sl 5))],[],none,[],2,[],[],[]⟩]) (.seq (.tidy 0 [4]) .ret)) .skip)))) (.reg [⟨[],[(8,(.bin .add (.sl 8) (.int .i64 1)))],[],none,[0,1,7],2,[],[],[]⟩]))))
def f67:Fun:=⟨ (.seq (.reg [⟨[],[],[(.int .i64 0)],none,[0,1],1,[],[],[]⟩]) (.seq (.seq (.reg [⟨[],[(7,(.len false (.sl 0))),(8,(.int .i64 0))],[],none,[0,1],3,[],[],[]⟩]) (.block 0 (.seq (.tidy 0 [0,1,7,8]) (.loop (.seq (.tidy 0 [0,1,7,8]) f67_L0))))) (.seq (.reg [⟨[],[(4,(.int .i64 (-1)))],[],none,[],1,[],[],[]⟩]) (.seq (.tidy 0 [4]) .ret)))), [(.sl 4)],false⟩
theorem j4r:q0o Go.Proofs.Tryz.prog 67 0 2 f67=true:=by kernel_rfl
theorem j2k(K:Cx)(g:Nat)(p:Ty→Bool)(l:List Ty)(hl:l.length≤most)(hg:∀ t∈l,K.call g [tyW t]=some (.bool (p t),[])):∀(r:List Ty)(k:Nat),l.drop k=r→k≤l.length→
    lp K 0 [0,1,7,8] f67_L0 ⟨[(0,tlV l),(1,.fn g []),(7,.d false (.int .i64 l.length)),(8,.d false (.int .i64 k))],[],0,[]⟩ =
      if r.any p then some (.ret,⟨[(4,.d false (.int .i64 (q2V p k r)))],[],0,[]⟩) else some (.exit 0,⟨[],[],0,[]⟩):=by
  have hm:most=1099511627776:=rfl
  intro r
  induction r with
  |nil=>
    intro k hd hk
    have hlen:=congrArg List.length hd
    rw[List.length_drop,List.length_nil] at hlen
    simp only[List.any_nil,Bool.false_eq_true,if_false]
    rw[q0p f67_L0.eq_1]
    clear hg
    simp(disch:=first|decide|omega|(simp only[LN];first|done|omega)) only[SV,SW,Nat.reduceBEq]
  |cons x r ih=>
    intro k hd hk
    have hl':k<l.length:=by
      rcases Nat.lt_or_ge k l.length with h'|h'
      · exact h'
      · rw[List.drop_eq_nil_of_le h'] at hd;cases hd
    have hdn:=q1i hl'
    rw[hd] at hdn
    simp only[List.cons.injEq] at hdn
    obtain⟨hn,hd'⟩:=hdn
    have hn:=hn.symm
    have ih:=ih (k+1) hd'.symm (by omega)
    have w:=hg x (by rw[←List.take_append_drop k l,hd];simp)
    rw[q0p f67_L0.eq_1]
    clear hd hd' hg
    obtain⟨k',n',ls⟩:=x
    simp only[List.any_cons,q2V]
    simp only[tyW,tlV] at w ih ⊢
    rcases Bool.eq_false_or_eq_true (p (.mk k' n' ls)) with hp|hp
    · rw[hp] at w
      simp only[hp,Bool.true_or,if_true]
      clear ih
      simp(disch:=first|decide|omega|(simp only[LN];first|done|omega)) only[SV,SW,Nat.reduceBEq,hn,Ty.d,Nat.reduceAdd,q0a,w]
    · rw[hp] at w
      simp only[hp,Bool.false_or,Bool.false_eq_true,if_false]
      rw[←ih]
      clear ih
      simp(disch:=first|decide|omega|(simp only[LN];first|done|omega)) only[SV,SW,Nat.reduceBEq,hn,Ty.d,Nat.reduceAdd,q0a,w,q0U]
theorem z9J(K:Cx)(g:Nat)(p:Ty→Bool)(l:List Ty)(hl:l.length≤most)(hg:∀ t∈l,K.call g [tyW t]=some (.bool (p t),[])):q0c K f67 [tlV l,.fn g []] []=some (.d false (.int .i64 (q2V p 0 l)),[],[]):=by
  have wl:=j2k K g p l hl hg l 0 rfl (by omega)
  have hne:l.any p=false→q2V p 0 l=-1:=by
    intro h
    have:∀(l:List Ty) (k:Nat),l.any p=false→q2V p k l=-1:=by
      intro l
      induction l with
      |nil=>intro k _;rfl
      |cons t r ih=>
        intro k h
        simp only[List.any_cons,Bool.or_eq_false_iff] at h
        simp only[q2V,h.1,Bool.false_eq_true,if_false]
        exact ih _ h.2
    exact this l 0 h
  unfold f67
  clear hg
  simp only[tlV,Int.natCast_zero,Int.ofNat_zero] at wl ⊢
  rcases Bool.eq_false_or_eq_true (l.any p) with hp|hp
  · simp only[hp,if_true] at wl
    generalize q2V p 0 l=q at wl ⊢
    simp(disch:=first|decide|omega|(simp only[LN];first|done|omega)) only[SV,SW,Int.reduceNeg,Nat.reduceAdd,Nat.reduceBEq,wl,q0b]
  · simp only[hp,Bool.false_eq_true,if_false] at wl
    rw[hne hp]
    simp(disch:=first|decide|omega|(simp only[LN];first|done|omega)) only[SV,SW,Int.reduceNeg,Nat.reduceAdd,Nat.reduceBEq,wl,q0b]
def K67(K:Cx)(g:Nat)(p:Ty→Bool)(l:List Ty):Prop:=K.call 67 [tlV l,.fn g []]=some (.d false (.int .i64 (q2V p 0 l)),[])
theorem z02(K:Cx)(g:Nat)(p:Ty→Bool)(l:List Ty)(h:K67 K g p l):q0c K f51 [tlV l,.fn g []] []=some (.bool (l.any p),[],[]):=by
  have e:=q71 p l 0
  unfold K67 at h
  unfold f51
  simp only[tlV] at h ⊢
  generalize q2V p 0 l=q at h e
  rw[←e]
  simp(disch:=first|decide|omega|(simp only[LN];first|done|omega)) only[SV,SW,Nat.reduceAdd,Nat.reduceBEq,q0a,h,q0b]
def K51(K:Cx)(g:Nat)(p:Ty→Bool)(l:List Ty):Prop:=K.call 51 [tlV l,.fn g []]=some (.bool (l.any p),[])
def K60(K:Cx)(t:Ty):Prop:=K.call 60 [tyW t]=some (.bool t.mayB,[])
def K61(K:Cx)(t:Ty)(n:Nat):Prop:=K.call 61 [tyW t]=some (.d false (.int .i64 n),[])
/- 'sloth/lattice.varies' -/
def f38:Fun:=⟨ (.seq (.reg [⟨[(1,.box (.sl 0))],[],[(.bool false)],none,[1],2,[],[],[]⟩]) (.seq (.reg [⟨[],[(2,(.or (.bin .eql (.ld 1 false (.fa 0 (.sl 1))) (.int .i64 2)) (.call 51 (.cons (.ld 1 false (.fa 2 (.sl 1))) (.cons (.mkf 38 .nil) .nil)))))],[],none,[],9,[],[],[]⟩]) (.seq (.tidy 0 [2]) .ret))), [(.sl 2)],false⟩
theorem j4Q:q0o Go.Proofs.Tryz.prog 38 0 1 f38=true:=by kernel_rfl
/- 'sloth/types.wrong' -/
def f47:Fun:=⟨ (.seq (.reg [⟨[(1,.box (.sl 0))],[],[(.int .i64 0)],none,[1],2,[],[],[]⟩]) (.seq (.block 0 (.seq (.reg [⟨[],[(3,(.un .not (.call 60 (.cons (.ld 3 true (.sl 1)) .nil))))],[],none,[1],4,[],[],[]⟩]) (.cond (.sl 3) (.seq (.reg [⟨[],[(2,(.int .i64 53))],[],none,[],1,[],[],[]⟩]) (.seq (.tidy 0 [2]) .ret)) (.seq (.reg [⟨[],[(7,(.bin .gtr (.call 61 (.cons (.ld 3 true (.sl 1)) .nil)) (.int .i64 500)))],[],none,[],4,[],[],[]⟩]) (.cond (.sl 7) (.seq (.reg [⟨[],[(2,(.int .i64 4))],[],none,[],1,[],[],[]⟩]) (.seq (.tidy 0 [2]) .ret)) .skip))))) (.seq (.reg [⟨[],[(2,(.int .i64 0))],[],none,[],1,[],[],[]⟩]) (.seq (.tidy 0 [2]) .ret)))), [(.sl 2)],false⟩
theorem j4H:q0o Go.Proofs.Tryz.prog 47 0 1 f47=true:=by kernel_rfl
/- 'sloth/types.may' -/
def f60:Fun:=⟨ (.seq (.reg [⟨[(1,.box (.sl 0))],[],[(.bool false)],none,[1],2,[],[],[]⟩]) (.seq (.reg [⟨[],[(3,(.int .i64 0))],[],none,[1],1,[],[],[]⟩]) (.seq (.seq (.reg [⟨[],[(5,(.ld 1 false (.fa 0 (.sl 1))))],[],none,[1,3],2,[],[],[]⟩]) (.block 0 (.seq (.reg [⟨[],[(6,(.bin .eql (.sl 5) (.int .i64 1)))],[],none,[1,3,5],2,[],[],[]⟩]) (.cond (.sl 6) (.seq (.reg [⟨[],[(10,(.bin .neq (.ld 1 false (.fa 1 (.sl 1))) (.str [])))],[],none,[1,3],3,[],[],[]⟩]) (.cond (.sl 10) (.seq (.reg [⟨[],[(2,(.bool false))],[],none,[],1,[],[],[]⟩]) (.seq (.tidy 0 [2]) .ret)) .skip)) (.seq (.reg [⟨[],[(11,(.bin .eql (.sl 5) (.int .i64 2)))],[],none,[1,3,5],2,[],[],[]⟩]) (.cond (.sl 11) (.seq (.reg [⟨[],[(16,(.un .not (.call 77 (.cons (.ld 1 false (.fa 1 (.sl 1))) .nil))))],[],none,[1,3],4,[],[],[]⟩]) (.cond (.sl 16) (.seq (.reg [⟨[],[(2,(.bool false))],[],none,[],1,[],[],[]⟩]) (.seq (.tidy 0 [2]) .ret)) .skip)) (.seq (.reg [⟨[],[(17,(.bin .eql (.sl 5) (.int .i64 3)))],[],none,[1,5],2,[],[],[]⟩]) (.cond (.sl 17) (.seq (.seq (.reg [⟨[],[(21,(.bin .neq (.ld 1 false (.fa 1 (.sl 1))) (.str [])))],[],none,[1],3,[],[],[]⟩]) (.cond (.sl 21) (.seq (.reg [⟨[],[(2,(.bool false))],[],none,[],1,[],[],[]⟩]) (.seq (.tidy 0 [2]) .ret)) .skip)) (.reg [⟨[],[(3,(.int .i64 2))],[],none,[1],1,[],[],[]⟩])) (.seq (.reg [⟨[],[(22,(.bin .eql (.sl 5) (.int .i64 4)))],[],none,[1],2,[],[],[]⟩]) (.cond (.sl 22) (.seq (.seq (.reg [⟨[],[(33,(.or (.un .not (.call 78 (.cons (.ld 1 false (.fa 1 (.sl 1))) .nil))) (.bin .gtr (.len false (.ld 1 false (.fa 2 (.sl 1)))) (.int .i64 6))))],[],none,[1],10,[],[],[]⟩]) (.cond (.sl 33) (.seq (.reg [⟨[],[(2,(.bool false))],[],none,[],1,[],[],[]⟩]) (.seq (.tidy 0 [2]) .ret)) .skip)) (.reg [⟨[],[(3,(.len false (.ld 1 false (.fa 2 (.sl 1)))))],[],none,[1],4,[],[],[]⟩])) (.seq (.reg [⟨[],[(2,(.bool false))],[],none,[],1,[],[],[]⟩]) (.seq (.tidy 0 [2]) .ret)))))))))))) (.seq (.reg [⟨[],[(2,(.and (.bin .eql (.len false (.ld 1 false (.fa 2 (.sl 1)))) (.sl 3)) (.un .not (.call 51 (.cons (.ld 1 false (.fa 2 (.sl 1))) (.cons (.mkf 79 .nil) .nil))))))],[],none,[],12,[],[],[]⟩]) (.seq (.tidy 0 [2]) .ret))))), [(.sl 2)],false⟩
theorem j4v:q0o Go.Proofs.Tryz.prog 60 0 1 f60=true:=by kernel_rfl
/- 'sloth/types.may$1' -/
def f79:Fun:=⟨ (.seq (.reg [⟨[(1,.box (.sl 0))],[],[(.bool false)],none,[1],2,[],[],[]⟩]) (.seq (.reg [⟨[],[(2,(.un .not (.call 60 (.cons (.ld 3 true (.sl 1)) .nil))))],[],none,[],4,[],[],[]⟩]) (.seq (.tidy 0 [2]) .ret))), [(.sl 2)],false⟩
theorem j4j:q0o Go.Proofs.Tryz.prog 79 0 1 f79=true:=by kernel_rfl
theorem z1N:∀ l:List Ty,mayL l = !l.any fun t=>!t.mayB
  |[]=>rfl
  |t :: r=>by rw[mayL,z1N r];cases h:t.mayB <;> simp [h]
theorem j2I(K:Cx)(t:Ty)(h:K60 K t):q0c K f79 [tyW t] []=some (.bool (!t.mayB),[],[]):=by
  obtain⟨k,n,l⟩:=t
  unfold K60 at h
  unfold f79
  simp only[tyW] at h ⊢
  generalize (Ty.mk k n l).mayB=q at h ⊢
  simp(disch:=first|decide|omega|(simp only[LN];first|done|omega)) only[SV,SW,Nat.reduceAdd,Nat.reduceBEq,q0a,h,q0b]
theorem j5g(K:Cx)(h1:K77 K)(h2:K78 K)(k:Int)(n:List UInt8)(l:List Ty)(hl:l.length≤most)(h3:K51 K 79 (fun t=>!t.mayB) l):q0c K f60 [tyW (.mk k n l)] []=some (.bool (Ty.mk k n l).mayB,[],[]):=by
  have hm:most=1099511627776:=rfl
  have w1:=h1 n
  have w2:=h2 n
  have hml:=z1N l
  unfold K51 at h3
  simp only[Ty.mayB,q09,tyW,hml]
  have c0:(((l.length:Int))==0)=decide (l.length=0):=by
    by_cases h:l.length=0 <;> simp [h]
  have c2:(((l.length:Int))==2)=decide (l.length=2):=by
    by_cases h:l.length=2
    · simp [h]
    · have:¬((l.length:Int)=2):=by omega
      simp [h,this]
  have c6:decide ((6:Int)<(l.length:Int)) = !decide (l.length≤6):=by
    by_cases h:l.length≤6
    · simp only[h,decide_true,Bool.not_true,decide_eq_false_iff_not];omega
    · simp only[h,decide_false,Bool.not_false,decide_eq_true_eq];omega
  have cl:(((l.length:Int))==(l.length:Int))=true:=by simp
  simp only[sV,tlV] at w1 w2 h3
  generalize (l.any fun t=>!t.mayB)=q at h3 ⊢
  clear h1 h2 hml
  by_cases k1:k=1
  · subst k1
    unfold f60
    rcases Bool.eq_false_or_eq_true (decide (n=[])) with hn|hn
    · simp only[hn,if_true,Bool.true_and]
      simp(disch:=first|decide|omega|(simp only[LN];first|done|omega)) only[SV,SW,Nat.reduceAdd,Nat.reduceBEq,hn,c0,q9X,q2N,q0a,h3,q0b]
    · simp only[hn,if_true,Bool.false_and]
      simp(disch:=first|decide|omega|(simp only[LN];first|done|omega)) only[SV,SW,Nat.reduceAdd,Nat.reduceBEq,hn,q0b]
  · have e1:(k==1)=false:=by simpa using k1
    by_cases k2:k=2
    · subst k2
      unfold f60
      rcases Bool.eq_false_or_eq_true (q1Y n) with hn|hn
      · rw[hn] at w1
        simp only[hn,if_true,if_false,Bool.true_and,Int.reduceEq]
        simp(disch:=first|decide|omega|(simp only[LN];first|done|omega)) only[SV,SW,Nat.reduceAdd,Nat.reduceBEq,q0a,w1,c0,q9X,q2N,h3,q0b]
      · rw[hn] at w1
        simp only[hn,if_true,if_false,Bool.false_and,Int.reduceEq]
        simp(disch:=first|decide|omega|(simp only[LN];first|done|omega)) only[SV,SW,Nat.reduceAdd,Nat.reduceBEq,q0a,w1,q0b]
    · have e2:(k==2)=false:=by simpa using k2
      by_cases k3:k=3
      · subst k3
        unfold f60
        rcases Bool.eq_false_or_eq_true (decide (n=[])) with hn|hn
        · simp only[hn,if_true,if_false,Bool.true_and,Int.reduceEq]
          simp(disch:=first|decide|omega|(simp only[LN];first|done|omega)) only[SV,SW,Nat.reduceAdd,Nat.reduceBEq,hn,c2,q9X,q2N,q0a,h3,q0b]
        · simp only[hn,if_true,if_false,Bool.false_and,Int.reduceEq]
          simp(disch:=first|decide|omega|(simp only[LN];first|done|omega)) only[SV,SW,Nat.reduceAdd,Nat.reduceBEq,hn,q0b]
      · have e3:(k==3)=false:=by simpa using k3
        by_cases k4:k=4
        · subst k4
          unfold f60
          rcases Bool.eq_false_or_eq_true (q1b n) with hn|hn
          · rw[hn] at w2
            rcases Bool.eq_false_or_eq_true (decide (l.length≤6)) with h6|h6
            · rw[h6] at c6
              simp only[hn,h6,if_true,if_false,Bool.true_and,Int.reduceEq]
              simp(disch:=first|decide|omega|(simp only[LN];first|done|omega)) only[SV,SW,Nat.reduceAdd,Nat.reduceBEq,q0a,w2,c6,q9X,q2N,h3,q0b]
            · rw[h6] at c6
              simp only[hn,h6,if_true,if_false,Bool.true_and,Bool.false_and,Int.reduceEq]
              simp(disch:=first|decide|omega|(simp only[LN];first|done|omega)) only[SV,SW,Nat.reduceAdd,Nat.reduceBEq,q0a,w2,c6,q0b]
          · rw[hn] at w2
            simp only[hn,if_true,if_false,Bool.false_and,Int.reduceEq]
            simp(disch:=first|decide|omega|(simp only[LN];first|done|omega)) only[SV,SW,Nat.reduceAdd,Nat.reduceBEq,q0a,w2,c6,q0b]
        · have e4:(k==4)=false:=by simpa using k4
          unfold f60
          simp only[k1,k2,k3,k4,if_false]
          simp(disch:=first|decide|omega|(simp only[LN];first|done|omega)) only[SV,SW,Nat.reduceAdd,Nat.reduceBEq,e1,e2,e3,e4,q0b]
theorem z6u(K:Cx)(k:Int)(n:List UInt8)(l:List Ty)(h:K51 K 38 Ty.varB l):q0c K f38 [tyW (.mk k n l)] []=some (.bool (Ty.mk k n l).varB,[],[]):=by
  have hv:∀ l:List Ty,varL l=l.any Ty.varB:=by
    intro l
    induction l with
    |nil=>rfl
    |cons t r ih=>rw[varL,ih];rfl
  unfold K51 at h
  simp only[Ty.varB,hv,q09,tyW]
  simp only[tlV] at h
  generalize l.any Ty.varB=q at h ⊢
  unfold f38
  simp(disch:=first|decide|omega|(simp only[LN];first|done|omega)) only[SV,SW,Nat.reduceAdd,Nat.reduceBEq,q9X,q2N,q0a,h,q0b]
end Go.Vm
end

section
namespace Go.Vm
set_option maxRecDepth 20000
mutual
def Ty.nod:Ty→Nat
  |.mk _ _ l=>min (nodL 1 l) 501
def nodL:Nat→List Ty→Nat
  |n,[]=>n
  |n,t :: r=>if 500<n then n else nodL (n+t.nod) r
end
theorem j0y(t:Ty):t.nod≤501:=by
  obtain⟨k,n,l⟩:=t
  rw[Ty.nod];omega
theorem z5B:∀(l:List Ty)(n:Nat),n≤1001→nodL n l≤1001
  |[],n,h=>h
  |t :: r,n,h=>by
    rw[nodL]
    split
    · exact h
    · exact z5B r _ (by have:=j0y t;omega)
def Ty.wrongI(t:Ty):Int:=if t.mayB then(if 500<t.nod then 4 else 0) else 53
/- 'sloth/types.nodes' -/
def f61_L0:C:= (.seq (.reg [⟨[],[(10,(.bin .lss (.sl 9) (.sl 8)))],[],none,[3,7,8,9],1,[],[],[]⟩]) (.seq (.cond (.sl 10) .skip (.seq (.tidy 0 [3]) (.exit 0))) (.seq (.block 1 (.seq (.reg [⟨[(5,.box (.agg (.cons (.int .i64 0) (.cons (.str []) (.cons (.nilsl 3) .nil)))))],[],[],some (none,.store 3 (.sl 5) (.ld 3 true (.ia 3 (.sl 7) (.sl 9)))),[3,5,7,8,9],4,[],[],[]⟩]) (.seq (.seq (.reg [⟨[],[(14,(.bin .gtr (.sl 3) (.int .i64 500)))],[],none,[3,5,7,8,9],2,[],[],[]⟩]) (.cond (.sl 14) (.seq (.tidy 0 [3]) (.exit 0)) .skip)) (.reg [⟨[],[(3,(.bin .add (.sl 3) (.call 61 (.cons (.ld 3 true (.sl 5)) .nil))))],[],none,[7,8,9],5,[],[],[]⟩])))) (.reg [⟨[],[(9,(.bin .add (.sl 9) (.int .i64 1)))],[],none,[3,7,8],2,[],[],[]⟩]))))
def f61:Fun:=⟨ (.seq (.reg [⟨[(1,.box (.sl 0))],[],[(.int .i64 0)],none,[1],2,[],[],[]⟩]) (.seq (.reg [⟨[],[(3,(.int .i64 1))],[],none,[1],1,[],[],[]⟩]) (.seq (.seq (.reg [⟨[],[(7,(.ld 1 false (.fa 2 (.sl 1)))),(8,(.len false (.ld 1 false (.fa 2 (.sl 1))))),(9,(.int .i64 0))],[],none,[3],4,[],[],[]⟩]) (.block 0 (.seq (.tidy 0 [3,7,8,9]) (.loop (.seq (.tidy 0 [3,7,8,9]) f61_L0))))) (.seq (.reg [⟨[],[(2,(.cond (.and (.bin .eql (.bin .and (.int .i64 501) (.int .i64 0)) (.bin .and (.int .i64 501) (.int .i64 0))) (.bin .lss (.int .i64 501) (.sl 3))) (.int .i64 501) (.sl 3)))],[(.sl 3)],none,[],3,[],[],[]⟩]) (.seq (.tidy 0 [2]) .ret))))), [(.sl 2)],false⟩
theorem j4u:q0o Go.Proofs.Tryz.prog 61 0 1 f61=true:=by kernel_rfl
theorem j1Y(K:Cx)(l:List Ty)(hl:l.length≤most)(hg:∀ t∈l,K61 K t t.nod):∀(r:List Ty)(k n:Nat),l.drop k=r→k≤l.length→n≤1001→
    lp K 0 [3,7,8,9] f61_L0 ⟨[(3,.d false (.int .i64 n)),(7,tlV l),(8,.d false (.int .i64 l.length)),(9,.d false (.int .i64 k))],[],0,[]⟩ =
      some (.exit 0,⟨[(3,.d false (.int .i64 (nodL n r)))],[],0,[]⟩):=by
  have hm:most=1099511627776:=rfl
  intro r
  induction r with
  |nil=>
    intro k n hd hk hn1
    have hlen:=congrArg List.length hd
    rw[List.length_drop,List.length_nil] at hlen
    simp only[nodL]
    rw[q0p f61_L0.eq_1]
    clear hg
    simp(disch:=first|decide|omega|(simp only[LN];first|done|omega)) only[SV,SW,Nat.reduceBEq]
  |cons x r ih=>
    intro k n hd hk hn1
    have hl':k<l.length:=by
      rcases Nat.lt_or_ge k l.length with h'|h'
      · exact h'
      · rw[List.drop_eq_nil_of_le h'] at hd;cases hd
    have hdn:=q1i hl'
    rw[hd] at hdn
    simp only[List.cons.injEq] at hdn
    obtain⟨hn,hd'⟩:=hdn
    have hn:=hn.symm
    have w:=hg x (by rw[←List.take_append_drop k l,hd];simp)
    have hx:=j0y x
    have ih':=fun h=>ih (k+1) (n+x.nod) hd'.symm (by omega) h
    rw[q0p f61_L0.eq_1]
    clear hd hd' hg ih
    obtain⟨k',n',ls⟩:=x
    rw[nodL]
    unfold K61 at w
    simp only[tyW,tlV] at w ih' ⊢
    generalize (Ty.mk k' n' ls).nod=q at *
    by_cases h5:500<n
    · have e5:decide ((500:Int)<(n:Int))=true:=decide_eq_true (by omega)
      simp only[h5,if_true]
      clear ih' w
      simp(disch:=first|decide|omega|(simp only[LN];first|done|omega)) only[SV,SW,Nat.reduceBEq,Nat.reduceAdd,hn,Ty.d,lose,reduceCtorEq]
    · have e5:decide ((500:Int)<(n:Int))=false:=decide_eq_false (by omega)
      have ih':=ih' (by omega)
      have ec:((n:Int)+(q:Int))=((n+q:Nat):Int):=by omega
      simp only[h5,if_false]
      rw[←ih']
      clear ih'
      simp(disch:=first|decide|omega|(simp only[LN];first|done|omega)) only[SV,SW,Nat.reduceBEq,Nat.reduceAdd,hn,Ty.d,lose,q0a,w,ec,q0U]
theorem z9E(K:Cx)(k:Int)(n:List UInt8)(l:List Ty)(hl:l.length≤most)(hg:∀ t∈l,K61 K t t.nod):q0c K f61 [tyW (.mk k n l)] []=some (.d false (.int .i64 ((Ty.mk k n l).nod)),[],[]):=by
  have w:=j1Y K l hl hg l 0 1 rfl (by omega) (by omega)
  have hle:=z5B l 1 (by omega)
  rw[Ty.nod]
  unfold f61
  clear hg
  simp only[tyW,tlV,q09,Int.natCast_zero,Int.ofNat_zero,Int.natCast_one] at w ⊢
  generalize nodL 1 l=q at *
  by_cases h:501<q
  · have e:decide ((501:Int)<(q:Int))=true:=decide_eq_true (by omega)
    have e2:min q 501=501:=by omega
    rw[e2]
    simp(disch:=first|decide|omega|(simp only[LN];first|done|omega)) only[SV,SW,Nat.reduceAdd,Nat.reduceBEq,w,bits,q0b]
    rfl
  · have e:decide ((501:Int)<(q:Int))=false:=decide_eq_false (by omega)
    have e2:min q 501=q:=by omega
    rw[e2]
    simp(disch:=first|decide|omega|(simp only[LN];first|done|omega)) only[SV,SW,Nat.reduceAdd,Nat.reduceBEq,w,bits,q0b]
theorem z9q(K:Cx)(t:Ty)(h1:K60 K t)(h2:K61 K t t.nod):q0c K f47 [tyW t] []=some (.d false (.int .i64 t.wrongI),[],[]):=by
  obtain⟨k,n,l⟩:=t
  unfold K60 at h1
  unfold K61 at h2
  unfold f47 Ty.wrongI
  simp only[tyW] at h1 h2 ⊢
  rcases Bool.eq_false_or_eq_true (Ty.mk k n l).mayB with hp|hp
  · rw[hp] at h1
    simp only[hp,if_true]
    generalize (Ty.mk k n l).nod=q at *
    by_cases h5:500<q
    · have e5:decide ((500:Int)<(q:Int))=true:=decide_eq_true (by omega)
      simp only[h5,if_true]
      simp(disch:=first|decide|omega|(simp only[LN];first|done|omega)) only[SV,SW,Nat.reduceAdd,Nat.reduceBEq,q0a,h1,h2,q0b]
    · have e5:decide ((500:Int)<(q:Int))=false:=decide_eq_false (by omega)
      simp only[h5,if_false]
      simp(disch:=first|decide|omega|(simp only[LN];first|done|omega)) only[SV,SW,Nat.reduceAdd,Nat.reduceBEq,q0a,h1,h2,q0b]
  · rw[hp] at h1
    simp only[hp,if_false,Bool.false_eq_true]
    simp(disch:=first|decide|omega|(simp only[LN];first|done|omega)) only[SV,SW,Nat.reduceAdd,Nat.reduceBEq,q0a,h1,q0b]
end Go.Vm
end

section
namespace Go.Vm
open Go.RowKit
section
variable {P:Program}{w:World}
def Same(w:World)(v v':Value):Prop:=v'.ownBlock=v.ownBlock∨∃ g,v'.ownBlock=some g∧w.heap.size≤g
theorem z1g(t ty e:TypeId)(i:TypeInfo)(ht:P.underlying t=some (.slice e))(hi:P.info? e=some i)(hz:i.zero=some (.int .u8 0))(hsize:i.size=1)(hby:i.bytes=1)
  (v:Value) (n:Nat) (xs:List Value) (hown:w.ownsRowF 0 e 1 v n xs)
  (a:Addr) (m c:Nat) (news:List Value) (hl:news.length=m) (hnews:∀ j u,news[j]? = some u→w.cell? (a.add j)=some u) (h1:∀ u∈news,u.oneCell'=true) (h63:n+m≤maxLen) (hbytes:n+m≤140737488355328) :
  ∃ v' w',(Builtin.append_ #[t,t] ty #[v,.slice (some a) m c]).run P w=.ok v' w'∧w'.ownsRowF 0 e 1 v' (n+m) (xs++news)∧w.grownBy w' v.ownBlock∧(v'=.slice none 0 0↔v=.slice none 0 0∧m=0)∧Same w v v':=by
 obtain⟨v',w',r1,r2,r3,r4⟩:=run_append_ownF (P:=P) w 0 t ty e i (.int .u8 0) 1 1 ht hi hz hsize hby rfl (by decide) v n xs hown a m c news (by omega) hnews h1 h63 (by omega) (Nat.zero_le _)
 refine⟨v',w',r1,r2,r3,r4,?_⟩
 rcases hown.2 with⟨rfl,rfl⟩|⟨g,cap,cur,fz,rfl,hbg,hg,hfz,hnc,hcm,hcs,htake⟩
 ·obtain⟨v2,w2,q1,q2,q3,q4⟩:=run_append_ownF (P:=P) w w.heap.size t ty e i (.int .u8 0) 1 1 ht hi hz hsize hby rfl (by decide) (.slice none 0 0) 0 xs ⟨hown.1,.inl ⟨rfl,rfl⟩⟩ a m c news (by omega) hnews h1 h63 (by omega) (Nat.le_refl _)
  rw[r1] at q1
  obtain⟨rfl,rfl⟩:v'=v2∧w'=w2:=by injection q1 with e1 e2;exact⟨e1,e2⟩
  cases ho:v'.ownBlock with
  |none=>exact .inl (by rw[ho];rfl)
  |some g=>exact .inr ⟨g,ho,(q2.lt g ho).1⟩
 ·by_cases hroom:n+m≤cap
  ·have hr:=run_append_roomF (P:=P) w t ty e i ht hi g n cap cur fz hg (by rw[hsize];exact hfz) a m c news (by rw[hsize];omega) hnews h1 hroom (by rw[hsize];omega)
   rw[r1] at hr
   obtain⟨rfl,_⟩:v'=.slice (some ⟨g,0,none⟩) (n+m) cap∧True:=by injection hr with e1 e2;exact⟨e1,trivial⟩
   exact .inl rfl
  ·have holds:∀ j u,xs[j]? = some u→w.cell? ((⟨g,0,none⟩:Addr).add j)=some u:=hown.cells (g:=g) rfl
   have hsmall:n+m≤9223372036854775807:=by simp only[maxLen] at h63;omega
   have hr:=run_append_grow (P:=P) w t ty e i (.int .u8 0) ht hi hz ⟨g,0,none⟩ n cap xs (by rw[hsize];exact hown.1) holds a m c news (by rw[hsize];omega) hnews (by omega) (by omega) (growslice_fits (by omega) (by rw[hby];omega))
   rw[r1] at hr
   obtain⟨rfl,_⟩:v'=.slice (some ⟨w.heap.size,0,none⟩) (n+m) (grownCap w (n+m) cap e)∧True:=by injection hr with e1 e2;exact⟨e1,trivial⟩
   exact .inr ⟨w.heap.size,rfl,Nat.le_refl _⟩
theorem q7i(t u ty e:TypeId)(i:TypeInfo)(ht:P.underlying t=some (.slice e))(hu:P.underlying u=some .string)(hi:P.info? e=some i)(hz:i.zero=some (.int .u8 0))(hsize:i.size=1)(hby:i.bytes=1)
  (v:Value) (n:Nat) (xs:List Value) (hown:w.ownsRowF 0 e 1 v n xs) (s:ByteArray) (h63:n+s.size≤maxLen) (hbytes:n+s.size≤140737488355328) :
  ∃ v' w',(Builtin.append_ #[t,u] ty #[v,.string s]).run P w=.ok v' w'∧w'.ownsRowF 0 e 1 v' (n+s.size) (xs++Lib.strCells s)∧w.grownBy w' v.ownBlock∧(v'=.slice none 0 0↔v=.slice none 0 0∧s.size=0)∧Same w v v':=by
 obtain⟨v',w',r1,r2,r3,r4⟩:=Lib.run_append_own_stringF (P:=P) w 0 t u ty e i ht hu hi hz hsize hby v n xs hown s h63 hbytes (Nat.zero_le _)
 refine⟨v',w',r1,r2,r3,r4,?_⟩
 rcases hown.2 with⟨rfl,rfl⟩|⟨g,cap,cur,fz,rfl,hbg,hg,hfz,hnc,hcm,hcs,htake⟩
 ·obtain⟨v2,w2,q1,q2,q3,q4⟩:=Lib.run_append_own_stringF (P:=P) w w.heap.size t u ty e i ht hu hi hz hsize hby (.slice none 0 0) 0 xs ⟨hown.1,.inl ⟨rfl,rfl⟩⟩ s h63 hbytes (Nat.le_refl _)
  rw[r1] at q1
  obtain⟨rfl,rfl⟩:v'=v2∧w'=w2:=by injection q1 with e1 e2;exact⟨e1,e2⟩
  cases ho:v'.ownBlock with
  |none=>exact .inl (by rw[ho];rfl)
  |some g=>exact .inr ⟨g,ho,(q2.lt g ho).1⟩
 ·by_cases hroom:n+s.size≤cap
  ·have hr:=Lib.run_append_room_stringF (P:=P) w t u ty e i ht hu hi hsize g n cap cur fz hg (by omega) s hroom (by omega)
   rw[r1] at hr
   obtain⟨rfl,_⟩:v'=.slice (some ⟨g,0,none⟩) (n+s.size) cap∧True:=by injection hr with e1 e2;exact⟨e1,trivial⟩
   exact .inl rfl
  ·have holds:∀ j u,xs[j]? = some u→w.cell? ((⟨g,0,none⟩:Addr).add j)=some u:=hown.cells (g:=g) rfl
   have hsmall:n+s.size≤9223372036854775807:=by simp only[maxLen] at h63;omega
   have hr:=Lib.run_append_grow_string (P:=P) w t u ty e i (.int .u8 0) ht hu hi hz ⟨g,0,none⟩ n cap xs (by rw[hsize];exact hown.1) holds s (by omega) (by omega) (growslice_fits (by omega) (by rw[hby];omega))
   rw[r1] at hr
   obtain⟨rfl,_⟩:v'=.slice (some ⟨w.heap.size,0,none⟩) (n+s.size) (grownCap w (n+s.size) cap e)∧True:=by injection hr with e1 e2;exact⟨e1,trivial⟩
   exact .inr ⟨w.heap.size,rfl,Nat.le_refl _⟩
theorem q7l{ops:Array Oper}{rest:List Oper}{o:Oper}{a:Act}{Q:Exit→Act→World→Prop}(hgd:o.guard=none)(s x:Operand)(t:TypeId)
  (ho:o.op=.call { callee:=.builtin .append,args:=#[s,x],argTypes:=#[t,t] })
  (e:TypeId) (i:TypeInfo) (ht:P.underlying t=some (.slice e)) (hi:P.info? e=some i) (hz:i.zero=some (.int .u8 0)) (hsize:i.size=1) (hby:i.bytes=1)
  (v:Value) (n:Nat) (xs:List Value) (hs:a.eval s=v) (hown:w.ownsRowF 0 e 1 v n xs)
  (ad:Addr) (m c:Nat) (news:List Value) (hx:a.eval x=.slice (some ad) m c) (hl:news.length=m) (hnews:∀ j u,news[j]? = some u→w.cell? (ad.add j)=some u) (h1:∀ u∈news,u.oneCell'=true) (h63:n+m≤maxLen) (hbytes:n+m≤140737488355328)
  (h:∀ v' w',w'.ownsRowF 0 e 1 v' (n+m) (xs++news)→w.grownBy w' v.ownBlock→(v'=.slice none 0 0↔v=.slice none 0 0∧m=0)→Same w v v'→wpList P ops Q rest (a.put o.dst v') w'):wpList P ops Q (o :: rest) a w:=by
 refine wpList_plain hgd fun K hK=>?_
 obtain⟨v',w',hr,h2,h3,h4,h5⟩:=z1g (P:=P) (w:=w) t o.type e i ht hi hz hsize hby v n xs hown ad m c news hl hnews h1 h63 hbytes
 unfold Oper.wp execOp
 simp only[ho,resolve,invoke,builtin,Sem.run_bind,Sem.run_pure,Result.andThen_ok,List.map_toArray,List.map_cons,List.map_nil,hs,hx,hr]
 exact hK _ _ (h v' w' h2 h3 h4 h5)
theorem q4C{ops:Array Oper}{rest:List Oper}{o:Oper}{a:Act}{Q:Exit→Act→World→Prop}(hgd:o.guard=none)(sl x:Operand)(t u:TypeId)
  (ho:o.op=.call { callee:=.builtin .append,args:=#[sl,x],argTypes:=#[t,u] })
  (e:TypeId) (i:TypeInfo) (ht:P.underlying t=some (.slice e)) (hu:P.underlying u=some .string) (hi:P.info? e=some i) (hz:i.zero=some (.int .u8 0)) (hsize:i.size=1) (hby:i.bytes=1)
  (v:Value) (n:Nat) (xs:List Value) (hs:a.eval sl=v) (hown:w.ownsRowF 0 e 1 v n xs) (s:ByteArray) (hx:a.eval x=.string s) (h63:n+s.size≤maxLen) (hbytes:n+s.size≤140737488355328)
  (h:∀ v' w',w'.ownsRowF 0 e 1 v' (n+s.size) (xs++Lib.strCells s)→w.grownBy w' v.ownBlock→(v'=.slice none 0 0↔v=.slice none 0 0∧s.size=0)→Same w v v'→wpList P ops Q rest (a.put o.dst v') w'):wpList P ops Q (o :: rest) a w:=by
 refine wpList_plain hgd fun K hK=>?_
 obtain⟨v',w',hr,h2,h3,h4,h5⟩:=q7i (P:=P) (w:=w) t u o.type e i ht hu hi hz hsize hby v n xs hown s h63 hbytes
 unfold Oper.wp execOp
 simp only[ho,resolve,invoke,builtin,Sem.run_bind,Sem.run_pure,Result.andThen_ok,List.map_toArray,List.map_cons,List.map_nil,hs,hx,hr]
 exact hK _ _ (h v' w' h2 h3 h4 h5)
end
end Go.Vm
end

section
set_option linter.unusedVariables false
namespace Go.Vm
open Go.RowKit Go.Shelf Go.Proofs
section
variable {P:Program}{ρ:Ren}
structure BAt(T e:TypeId)(w:World)(b:Nat)(p v:Value)(bs:List Value):Prop where
 hp:p=.pointer none∨p=.pointer (some ⟨b,0,none⟩)
 hb:w.heap[b]? = some (.cells #[p,v] T (0,0))
 own:w.ownsRowF 0 e 1 v bs.length bs
 ne:v.ownBlock≠some b
theorem BAt.isB{T e:TypeId}{w:World}{b:Nat}{p v:Value}{bs:List Value}(h:BAt T e w b p v bs):Lib.IsBuilderF T e 0 b bs w:=by
 rcases h.hp with rfl|rfl
 ·exact .inl ⟨Nat.zero_le _,v,h.hb,h.own,h.ne⟩
 ·exact .inr ⟨Nat.zero_le _,v,h.hb,h.own,h.ne⟩
theorem BAt.lt{T e:TypeId}{w:World}{b:Nat}{p v:Value}{bs:List Value}(h:BAt T e w b p v bs):b<w.heap.size:=by
 rcases Nat.lt_or_ge b w.heap.size with h'|h'
 ·exact h'
 ·have:=h.hb;simp [Array.getElem?_eq_none h'] at this
structure Kept(w w':World)(b:Nat)(v v':Value):Prop where
 os:w'.os=w.os
 tape:w'.tape=w.tape
 output:w'.output=w.output
 size:w.heap.size≤w'.heap.size
 blk:∀ k,k<w.heap.size→k≠b→some k≠v.ownBlock→w'.heap[k]? = w.heap[k]?
 same:Same w v v'
def SizeEq(w1 w:World):Prop:=w1.heap.size=w.heap.size
theorem SizeEq.eq{w1 w:World}(h:SizeEq w1 w):w1.heap.size=w.heap.size:=h
theorem z7t{T e:TypeId}{w w1 w2:World}{b:Nat}{v v':Value}{bs':List Value}(hTe:T≠e)(hsz:w1.heap.size=w.heap.size∨w1.heap.size=w.heap.size+1)(hos:w1.os=w.os∧w1.tape=w.tape∧w1.output=w.output)(hold:∀ k,k<w.heap.size→k≠b→w1.heap[k]? = w.heap[k]?)
  (hb2:w2.heap[b]? = some (.cells #[.pointer (some ⟨b,0,none⟩),v] T (0,0))) (hgrow:w1.grownBy w2 v.ownBlock) (hown:w2.ownsRowF 0 e 1 v' bs'.length bs') (hs:Same w1 v v') (hv:∀ g,v.ownBlock=some g→g<w.heap.size) :
  BAt T e (w2.setCell ⟨b,1,none⟩ v') b (.pointer (some ⟨b,0,none⟩)) v' bs'∧Kept w (w2.setCell ⟨b,1,none⟩ v') b v v':=by
 have hne:=Lib.ownBlock_neF hown hb2 hTe
 refine⟨⟨.inr rfl,?_,?_,hne⟩,⟨hgrow.os.trans hos.1,hgrow.tape.trans hos.2.1,hgrow.output.trans hos.2.2,by have:=hgrow.size;simp;omega,fun k hk h1 h2=>?_,?_⟩⟩
 ·simp [World.setCell,Array.getElem?_modify,hb2]
 ·exact hown.kept (row:=some b) ⟨rfl,rfl,rfl,by simp [World.setCell],fun k _ hk=>Below.heap_setCell _ _ _ _ (fun e=>hk (by simp [e]))⟩ (Or.inr hne)
 ·rw[Below.heap_setCell _ _ _ _ h1,hgrow.block k (by omega) h2,hold k hk h1]
 ·rcases hs with h|⟨g,h1,h2⟩
  ·exact .inl h
  ·exact .inr ⟨g,h1,by omega⟩
end
end Go.Vm
end

section
set_option linter.unusedVariables false
namespace Go.Vm
open Go.RowKit Go.Shelf Go.Proofs
section
variable {P:Program}{ρ:Ren}
theorem q5R(w:World)(a:Addr)(n k:Nat)(h:k≠a.block):(w.freeze a n).heap[k]? = w.heap[k]?:=by
 unfold World.freeze
 split
 ·rfl
 ·simp [Array.getElem?_modify,h.symm]
set_option maxHeartbeats 2000000 in
set_option maxRecDepth 100000 in
theorem q7u(L:Lays.n169 P ρ)(X:Builder.Extra P ρ){w:World}{b:Nat}{p:Value}(h:BAt (ρ.t 72) (ρ.t 5) w b p (.slice none 0 0) []) :
  Calls P (ρ.f 169) #[.pointer (some ⟨b,0,none⟩)] w fun e w'=>e=.returned (.string ⟨#[]⟩)∧w'=w.drew:=by
 have hUS:=Any.unsafeString_none L X
 have c1:w.drew.cell? ⟨b,1,none⟩=some (.slice none 0 0):=by
  have:w.drew.heap[b]? = some (.cells #[p,.slice none 0 0] (ρ.t 72) (0,0)):=h.hb
  rw[Lib.cell_of_heap this];rfl
 have hSD:(Builtin.unsafeSliceData_ #[(ρ.t 37)] (ρ.t 127) #[.slice none 0 0]).run P w.drew=.ok (.pointer none) w.drew:=rfl
 have mixed:=L.mixed
 have t72:=L.t72;have a72:=L.a72;have z72:=L.z72;have v72:=L.v72;have u72:=run_underlying L.t72
 have t70:=L.t70;have a70:=L.a70;have z70:=L.z70;have v70:=L.v70;have u70:=run_underlying L.t70
 have t37:=L.t37;have a37:=L.a37;have z37:=L.z37;have v37:=L.v37;have u37:=run_underlying L.t37
 have t127:=L.t127;have a127:=L.a127;have z127:=L.z127;have v127:=L.v127;have u127:=run_underlying L.t127
 have t3:=L.t3;have a3:=L.a3;have z3:=L.z3;have v3:=L.v3;have u3:=run_underlying L.t3
 have t9:=L.t9;have a9:=L.a9;have z9:=L.z9;have v9:=L.v9;have u9:=run_underlying L.t9
 have t5:=X.t5;have a5:=X.a5;have z5:=X.z5;have v5:=X.v5;have u5:=run_underlying X.t5
 go_enter L.f169,Body.n169_ntmps ρ
 go_wp2
 go_region_o
 all_goals(go_wp2;go_ret;exact⟨rfl,rfl⟩)
set_option maxHeartbeats 2000000 in
set_option maxRecDepth 100000 in
theorem q7h(L:Lays.n169 P ρ)(X:Builder.Extra P ρ){w:World}{b g cap:Nat}{p:Value}{l:List UInt8}(h0:l≠[])(h:BAt (ρ.t 72) (ρ.t 5) w b p (.slice (some ⟨g,0,none⟩) l.length cap) (Lib.byteCells l)) :
  Calls P (ρ.f 169) #[.pointer (some ⟨b,0,none⟩)] w fun e w'=>e=.returned (.string ⟨l.toArray⟩)∧w'=w.drew.freeze ⟨g,0,none⟩ l.length:=by
 have hl0:l.length≠0:=by simpa using h0
 have hbk:=h.hb
 have hown:=h.own
 rw[Lib.byteCells_length] at hown
 obtain⟨cur,fz,hg,hfz,hnc,hcm,hcs,htake⟩:∃ cur fz,w.heap[g]? = some (.cells cur (ρ.t 5) fz)∧fz.2≤l.length*1∧l.length≤cap∧cap≤maxLen∧cur.size=cap*1∧cur.toList.take (l.length*1)=Lib.byteCells l:=by
  rcases hown.2 with⟨_,hz⟩|⟨g',cap',cur,fz,hv,hB,r⟩
  ·exact absurd hz hl0
  ·injection hv with e1 e2 e3
   injection e1 with e1
   injection e1 with e1 _
   subst e1;subst e3
   exact⟨cur,fz,r⟩
 have c1:w.drew.cell? ⟨b,1,none⟩=some (.slice (some ⟨g,0,none⟩) l.length cap):=by
  have:w.drew.heap[b]? = some (.cells #[p,.slice (some ⟨g,0,none⟩) l.length cap] (ρ.t 72) (0,0)):=hbk
  rw[Lib.cell_of_heap this];rfl
 have hSD:(Builtin.unsafeSliceData_ #[(ρ.t 37)] (ρ.t 127) #[.slice (some ⟨g,0,none⟩) l.length cap]).run P w.drew=.ok (.pointer (some ⟨g,0,none⟩)) w.drew:=
  Lib.run_unsafeSliceData_row _ _ _ _ _ _ (by omega)
 have hUS:(Builtin.unsafeString_ #[(ρ.t 127),(ρ.t 3)] (ρ.t 9) #[.pointer (some ⟨g,0,none⟩),.int .i64 l.length]).run P w.drew=.ok (.string ⟨l.toArray⟩) (w.drew.freeze ⟨g,0,none⟩ l.length):=by
  refine Lib.run_unsafeString_row w.drew (ρ.t 127) (ρ.t 3) (ρ.t 9) (ρ.t 5) L.t127 X.cellsByte g cur.size (by have hg':w.drew.heap[g]? = some (.cells cur (ρ.t 5) fz):=hg;simp [World.shape?,hg']) l h0 (by omega) (by unfold maxLen at hcm;omega) ?_
  intro j x hx
  have:=hown.cells (g:=g) rfl j (.int .u8 x.toNat) (by simp [Lib.byteCells,hx])
  exact this
 have mixed:=L.mixed
 have t72:=L.t72;have a72:=L.a72;have z72:=L.z72;have v72:=L.v72;have u72:=run_underlying L.t72
 have t70:=L.t70;have a70:=L.a70;have z70:=L.z70;have v70:=L.v70;have u70:=run_underlying L.t70
 have t37:=L.t37;have a37:=L.a37;have z37:=L.z37;have v37:=L.v37;have u37:=run_underlying L.t37
 have t127:=L.t127;have a127:=L.a127;have z127:=L.z127;have v127:=L.v127;have u127:=run_underlying L.t127
 have t3:=L.t3;have a3:=L.a3;have z3:=L.z3;have v3:=L.v3;have u3:=run_underlying L.t3
 have t9:=L.t9;have a9:=L.a9;have z9:=L.z9;have v9:=L.v9;have u9:=run_underlying L.t9
 have t5:=X.t5;have a5:=X.a5;have z5:=X.z5;have v5:=X.v5;have u5:=run_underlying X.t5
 go_enter L.f169,Body.n169_ntmps ρ
 go_wp2
 go_region_o
 all_goals(go_wp2;go_ret;exact⟨rfl,rfl⟩)
end
end Go.Vm
end

section
set_option linter.unusedVariables false
namespace Go.Vm
open Go.RowKit Go.Shelf Go.Proofs
@[reducible] def bldB (T b n:Nat):Blk:=.map [(.nils T,.bsl b 0 n)]
@[reducible] def bufB (e:Nat) (bytes:List UInt8):Blk:=.map [(.emps e,.d false .nilp),(.str bytes,.d false .nilp)]
section
variable {P:Program}{ρ:Ren}{w w':World}{F:Nat→Prop}{σ:Nat→Option Loc}
theorem q0N(l:List UInt8):(q1U l).length=l.length:=by simp [q1U]
theorem q6e{T e:Nat}{bytes:List UInt8}(hH:HeapRel w F (OwnB σ) w.heap.size σ 2 (indexed [bldB T 1 bytes.length,bufB e bytes])) :
  ∃ l0 p v,σ 0=some l0∧l0.k=0∧BAt T e w l0.blk p v (q1U bytes)∧(bytes=[]→v=.slice none 0 0)∧∀ g,v.ownBlock=some g→∃ l,σ 1=some l∧l.blk=g:=by
 have h0:=hH.blk 0 (bldB T 1 bytes.length) rfl
 have h1:=hH.blk 1 (bufB e bytes) rfl
 rcases h0 with⟨hn,_⟩|⟨l0,es,ck,ds,hds,hs0,hm,hk,_,_⟩|⟨_,_,_,_,_,_,_,_,_,he⟩
 ·simp [Blk.n,q7T,z5C] at hn
 ·obtain rfl:[(D.nils T,V.bsl 1 0 bytes.length)]=ds:=by injection hds
  rcases hm with⟨_,_,ht⟩|⟨T',p,v,x,hx,hw,hp,hv⟩|⟨T',cur,fz,bs,hx,_⟩
  ·simp [q1n] at ht
  ·simp only[List.cons.injEq,Prod.mk.injEq,D.nils.injEq,and_true] at hx
   obtain⟨rfl,rfl⟩:=hx
   obtain⟨_,hv⟩:=hv
   refine⟨l0,p,v,hs0,hk,?_⟩
   rcases hv with⟨hb,rfl⟩|⟨l,hl,hpos,rfl⟩
   ·obtain rfl:bytes=[]:=List.eq_nil_of_length_eq_zero hb
    exact⟨⟨hp,hw,World.ownsRowF_nil _ _ _ _,by simp [Value.ownBlock]⟩,fun _=>rfl,fun g hg=>by simp [Value.ownBlock] at hg⟩
   ·rcases h1 with⟨_,hn⟩|⟨l1,es1,ck1,ds1,hds1,hs1,hm1,hk1,_,_⟩|⟨_,_,_,_,_,_,_,_,_,he⟩
    ·rw[hl] at hn;cases hn
    ·obtain rfl:[(D.emps e,V.d false .nilp),(.str bytes,.d false .nilp)]=ds1:=by injection hds1
     rw[hl] at hs1
     obtain rfl:=Option.some.inj hs1
     rcases hm1 with⟨_,_,ht⟩|⟨T',p',v',x',hx,_⟩|⟨T',cur,fz,bs,hx,hg,f1,f2,f3,f4,f5⟩
     ·simp [q1n] at ht
     ·simp at hx
     ·simp only[List.map_cons,List.map_nil,List.cons.injEq,D.emps.injEq,D.str.injEq,and_true] at hx
      obtain⟨rfl,rfl⟩:=hx
      refine⟨⟨hp,hw,⟨by simp,.inr ⟨l.blk,l.ext,cur,fz,by rw[q0N],Nat.zero_le _,hg,by rw[q0N];omega,by rw[q0N];exact f2,f4,by omega,?_⟩⟩,?_⟩,fun h=>?_,fun g hg=>⟨l,hl,?_⟩⟩
      ·rw[q0N,Nat.mul_one];exact f5
      ·intro h
       simp only[Value.ownBlock,Option.some.injEq] at h
       have:=hH.inj 0 1 l0 l hs0 hl h.symm
       cases this
      ·rw[h] at hpos;simp at hpos
      ·simpa [Value.ownBlock] using hg
    ·simp [Blk.entries] at he
  ·simp at hx
 ·simp [Blk.entries] at he
theorem q5e{T e:Nat}{l0:Loc}{p' v v':Value}{bytes':List UInt8}{H:List (Nat×Blk)}(hH:HeapRel w F (OwnB σ) w.heap.size σ 2 H)(hs0:σ 0=some l0)(hk0:l0.k=0)(hv:∀ g,v.ownBlock=some g→∃ l,σ 1=some l∧l.blk=g)
  (hb:BAt T e w' l0.blk p' v' (q1U bytes')) (hK:Kept w w' l0.blk v v') (hnil:bytes'=[]→v'=.slice none 0 0) :
  ∃ σ',Frame (OwnB σ) w.heap.size w w'∧HeapRel w' F (OwnB σ) w.heap.size σ' 2 (indexed [bldB T 1 bytes'.length,bufB e bytes'])∧∀ i l,i<2→σ i=some l→i∉[1]→σ' i=some l:=by
 have hF:∀ b,F b→b<w'.heap.size:=fun b hf=>Nat.lt_of_lt_of_le (hH.fro b hf) hK.size
 have hframe:Frame (OwnB σ) w.heap.size w w':=⟨hK.os,hK.tape,hK.output,hK.size,fun k hk hX=>hK.blk k hk (fun h=>hX 0 ⟨l0,hs0,h.symm⟩) (fun h=>by
  obtain⟨l,h1,h2⟩:=hv k h.symm
  exact hX 1 ⟨l,h1,h2⟩)⟩
 obtain⟨o1,o2,o3,o4⟩:=hH.own 0 l0 hs0
 have hlt0:=hb.lt
 rcases hb.own.2 with⟨rfl,hz⟩|⟨g,cap,cur,fz,rfl,_,hg,f1,f2,f3,f4,f5⟩
 ·-- no buffer
  have hz':bytes'=[]:=by rw[q0N] at hz;exact List.eq_nil_of_length_eq_zero hz
  subst hz'
  refine⟨fun i=>if i=0 then some l0 else none,hframe,⟨fun i blk hi=>?_,fun i j l l' h1 h2 _=>?_,fun i l h=>?_,hF⟩,fun i l hi hl hm=>?_⟩
  ·have:(i=0∧blk=bldB T 1 0)∨(i=1∧blk=bufB e []):=by
    simp only[indexed,List.zipIdx_cons,List.zipIdx_nil,List.map_cons,List.map_nil,look,List.length_nil] at hi
    split at hi
    ·rename_i h;exact .inl ⟨h.symm,(Option.some.inj hi).symm⟩
    ·split at hi
     ·rename_i h;exact .inr ⟨by omega,(Option.some.inj hi).symm⟩
     ·cases hi
   rcases this with⟨rfl,rfl⟩|⟨rfl,rfl⟩
   ·exact .inr (.inl ⟨l0,#[⟨.slice none 0 0,.slice none 0 0,0⟩],0,_,rfl,rfl,.inr (.inl ⟨T,p',.slice none 0 0,_,rfl,hb.hb,hb.hp,rfl,.inl ⟨rfl,rfl⟩⟩),hk0,trivial,rfl,fun i e p he hp=>by
     match i,he,hp with
     |0,he,hp=>
      simp at he hp
      subst he;subst hp
      exact⟨rfl,.nils T,.bsl0 none 1 0⟩
     |i+1,he,hp=>simp at he⟩)
   ·exact .inl ⟨rfl,rfl⟩
  ·split at h1
   ·split at h2
    ·omega
    ·cases h2
   ·cases h1
  ·split at h
   ·rename_i h0
    subst h0
    obtain rfl:=Option.some.inj h
    exact⟨by omega,o2,o3,hlt0⟩
   ·cases h
  ·have:i=0:=by simp at hm;omega
   subst this
   show some l0=some l
   rw[←hs0];exact hl
 ·have hgne:g≠l0.blk:=fun h=>hb.ne (by simp [Value.ownBlock,h])
  have hpos:0<bytes'.length:=by
   rcases Nat.eq_zero_or_pos bytes'.length with h|h
   ·have:=hnil (List.eq_nil_of_length_eq_zero h)
    simp at this
   ·exact h
  have hgl:g<w'.heap.size:=by
   rcases Nat.lt_or_ge g w'.heap.size with h'|h'
   ·exact h'
   ·simp [Array.getElem?_eq_none h'] at hg
  rw[q0N,Nat.mul_one] at f1 f5
  rw[q0N] at f2
  -- where the buffer is
  have gown:¬ F g∧(w.heap.size≤g∨OwnB σ 1 g):=by
   rcases hK.same with h|⟨g',h1,h2⟩
   ·obtain⟨l,h1,h2⟩:=hv g (by rw[←h];rfl)
    obtain⟨q1,q2,q3,q4⟩:=hH.own 1 l h1
    rw[h2] at q2
    exact⟨q2,.inr ⟨l,h1,h2⟩⟩
   ·simp only[Value.ownBlock,Option.some.injEq] at h1
    subst h1
    exact⟨fun hf=>by have:=hH.fro _ hf;omega,.inl h2⟩
  let l1:Loc:=⟨g,0,cap⟩
  refine⟨fun i=>if i=0 then some l0 else if i=1 then some l1 else none,hframe,⟨fun i blk hi=>?_,fun i j l l' h1 h2 he=>?_,fun i l h=>?_,hF⟩,fun i l hi hl hm=>?_⟩
  ·have:(i=0∧blk=bldB T 1 bytes'.length)∨(i=1∧blk=bufB e bytes'):=by
    simp only[indexed,List.zipIdx_cons,List.zipIdx_nil,List.map_cons,List.map_nil,look] at hi
    split at hi
    ·rename_i h;exact .inl ⟨h.symm,(Option.some.inj hi).symm⟩
    ·split at hi
     ·rename_i h;exact .inr ⟨by omega,(Option.some.inj hi).symm⟩
     ·cases hi
   rcases this with⟨rfl,rfl⟩|⟨rfl,rfl⟩
   ·refine .inr (.inl ⟨l0,#[⟨.slice none 0 0,.slice (some ⟨g,0,none⟩) bytes'.length cap,0⟩],0,_,rfl,rfl,.inr (.inl ⟨T,p',_,_,rfl,hb.hb,hb.hp,rfl,.inr ⟨l1,rfl,hpos,by rw[q0N]⟩⟩),hk0,trivial,rfl,fun i e p he hp=>?_⟩)
    match i,he,hp with
    |0,he,hp=>
     simp at he hp
     subst he;subst hp
     exact⟨rfl,.nils T,by
      have:=RepV.bsl (w:=w') (F:=F) (base:=w.heap.size) (σ:=fun i=>if i=0 then some l0 else if i=1 then some l1 else none) 1 0 bytes'.length cap l1 rfl f2 (by simp [l1])
      simpa [l1] using this⟩
    |i+1,he,hp=>simp at he
   ·refine .inr (.inl ⟨l1,#[⟨.slice (some ⟨0,0,none⟩) 0 0,.pointer none,0⟩,⟨.string ⟨bytes'.toArray⟩,.pointer none,0⟩],0,_,rfl,rfl,.inr (.inr ⟨e,cur,fz,bytes',rfl,hg,f1,f2,by simpa using f4,f3,f5⟩),rfl,trivial,rfl,fun i e' p he hp=>?_⟩)
    match i,he,hp with
    |0,he,hp=>
     simp at he hp
     subst he;subst hp
     exact⟨rfl,.emps _ _ e,.d _ _ _ .nilp⟩
    |1,he,hp=>
     simp at he hp
     subst he;subst hp
     exact⟨rfl,.str ⟨bytes'.toArray⟩,.d _ _ _ .nilp⟩
    |i+2,he,hp=>simp at he
  ·have two:∀ {i:Nat} {l:Loc},(if i=0 then some l0 else if i=1 then some l1 else none)=some l→(i=0∧l=l0)∨(i=1∧l=l1):=by
    intro i l h
    split at h
    ·rename_i h0;exact .inl ⟨h0,(Option.some.inj h).symm⟩
    ·split at h
     ·rename_i h0;exact .inr ⟨h0,(Option.some.inj h).symm⟩
     ·cases h
   rcases two h1 with⟨rfl,rfl⟩|⟨rfl,rfl⟩ <;> rcases two h2 with⟨rfl,rfl⟩|⟨rfl,rfl⟩
   ·rfl
   ·exact absurd he.symm hgne
   ·exact absurd he hgne
   ·rfl
  ·split at h
   ·rename_i h0
    subst h0
    obtain rfl:=Option.some.inj h
    exact⟨by omega,o2,o3,hlt0⟩
   ·split at h
    ·rename_i h0
     subst h0
     obtain rfl:=Option.some.inj h
     exact⟨by omega,gown.1,gown.2,hgl⟩
    ·cases h
  ·have:i=0:=by simp at hm;omega
   subst this
   show some l0=some l
   rw[←hs0];exact hl
theorem q53{base:Nat}{v:Value}{l0:Loc}(hs0:σ 0=some l0)(h:RepV w F base σ v (.ptr 0 0 0)):v=.pointer (some ⟨l0.blk,0,none⟩):=by
 cases h with
 |ptr _ _ _ l hl=>
  rw[hs0] at hl
  obtain rfl:=Option.some.inj hl
  simp
variable {G:Nat→Option (List D)}
def WbOk(P:Program)(f:FuncId)(T e:TypeId):Prop:=∀ {w:World}{b:Nat}{p v:Value}{bs:List Value},BAt T e w b p v bs→∀(c:Int),bs.length+1≤140737488355328→
  Calls P f #[.pointer (some ⟨b,0,none⟩),.int .u8 c] w fun x w'=>x=.returned .nilIface∧∃ v',BAt T e w' b (.pointer (some ⟨b,0,none⟩)) v' (bs++[.int .u8 c])∧Kept w w' b v v'
def WsOk(P:Program)(f:FuncId)(T e:TypeId):Prop:=∀ {w:World}{b:Nat}{p v:Value}{bs:List Value},BAt T e w b p v bs→∀(s:ByteArray),bs.length+s.size≤140737488355328→
  Calls P f #[.pointer (some ⟨b,0,none⟩),.string s] w fun x w'=>x=.returned (.tuple #[.int .i64 s.size,.nilIface])∧∃ v',BAt T e w' b (.pointer (some ⟨b,0,none⟩)) v' (bs++Lib.strCells s)∧Kept w w' b v v'∧(v=.slice none 0 0→s.size=0→v'=.slice none 0 0)
theorem q8H{f T e:Nat}(hW:WbOk P f T e)(bytes:List UInt8)(c:UInt8)(hlen:bytes.length+1≤140737488355328) :
  q4B P G f [.ptr 0 0 0,.d false (.int .u8 c.toNat)] [bldB T 1 bytes.length,bufB e bytes] (.d false .nilif) [bldB T 1 (bytes++[c]).length,bufB e (bytes++[c])] [1]:=by
 intro w F σ vals hG hH hR
 obtain⟨l0,p,v,hs0,hk0,hB,hn0,hv⟩:=q6e hH
 obtain⟨hsz,hval⟩:=hR
 obtain⟨l⟩:=vals
 match l,hsz,hval with
 |[v0,v1],hsz,hval=>
  have e0:=q53 hs0 (hval 0 v0 (.ptr 0 0 0) rfl rfl)
  have e1:=(hval 1 v1 (.d false (.int .u8 c.toNat)) rfl rfl).int_inv
  subst e0;subst e1
  refine(hW hB c.toNat (by rw[q0N];exact hlen)).mono ?_
  rintro x w' ⟨rfl,v',hB',hK⟩
  have hB'':BAt T e w' l0.blk (.pointer (some ⟨l0.blk,0,none⟩)) v' (q1U (bytes++[c])):=by
   have:q1U (bytes++[c])=q1U bytes++[.int .u8 c.toNat]:=by simp [q1U]
   rw[this];exact hB'
  obtain⟨σ',h1,h2,h3⟩:=q5e hH hs0 hk0 hv hB'' hK (fun h=>by simp at h)
  exact⟨.nilIface,F,σ',rfl,h1,fun _ h=>h,fun _ h=>.inl h,.d _ _ _ .nilif,h2,h3⟩
 |[],hsz,_=>simp at hsz
 |[_],hsz,_=>simp at hsz
 |_ :: _ :: _ :: _,hsz,_=>simp at hsz
theorem q7a{f T e:Nat}(hW:WsOk P f T e)(bytes s:List UInt8)(hlen:bytes.length+s.length≤140737488355328) :
  q4B P G f [.ptr 0 0 0,.d false (.str s)] [bldB T 1 bytes.length,bufB e bytes] (.tup [.d false (.int .i64 s.length),.d false .nilif]) [bldB T 1 (bytes++s).length,bufB e (bytes++s)] [1]:=by
 intro w F σ vals hG hH hR
 obtain⟨l0,p,v,hs0,hk0,hB,hn0,hv⟩:=q6e hH
 obtain⟨hsz,hval⟩:=hR
 obtain⟨l⟩:=vals
 match l,hsz,hval with
 |[v0,v1],hsz,hval=>
  have e0:=q53 hs0 (hval 0 v0 (.ptr 0 0 0) rfl rfl)
  obtain⟨t,e1,e2⟩:=(hval 1 v1 (.d false (.str s)) rfl rfl).str_inv
  subst e0;subst e1;subst e2
  have hst:t.size=t.data.toList.length:=rfl
  refine(hW hB t (by rw[q0N,hst];exact hlen)).mono ?_
  rintro x w' ⟨rfl,v',hB',hK,hnil⟩
  have hB'':BAt T e w' l0.blk (.pointer (some ⟨l0.blk,0,none⟩)) v' (q1U (bytes++t.data.toList)):=by
   have:q1U (bytes++t.data.toList)=q1U bytes++Lib.strCells t:=by simp [q1U,Lib.strCells]
   rw[this];exact hB'
  obtain⟨σ',h1,h2,h3⟩:=q5e hH hs0 hk0 hv hB'' hK (fun h=>by
   rw[List.append_eq_nil_iff] at h
   exact hnil (hn0 h.1) (by rw[hst,h.2];rfl))
  refine⟨_,F,σ',rfl,h1,fun _ h=>h,fun _ h=>.inl h,.tup _ _ rfl (fun j u x hu hx=>?_),h2,h3⟩
  match j,hu,hx with
  |0,hu,hx=>simp at hu hx;subst hu;subst hx;rw[hst];exact .d _ _ _ (.int _ _)
  |1,hu,hx=>simp at hu hx;subst hu;subst hx;exact .d _ _ _ .nilif
  |j+2,hu,hx=>simp at hu
 |[],hsz,_=>simp at hsz
 |[_],hsz,_=>simp at hsz
 |_ :: _ :: _ :: _,hsz,_=>simp at hsz
theorem j2V(L:Lays.n170 P ρ)(bytes:List UInt8) :
  q4B P G (ρ.f 170) [.ptr 0 0 0] [bldB (ρ.t 72) 1 bytes.length,bufB (ρ.t 5) bytes] (.d false (.int .i64 bytes.length)) [bldB (ρ.t 72) 1 bytes.length,bufB (ρ.t 5) bytes] []:=by
 intro w F σ vals hG hH hR
 obtain⟨l0,p,v,hs0,hk0,hB,hn0,hv⟩:=q6e hH
 obtain⟨hsz,hval⟩:=hR
 obtain⟨l⟩:=vals
 match l,hsz,hval with
 |[v0],hsz,hval=>
  have e0:=q53 hs0 (hval 0 v0 (.ptr 0 0 0) rfl rfl)
  subst e0
  refine(Any.Builder_Len_f L 0 l0.blk (q1U bytes) w hB.isB).mono ?_
  rintro e w' ⟨rfl,rfl⟩
  exact⟨_,F,σ,rfl,.refl _ _ _,fun _ h=>h,fun _ h=>.inl h,by rw[q0N];exact .d _ _ _ (.int _ _),hH,fun _ _ _ h _=>h⟩
 |[],hsz,_=>simp at hsz
 |_ :: _ :: _,hsz,_=>simp at hsz
theorem z3B(L:Lays.n169 P ρ)(X:Builder.Extra P ρ)(bytes:List UInt8) :
  q4B P G (ρ.f 169) [.ptr 0 0 0] [bldB (ρ.t 72) 1 bytes.length,bufB (ρ.t 5) bytes] (.d false (.str bytes)) [bldB (ρ.t 72) 1 bytes.length,bufB (ρ.t 5) bytes] [1]:=by
 intro w F σ vals hG hH hR
 obtain⟨l0,p,v,hs0,hk0,hB,hn0,hv⟩:=q6e hH
 obtain⟨hsz,hval⟩:=hR
 obtain⟨l⟩:=vals
 match l,hsz,hval with
 |[v0],hsz,hval=>
  have e0:=q53 hs0 (hval 0 v0 (.ptr 0 0 0) rfl rfl)
  subst e0
  by_cases h0:bytes=[]
  ·subst h0
   have:=hn0 rfl
   subst this
   refine(q7u L X hB).mono ?_
   rintro e w' ⟨rfl,rfl⟩
   have hB':BAt (ρ.t 72) (ρ.t 5) w.drew l0.blk p (.slice none 0 0) (q1U []):=⟨hB.hp,hB.hb,hB.own,hB.ne⟩
   have hK:Kept w w.drew l0.blk (.slice none 0 0) (.slice none 0 0):=⟨rfl,rfl,rfl,Nat.le_refl _,fun _ _ _ _=>rfl,.inl rfl⟩
   obtain⟨σ',h1,h2,h3⟩:=q5e hH hs0 hk0 hv hB' hK (fun _=>rfl)
   exact⟨_,F,σ',rfl,h1,fun _ h=>h,fun _ h=>.inl h,.d _ _ _ (.str ⟨#[]⟩),h2,h3⟩
  ·obtain⟨g,cap,rfl⟩:∃ g cap,v=.slice (some ⟨g,0,none⟩) bytes.length cap:=by
    rcases hB.own.2 with⟨_,hz⟩|⟨g,cap,cur,fz,hv,_⟩
    ·rw[q0N] at hz;exact absurd (List.eq_nil_of_length_eq_zero hz) h0
    ·rw[q0N] at hv;exact⟨g,cap,hv⟩
   refine(q7h L X h0 hB).mono ?_
   rintro e w' ⟨rfl,rfl⟩
   have hlen:(q1U bytes).length=bytes.length:=q0N _
   have hA:Lib.BuilderAtF (ρ.t 72) (ρ.t 5) 0 l0.blk p (q1U bytes) w.drew:=⟨Nat.zero_le _,_,hB.hb,hB.own,hB.ne⟩
   have c1:w.drew.cell? ⟨l0.blk,1,none⟩=some (.slice (some ⟨g,0,none⟩) (q1U bytes).length cap):=by
    have:w.drew.heap[l0.blk]? = some (.cells #[p,.slice (some ⟨g,0,none⟩) bytes.length cap] (ρ.t 72) (0,0)):=hB.hb
    rw[Lib.cell_of_heap this,hlen];rfl
   have hne:g≠l0.blk:=fun h=>hB.ne (by simp [Value.ownBlock,h])
   have hF':=hA.froze (g:=g) (cap:=cap) c1
   rw[hlen] at hF'
   have hbk:(w.drew.freeze ⟨g,0,none⟩ bytes.length).heap[l0.blk]? = some (.cells #[p,.slice (some ⟨g,0,none⟩) bytes.length cap] (ρ.t 72) (0,0)):=by
    rw[q5R _ _ _ _ (fun h=>hne h.symm)];exact hB.hb
   have hB':BAt (ρ.t 72) (ρ.t 5) (w.drew.freeze ⟨g,0,none⟩ bytes.length) l0.blk p (.slice (some ⟨g,0,none⟩) bytes.length cap) (q1U bytes):=by
    obtain⟨_,v2,hb2,hown2,hne2⟩:=hF'
    rw[hbk] at hb2
    have:v2=.slice (some ⟨g,0,none⟩) bytes.length cap:=by
     injection hb2 with e1
     injection e1 with e2
     have e2':=congrArg Array.toList e2
     simp at e2'
     exact e2'.symm
    subst this
    exact⟨hB.hp,hbk,hown2,hne2⟩
   have hsz':(w.drew.freeze ⟨g,0,none⟩ bytes.length).heap.size=w.heap.size:=by
    unfold World.freeze
    split
    ·rfl
    ·show(w.heap.modify _ _).size=_
     simp only[Array.size_modify]
   have hos:(w.drew.freeze ⟨g,0,none⟩ bytes.length).os=w.os∧(w.drew.freeze ⟨g,0,none⟩ bytes.length).tape=w.tape∧(w.drew.freeze ⟨g,0,none⟩ bytes.length).output=w.output:=by
    unfold World.freeze
    split <;> exact⟨rfl,rfl,rfl⟩
   have hK:Kept w (w.drew.freeze ⟨g,0,none⟩ bytes.length) l0.blk (.slice (some ⟨g,0,none⟩) bytes.length cap) (.slice (some ⟨g,0,none⟩) bytes.length cap):=
    ⟨hos.1,hos.2.1,hos.2.2,by rw[hsz'];exact Nat.le_refl _,fun k _ _ hk=>by rw[q5R _ _ _ _ (fun h=>hk (by simp [Value.ownBlock,h]))];rfl,.inl rfl⟩
   obtain⟨σ',h1,h2,h3⟩:=q5e hH hs0 hk0 hv hB' hK (fun h=>absurd h h0)
   exact⟨_,F,σ',rfl,h1,fun _ h=>h,fun _ h=>.inl h,.d _ _ _ (.str ⟨bytes.toArray⟩),h2,h3⟩
 |[],hsz,_=>simp at hsz
 |_ :: _ :: _,hsz,_=>simp at hsz
end
end Go.Vm
end

section
namespace Go.Vm
set_option maxRecDepth 20000
mutual
def Ty.txt:Ty→BY
  |.mk k n l=>if k=1 then [73,110,116] else if k=3 then 40 :: (txtF l++[41]) else if l.length=0 then n else 40 :: (n++(txtL l++[41]))
def txtF:List Ty→BY
  |[]=>[]
  |a :: r=>a.txt++txtG r
def txtG:List Ty→BY
  |[]=>[]
  |b :: _=>[32,45,62,32]++b.txt
def txtL:List Ty→BY
  |[]=>[]
  |t :: r=>32 :: (t.txt++txtL r)
end
def E82(K:Cx):Prop:=∀(bytes:BY)(c:UInt8),bytes.length≤100000000→K.eff 82 [.ptr 0 0 0,.d false (.int .u8 c.toNat)] [bldB 96 1 bytes.length,bufB 5 bytes]=some (.d false .nilif,[bldB 96 1 (bytes++[c]).length,bufB 5 (bytes++[c])],[1])
def E81(K:Cx):Prop:=∀(bytes s:BY),bytes.length≤100000000→s.length≤100000000→K.eff 81 [.ptr 0 0 0,sV s] [bldB 96 1 bytes.length,bufB 5 bytes]=some (.tup [.d false (.int .i64 s.length),.d false .nilif],[bldB 96 1 (bytes++s).length,bufB 5 (bytes++s)],[1])
def E68(K:Cx)(t:Ty):Prop:=∀ bytes:BY,bytes.length+t.txt.length≤100000000→K.eff 68 [.ptr 0 0 0,tyW t] [bldB 96 1 bytes.length,bufB 5 bytes]=some (.tup [],[bldB 96 1 (bytes++t.txt).length,bufB 5 (bytes++t.txt)],[1])
/- 'sloth/types.write' -/
def f68_L0:C:= (.seq (.reg [⟨[],[(26,(.bin .lss (.sl 25) (.sl 24)))],[],none,[0,23,24,25],1,[],[],[]⟩]) (.seq (.cond (.sl 26) .skip (.seq (.tidy 2 [0]) (.exit 1))) (.seq (.block 2 (.seq (.reg [⟨[(5,.box (.agg (.cons (.int .i64 0) (.cons (.str []) (.cons (.nilsl 3) .nil)))))],[],[],some (none,.store 3 (.sl 5) (.ld 3 true (.ia 3 (.sl 23) (.sl 25)))),[0,5,23,24,25],4,[],[],[]⟩]) (.seq (.reg [⟨[],[],[],some (some 30,.calle 82 (.cons (.sl 0) (.cons (.int .u8 32) .nil))),[0,5,23,24,25],2,[],[],[]⟩]) (.reg [⟨[],[],[],some (some 33,.calle 68 (.cons (.sl 0) (.cons (.ld 3 true (.sl 5)) .nil))),[0,23,24,25],3,[],[],[]⟩])))) (.reg [⟨[],[(25,(.bin .add (.sl 25) (.int .i64 1)))],[],none,[0,23,24],2,[],[],[]⟩]))))
def f68:Fun:=⟨ (.seq (.reg [⟨[(3,.box (.sl 1))],[],[],none,[0,3],1,[],[],[]⟩]) (.seq (.reg [⟨[],[(7,(.ld 1 false (.fa 0 (.sl 3))))],[],none,[0,3],2,[],[],[]⟩]) (.block 0 (.seq (.reg [⟨[],[(37,(.bin .eql (.sl 7) (.int .i64 1)))],[],none,[0,3,7],2,[],[],[]⟩]) (.cond (.sl 37) (.reg [⟨[],[],[],some (some 40,.calle 81 (.cons (.sl 0) (.cons (.str [73,110,116]) .nil))),[],2,[],[],[]⟩]) (.seq (.reg [⟨[],[(41,(.bin .eql (.sl 7) (.int .i64 3)))],[],none,[0,3],2,[],[],[]⟩]) (.cond (.sl 41) (.seq (.reg [⟨[],[],[],some (some 44,.calle 82 (.cons (.sl 0) (.cons (.int .u8 40) .nil))),[0,3],2,[],[],[]⟩]) (.seq (.reg [⟨[],[],[],some (some 50,.calle 68 (.cons (.sl 0) (.cons (.ld 3 true (.ia 3 (.ld 1 false (.fa 2 (.sl 3))) (.int .i64 0))) .nil))),[0,3],6,[],[],[]⟩]) (.seq (.reg [⟨[],[],[],some (some 52,.calle 81 (.cons (.sl 0) (.cons (.str [32,45,62,32]) .nil))),[0,3],2,[],[],[]⟩]) (.seq (.reg [⟨[],[],[],some (some 58,.calle 68 (.cons (.sl 0) (.cons (.ld 3 true (.ia 3 (.ld 1 false (.fa 2 (.sl 3))) (.int .i64 1))) .nil))),[0],6,[],[],[]⟩]) (.reg [⟨[],[],[],some (some 60,.calle 82 (.cons (.sl 0) (.cons (.int .u8 41) .nil))),[],2,[],[],[]⟩]))))) (.seq (.seq (.reg [⟨[],[(11,(.bin .eql (.len false (.ld 1 false (.fa 2 (.sl 3)))) (.int .i64 0)))],[],none,[0,3],4,[],[],[]⟩]) (.cond (.sl 11) (.seq (.reg [⟨[],[],[],some (some 15,.calle 81 (.cons (.sl 0) (.cons (.ld 1 false (.fa 1 (.sl 3))) .nil))),[],4,[],[],[]⟩]) (.seq (.tidy 2 []) .ret)) .skip)) (.seq (.reg [⟨[],[],[],some (some 17,.calle 82 (.cons (.sl 0) (.cons (.int .u8 40) .nil))),[0,3],2,[],[],[]⟩]) (.seq (.reg [⟨[],[],[],some (some 21,.calle 81 (.cons (.sl 0) (.cons (.ld 1 false (.fa 1 (.sl 3))) .nil))),[0,3],4,[],[],[]⟩]) (.seq (.seq (.reg [⟨[],[(23,(.ld 1 false (.fa 2 (.sl 3)))),(24,(.len false (.ld 1 false (.fa 2 (.sl 3))))),(25,(.int .i64 0))],[],none,[0],4,[],[],[]⟩]) (.block 1 (.seq (.tidy 2 [0,23,24,25]) (.loop (.seq (.tidy 2 [0,23,24,25]) f68_L0))))) (.reg [⟨[],[],[],some (some 36,.calle 82 (.cons (.sl 0) (.cons (.int .u8 41) .nil))),[],2,[],[],[]⟩])))))))))))), [],false⟩
theorem j4q:q0o Go.Proofs.Tryz.prog 68 2 2 f68=true:=by kernel_rfl
theorem ia0(H k c r0 r1):evIa H k (.d c (.sl k [r0,r1])) (.int .i64 0)=some (.d c (.ptr r0)):=by simp [evIa]
theorem ia1(H k c r0 r1):evIa H k (.d c (.sl k [r0,r1])) (.int .i64 1)=some (.d c (.ptr r1)):=by simp [evIa]
theorem z6r(K:Cx)(h81:E81 K)(n:BY)(l:List Ty)(bytes:BY)(hb:bytes.length+3≤100000000) :
    q0c K f68 [.ptr 0 0 0,tyW (.mk 1 n l)] [bldB 96 1 bytes.length,bufB 5 bytes]=some (.tup [],[bldB 96 1 (bytes++[73,110,116]).length,bufB 5 (bytes++[73,110,116])],[1]):=by
  have w:=h81 bytes [73,110,116] (by omega) (by simp)
  unfold f68
  simp only[tyW,sV,bldB,bufB] at w ⊢
  simp(disch:=first|decide|omega|(simp only[LN];first|done|omega)) only[SV,SW,Nat.reduceAdd,Nat.reduceBEq,reduceCtorEq,w,q0W,Nat.reduceSub,V.forget,V.drop1,V.ref0,lose,q8G,q0b,q0A,hNew,V.newR,q0a]
theorem q9P(K:Cx)(h81:E81 K)(k:Int)(h1:k≠1)(h3:k≠3)(n:BY)(bytes:BY)(hb:bytes.length+n.length≤100000000) :
    q0c K f68 [.ptr 0 0 0,tyW (.mk k n [])] [bldB 96 1 bytes.length,bufB 5 bytes]=some (.tup [],[bldB 96 1 (bytes++n).length,bufB 5 (bytes++n)],[1]):=by
  have w:=h81 bytes n (by omega) (by omega)
  have e1:(k==1)=false:=by simpa using h1
  have e3:(k==3)=false:=by simpa using h3
  unfold f68
  simp only[tyW,sV,bldB,bufB,dL] at w ⊢
  simp(disch:=first|decide|omega|(simp only[LN];first|done|omega)) only[SV,SW,Nat.reduceAdd,Nat.reduceBEq,e1,e3,reduceCtorEq,w,q0W,Nat.reduceSub,V.forget,V.drop1,V.ref0,lose,q0A,q0b,hNew,V.newR,q0a]
theorem z6s(K:Cx)(h82:E82 K)(h81:E81 K)(n:BY)(a b:Ty)(ha:E68 K a)(hb:E68 K b)(bytes:BY)(hl:bytes.length+a.txt.length+b.txt.length+6≤100000000) :
    q0c K f68 [.ptr 0 0 0,tyW (.mk 3 n [a,b])] [bldB 96 1 bytes.length,bufB 5 bytes]=some (.tup [],[bldB 96 1 (bytes++40 :: (a.txt++([32,45,62,32]++b.txt)++[41])).length,bufB 5 (bytes++40 :: (a.txt++([32,45,62,32]++b.txt)++[41]))],[1]):=by
  have w1:=h82 bytes 40 (by omega)
  have w2:=ha (bytes++[40]) (by simp only[List.length_append,List.length_singleton];omega)
  have w3:=h81 (bytes++[40]++a.txt) [32,45,62,32] (by simp only[List.length_append,List.length_singleton];omega) (by simp)
  have w4:=hb (bytes++[40]++a.txt++[32,45,62,32]) (by simp only[List.length_append,List.length_singleton,List.length_cons,List.length_nil];omega)
  have w5:=h82 (bytes++[40]++a.txt++[32,45,62,32]++b.txt) 41 (by simp only[List.length_append,List.length_singleton,List.length_cons,List.length_nil];omega)
  have e:bytes++40 :: (a.txt++([32,45,62,32]++b.txt)++[41])=bytes++[40]++a.txt++[32,45,62,32]++b.txt++[41]:=by simp
  rw[e]
  obtain⟨ka,na,la⟩:=a
  obtain⟨kb,nb,lb⟩:=b
  generalize (Ty.mk ka na la).txt=ta at *
  generalize (Ty.mk kb nb lb).txt=tb at *
  have e40:(((40:UInt8).toNat:Nat):Int)=40:=rfl
  have e41:(((41:UInt8).toNat:Nat):Int)=41:=rfl
  rw[e40] at w1
  rw[e41] at w5
  unfold f68
  clear e ha hb h82 h81
  generalize hb1:bytes++[40]=b1 at *
  generalize hb2:b1++ta=b2 at *
  generalize hb3:b2++[32,45,62,32]=b3 at *
  generalize hb4:b3++tb=b4 at *
  generalize hb5:b4++[41]=b5 at *
  simp only[tyW,sV,bldB,bufB,dL,Ty.d] at w1 w2 w3 w4 w5 ⊢
  simp(disch:=first|decide|omega|(simp only[LN];first|done|omega)) only[SV,SW,Nat.reduceAdd,Nat.reduceBEq,reduceCtorEq,w1,q0W,Nat.reduceSub,V.forget,V.drop1,V.ref0,lose,Nat.reduceEqDiff,ia0,dimL,w2,w3,ia1,w4,w5,q8G,q0b,q0A,hNew,V.newR,q0a]
theorem j08(K:Cx)(h82:E82 K)(l:List Ty)(hl:l.length≤most)(hg:∀ t∈l,E68 K t):∀(r:List Ty)(k:Nat)(bytes:BY),l.drop k=r→k≤l.length→bytes.length+(txtL r).length≤100000000→
    lp K 2 [0,23,24,25] f68_L0 ⟨[(0,.ptr 0 0 0),(23,tlV l),(24,.d false (.int .i64 l.length)),(25,.d false (.int .i64 k))],[(0,bldB 96 1 bytes.length),(1,bufB 5 bytes)],2,[1]⟩ =
      some (.exit 1,⟨[(0,.ptr 0 0 0)],[(0,bldB 96 1 (bytes++txtL r).length),(1,bufB 5 (bytes++txtL r))],2,[1]⟩):=by
  have hm:most=1099511627776:=rfl
  intro r
  induction r with
  |nil=>
    intro k bytes hd hk hb
    have hlen:=congrArg List.length hd
    rw[List.length_drop,List.length_nil] at hlen
    simp only[txtL,List.append_nil]
    rw[q0p f68_L0.eq_1]
    clear hg
    simp only[bldB,bufB,tlV]
    simp(disch:=first|decide|omega|(simp only[LN];first|done|omega)) only[SV,SW,Nat.reduceBEq,q0A,reduceCtorEq,Nat.reduceAdd]
  |cons x r ih=>
    intro k bytes hd hk hb
    have hl':k<l.length:=by
      rcases Nat.lt_or_ge k l.length with h'|h'
      · exact h'
      · rw[List.drop_eq_nil_of_le h'] at hd;cases hd
    have hdn:=q1i hl'
    rw[hd] at hdn
    simp only[List.cons.injEq] at hdn
    obtain⟨hn,hd'⟩:=hdn
    have hn:=hn.symm
    simp only[txtL,List.length_cons,List.length_append] at hb
    have w1:=h82 bytes 32 (by omega)
    have w2:=hg x (by rw[←List.take_append_drop k l,hd];simp) (bytes++[32]) (by simp only[List.length_append,List.length_singleton];omega)
    have ih:=ih (k+1) (bytes++[32]++x.txt) hd'.symm (by omega) (by simp only[List.length_append,List.length_singleton];omega)
    have e:bytes++txtL (x :: r)=bytes++[32]++x.txt++txtL r:=by simp [txtL]
    have e32:(((32:UInt8).toNat:Nat):Int)=32:=rfl
    rw[e32] at w1
    rw[e]
    rw[←ih]
    rw[q0p f68_L0.eq_1]
    clear hd hd' hg ih e h82
    obtain⟨k',n',ls⟩:=x
    generalize (Ty.mk k' n' ls).txt=tx at *
    generalize hb1:bytes++[32]=b1 at *
    generalize hb2:b1++tx=b2 at *
    simp only[tyW,tlV,bldB,bufB] at w1 w2 ⊢
    simp(disch:=first|decide|omega|(simp only[LN];first|done|omega)) only[SV,SW,Nat.reduceBEq,Nat.reduceAdd,hn,Ty.d,lose,reduceCtorEq,w1,q0W,Nat.reduceSub,V.forget,V.drop1,V.ref0,Nat.reduceEqDiff,dimL,w2,q0U,q0A]
theorem z6t(K:Cx)(h82:E82 K)(h81:E81 K)(k:Int)(h1:k≠1)(h3:k≠3)(n:BY)(l:List Ty)(h0:l≠[])(hl:l.length≤most)(hg:∀ t∈l,E68 K t)(bytes:BY)(hb:bytes.length+n.length+(txtL l).length+2≤100000000) :
    q0c K f68 [.ptr 0 0 0,tyW (.mk k n l)] [bldB 96 1 bytes.length,bufB 5 bytes]=some (.tup [],[bldB 96 1 (bytes++40 :: (n++(txtL l++[41]))).length,bufB 5 (bytes++40 :: (n++(txtL l++[41])))],[1]):=by
  have hm:most=1099511627776:=rfl
  have hpos:0<l.length:=List.length_pos_iff.2 h0
  have w1:=h82 bytes 40 (by omega)
  have w2:=h81 (bytes++[40]) n (by simp only[List.length_append,List.length_singleton];omega) (by omega)
  have w3:=j08 K h82 l hl hg l 0 (bytes++[40]++n) rfl (by omega) (by simp only[List.length_append,List.length_singleton];omega)
  have w4:=h82 (bytes++[40]++n++txtL l) 41 (by simp only[List.length_append,List.length_singleton];omega)
  have e:bytes++40 :: (n++(txtL l++[41]))=bytes++[40]++n++txtL l++[41]:=by simp
  have e1:(k==1)=false:=by simpa using h1
  have e3:(k==3)=false:=by simpa using h3
  have e0:(((l.length:Int))==0)=false:=by
    simp [h0]
  have e40:(((40:UInt8).toNat:Nat):Int)=40:=rfl
  have e41:(((41:UInt8).toNat:Nat):Int)=41:=rfl
  rw[e40] at w1
  rw[e41] at w4
  rw[e]
  clear e h82 h81 hg
  generalize txtL l=tx at *
  generalize hb1:bytes++[40]=b1 at *
  generalize hb2:b1++n=b2 at *
  generalize hb3:b2++tx=b3 at *
  generalize hb4:b3++[41]=b4 at *
  unfold f68
  simp only[tyW,sV,tlV,bldB,bufB,q09,Int.natCast_zero,Int.ofNat_zero] at w1 w2 w3 w4 ⊢
  simp(disch:=first|decide|omega|(simp only[LN];first|done|omega)) only[SV,SW,Nat.reduceAdd,Nat.reduceBEq,e1,e3,e0,reduceCtorEq,w1,q0W,Nat.reduceSub,V.forget,V.drop1,V.ref0,lose,Nat.reduceEqDiff,w2,q0A,w3,w4,q8G,q0b,hNew,V.newR,q0a]
def K47(K:Cx)(t:Ty):Prop:=K.call 47 [tyW t]=some (.d false (.int .i64 t.wrongI),[])
def E69(K:Cx):Prop:=∀ bytes:BY,K.eff 69 [.ptr 0 0 0] [bldB 96 1 bytes.length,bufB 5 bytes]=some (.d false (.int .i64 bytes.length),[bldB 96 1 bytes.length,bufB 5 bytes],[])
def E70(K:Cx):Prop:=∀ bytes:BY,K.eff 70 [.ptr 0 0 0] [bldB 96 1 bytes.length,bufB 5 bytes]=some (sV bytes,[bldB 96 1 bytes.length,bufB 5 bytes],[1])
/- 'sloth/types.Print' -/
def f52:Fun:=⟨ (.seq (.reg [⟨[(1,.box (.sl 0))],[],[(.int .i64 0),(.str [])],none,[1],3,[],[],[]⟩]) (.seq (.seq (.reg [⟨[],[(4,(.call 47 (.cons (.ld 3 true (.sl 1)) .nil)))],[],none,[1],3,[],[],[]⟩]) (.seq (.reg [⟨[],[(9,(.bin .neq (.sl 4) (.int .i64 0)))],[],none,[1,4],2,[],[],[]⟩]) (.cond (.sl 9) (.seq (.reg [⟨[],[(2,(.str [])),(3,(.sl 4))],[],none,[],3,[],[],[]⟩]) (.seq (.tidy 0 [2,3]) .ret)) .skip))) (.seq (.reg [⟨[(5,.bld 96 5)],[],[],none,[1,5],1,[],[],[]⟩]) (.seq (.reg [⟨[],[],[],some (some 12,.calle 68 (.cons (.sl 5) (.cons (.ld 3 true (.sl 1)) .nil))),[5],2,[],[],[]⟩]) (.seq (.seq (.reg [⟨[],[],[],some (some 13,.calle 69 (.cons (.sl 5) .nil)),[5],1,[],[],[]⟩,⟨[],[(14,(.bin .gtr (.sl 13) (.int .i64 65536)))],[],none,[5],1,[],[],[]⟩]) (.cond (.sl 14) (.seq (.reg [⟨[],[(2,(.str [])),(3,(.int .i64 4))],[],none,[],2,[],[],[]⟩]) (.seq (.tidy 0 [2,3]) .ret)) .skip)) (.seq (.reg [⟨[],[],[],some (some 15,.calle 70 (.cons (.sl 5) .nil)),[],1,[],[],[]⟩,⟨[],[(2,(.sl 15)),(3,(.int .i64 0))],[],none,[],2,[],[],[]⟩]) (.seq (.tidy 0 [2,3]) .ret))))))), [(.sl 2),(.sl 3)],false⟩
theorem j4E:q0o Go.Proofs.Tryz.prog 52 0 1 f52=true:=by kernel_rfl
def Ty.prtV(t:Ty):V:=if t.wrongI=0 then(if t.txt.length≤65536 then .tup [sV t.txt,.d false (.int .i64 0)] else .tup [sV [],.d false (.int .i64 4)]) else .tup [sV [],.d false (.int .i64 t.wrongI)]
theorem z9A(K:Cx)(t:Ty)(hw:K47 K t)(h68:t.wrongI=0→E68 K t)(h69:E69 K)(h70:E70 K)(hl:t.wrongI=0→t.txt.length≤100000000):q0c K f52 [tyW t] []=some (t.prtV,[],[]):=by
  obtain⟨k,n,l⟩:=t
  unfold K47 at hw
  unfold Ty.prtV
  by_cases h0:(Ty.mk k n l).wrongI=0
  · have w1:=h68 h0 [] (by simpa using hl h0)
    have w2:=h69 (Ty.mk k n l).txt
    have w3:=h70 (Ty.mk k n l).txt
    rw[h0] at hw
    simp only[h0,if_true]
    generalize (Ty.mk k n l).txt=tx at *
    clear h68 h69 h70 hl
    unfold f52
    simp only[tyW,sV,bldB,bufB,List.nil_append,List.length_nil] at hw w1 w2 w3 ⊢
    by_cases hx:tx.length≤65536
    · have e5:decide ((65536:Int)<(tx.length:Int))=false:=decide_eq_false (by omega)
      simp only[hx,if_true]
      simp(disch:=first|decide|omega|(simp only[LN];first|done|omega)) only[SV,SW,Nat.reduceAdd,Nat.reduceBEq,q0a,hw,z2b,Nat.reduceEqDiff,dimL,w1,q0W,Nat.reduceSub,V.forget,V.drop1,V.ref0,lose,w2,w3,q0b]
    · have e5:decide ((65536:Int)<(tx.length:Int))=true:=decide_eq_true (by omega)
      simp only[hx,if_false]
      simp(disch:=first|decide|omega|(simp only[LN];first|done|omega)) only[SV,SW,Nat.reduceAdd,Nat.reduceBEq,q0a,hw,z2b,Nat.reduceEqDiff,dimL,w1,q0W,Nat.reduceSub,V.forget,V.drop1,V.ref0,lose,w2,q0b]
  · have en:((Ty.mk k n l).wrongI==0)=false:=by simpa using h0
    simp only[h0,if_false]
    generalize (Ty.mk k n l).wrongI=e at *
    clear h68 hl
    unfold f52
    simp only[tyW,sV] at hw ⊢
    simp(disch:=first|decide|omega|(simp only[LN];first|done|omega)) only[SV,SW,Nat.reduceAdd,Nat.reduceBEq,q0a,hw,q0b]
end Go.Vm
end

section
namespace Go.Vm
structure Sp where
 α:Type
 f:FuncId
 ok:α→Prop
 args:α→List V
 res:α→V×List Blk
 inj:∀ a b,ok a→ok b→args a=args b→res a=res b
structure Se where
 α:Type
 f:FuncId
 ok:α→Prop
 args:α→List V
 blks:α→List Blk
 res:α→V×List Blk×List Nat
 inj:∀ a b,ok a→ok b→args a=args b→blks a=blks b→res a=res b
open Classical in
noncomputable def q7f:List Sp→FuncId→List V→Option (V×List Blk)
 |[],_,_=>none
 |s :: L,f,vs=>if s.f=f then(if h:∃ a,s.ok a∧s.args a=vs then some (s.res h.choose) else none) else q7f L f vs
open Classical in
noncomputable def z1a:List Se→FuncId→List V→List Blk→Option (V×List Blk×List Nat)
 |[],_,_,_=>none
 |s :: L,f,vs,bs=>if s.f=f then(if h:∃ a,s.ok a∧s.args a=vs∧s.blks a=bs then some (s.res h.choose) else none) else z1a L f vs bs
noncomputable def cx(G:Nat→Option (List D))(L:List Sp)(E:List Se):Cx:=⟨q7f L,z1a E,G,fun _=>false⟩
def Has(L:List Sp)(s:Sp):Prop:=∀ a,s.ok a→q7f L s.f (s.args a)=some (s.res a)
def HasE(L:List Se)(s:Se):Prop:=∀ a,s.ok a→z1a L s.f (s.args a) (s.blks a)=some (s.res a)
theorem q1u(s:Sp)(L:List Sp):Has (s :: L) s:=by
 intro a ha
 have h:∃ b,s.ok b∧s.args b=s.args a:=⟨a,ha,rfl⟩
 simp only[q7f,if_true]
 rw[dif_pos h]
 exact congrArg some (s.inj _ _ h.choose_spec.1 ha h.choose_spec.2)
theorem q14{s t:Sp}{L:List Sp}(h:Has L s)(hne:t.f≠s.f):Has (t :: L) s:=by
 intro a ha
 simp only[q7f]
 rw[if_neg hne]
 exact h a ha
theorem q3Q(s:Se)(L:List Se):HasE (s :: L) s:=by
 intro a ha
 have h:∃ b,s.ok b∧s.args b=s.args a∧s.blks b=s.blks a:=⟨a,ha,rfl,rfl⟩
 simp only[z1a,if_true]
 rw[dif_pos h]
 exact congrArg some (s.inj _ _ h.choose_spec.1 ha h.choose_spec.2.1 h.choose_spec.2.2)
variable {P:Program}{G:Nat→Option (List D)}
def Sp.Holds(P:Program)(G:Nat→Option (List D))(s:Sp):Prop:=∀ a,s.ok a→q0M P s.f=true∧q1V P G s.f (s.args a) (s.res a).1 (s.res a).2
def Se.Holds(P:Program)(G:Nat→Option (List D))(s:Se):Prop:=∀ a,s.ok a→q0M P s.f=true∧q4B P G s.f (s.args a) (s.blks a) (s.res a).1 (s.res a).2.1 (s.res a).2.2
theorem q7e:∀(L:List Sp)(f:FuncId)(vs:List V)(p:V×List Blk),q7f L f vs=some p→∃ s∈L,s.f=f∧∃ a,s.ok a∧s.args a=vs∧s.res a=p
 |[],f,vs,p,h=>by cases h
 |s :: L,f,vs,p,h=>by
  simp only[q7f] at h
  split at h
  ·rename_i hf
   split at h
   ·rename_i hx
    obtain⟨h1,h2⟩:=hx.choose_spec
    exact⟨s,by simp,hf,_,h1,h2,Option.some.inj h⟩
   ·cases h
  ·obtain⟨t,ht,r⟩:=q7e L f vs p h
   exact⟨t,List.mem_cons_of_mem _ ht,r⟩
theorem q75:∀(L:List Se)(f:FuncId)(vs:List V)(bs:List Blk)(p:V×List Blk×List Nat),z1a L f vs bs=some p→∃ s∈L,s.f=f∧∃ a,s.ok a∧s.args a=vs∧s.blks a=bs∧s.res a=p
 |[],f,vs,bs,p,h=>by cases h
 |s :: L,f,vs,bs,p,h=>by
  simp only[z1a] at h
  split at h
  ·rename_i hf
   split at h
   ·rename_i hx
    obtain⟨h1,h2,h3⟩:=hx.choose_spec
    exact⟨s,by simp,hf,_,h1,h2,h3,Option.some.inj h⟩
   ·cases h
  ·obtain⟨t,ht,r⟩:=q75 L f vs bs p h
   exact⟨t,List.mem_cons_of_mem _ ht,r⟩
theorem z97{L:List Sp}{E:List Se}(h1:∀ s∈L,s.Holds P G)(h2:∀ s∈E,s.Holds P G):(cx G L E).Sound P:=by
 refine⟨fun f args r news h=>?_,fun f args r news hl _=>absurd hl (by simp [cx]),fun f args blks r blks' mv h=>?_⟩
 ·obtain⟨s,hs,rfl,a,ha,rfl,hr⟩:=q7e L f args (r,news) h
  have:=h1 s hs a ha
  rw[hr] at this
  exact this
 ·obtain⟨s,hs,rfl,a,ha,rfl,rfl,hr⟩:=q75 E f args blks (r,blks',mv) h
  have:=h2 s hs a ha
  rw[hr] at this
  exact this
theorem q0d{L:List Sp}{E:List Se}(hm:P.follows .mixedOrders=true)(hK:(cx G L E).Sound P){s:Sp}{g:Fun}(hok:∀ a,s.ok a→q0o P s.f 0 (s.args a).length g=true)
  (hev:∀ a,s.ok a→∃ mv,q0c (cx G L E) g (s.args a) []=some ((s.res a).1,(s.res a).2,mv)):s.Holds P G:=by
 intro a ha
 obtain⟨mv,h⟩:=hev a ha
 exact q2o hm hK (hok a ha) h
theorem q41{L:List Sp}{E:List Se}(hm:P.follows .mixedOrders=true)(hK:(cx G L E).Sound P){s:Se}{g:Fun}(hok:∀ a,s.ok a→q0o P s.f (s.blks a).length (s.args a).length g=true)
  (hev:∀ a,s.ok a→q0c (cx G L E) g (s.args a) (s.blks a)=some (s.res a)):s.Holds P G:=by
 intro a ha
 exact q07 hm hK (hok a ha) (hev a ha)
structure Known(P:Program)(G:Nat→Option (List D))(L:List Sp)(E:List Se):Prop where
 one:∀ s∈L,s.Holds P G
 eff:∀ s∈E,s.Holds P G
theorem Known.sound{L:List Sp}{E:List Se}(h:Known P G L E):(cx G L E).Sound P:=z97 h.one h.eff
theorem Known.nil:Known P G [] []:=⟨fun s h=>by simp at h,fun s h=>by simp at h⟩
theorem Known.add{L:List Sp}{E:List Se}(h:Known P G L E)(hm:P.follows .mixedOrders=true){s:Sp}{g:Fun}(hok:∀ a,s.ok a→q0o P s.f 0 (s.args a).length g=true)
  (hev:∀ a,s.ok a→∃ mv,q0c (cx G L E) g (s.args a) []=some ((s.res a).1,(s.res a).2,mv)):Known P G (s :: L) E:=by
 refine⟨fun t ht=>?_,h.eff⟩
 rcases List.mem_cons.1 ht with rfl|ht
 ·exact q0d hm h.sound hok hev
 ·exact h.one t ht
theorem Known.put{L:List Sp}{E:List Se}(h:Known P G L E){s:Sp}(hs:s.Holds P G):Known P G (s :: L) E:=by
 refine⟨fun t ht=>?_,h.eff⟩
 rcases List.mem_cons.1 ht with rfl|ht
 ·exact hs
 ·exact h.one t ht
theorem Known.putE{L:List Sp}{E:List Se}(h:Known P G L E){s:Se}(hs:s.Holds P G):Known P G L (s :: E):=by
 refine⟨h.one,fun t ht=>?_⟩
 rcases List.mem_cons.1 ht with rfl|ht
 ·exact hs
 ·exact h.eff t ht
theorem q6Q{s t:Se}{L:List Se}(h:HasE L s)(hne:t.f≠s.f):HasE (t :: L) s:=by
 intro a ha
 simp only[z1a]
 rw[if_neg hne]
 exact h a ha
end Go.Vm
end

section
namespace Go.Vm
open Go.RowKit Go.Shelf Go.Proofs Go.Lib
@[reducible] def j1M (s sep:List UInt8):List (List D):=(Lib.split s sep).map fun x=>[.str x]
section
variable {P:Program}{ρ:Ren}{G:Nat→Option (List D)}
theorem z9c{w:World}{F:Nat→Prop}{g:Nat}{k:IntKind}{m:Int}(hG:GlobRel w F G)(h:G g=some [.int k m]):w.cell? ⟨g,0,none⟩=some (.int k m):=by
 have:=hG g _ h
 rw[if_neg (by simp [q4Z])] at this
 obtain⟨hp,_⟩:=this
 cases hp with
 |ptr b o cells f h1 h2 h3=>
  have a:=h2 0 _ rfl
  have b:=h3 0 _ rfl
  generalize f 0=v at a b
  cases b
  exact a
theorem z2T(L:Lays.n146 P ρ)(hi9:(P.info? (ρ.t 9)).map (fun i=>(i.zero,i.size,i.bytes))=some (some (.string ByteArray.empty),1,16))(s sep:List UInt8)(m:Int)(hs:s.length<4294967281)(h1:1≤sep.length)(hm:G (ρ.g 1)=some [.int .i64 m]){c1 c2:Bool} :
  q1V P G (ρ.f 146) [.d c1 (.str s),.d c2 (.str sep)] (.d true (.sl 1 (j1M s sep))) []:=by
 intro w F vals hF hG hR
 obtain⟨l⟩:=vals
 obtain⟨hsz,hr⟩:=hR
 match l,hsz with
 |[a,b],_=>
  obtain⟨x,rfl,rfl⟩:=(hr 0 a _ rfl rfl).str_inv
  obtain⟨y,rfl,rfl⟩:=(hr 1 b _ rfl rfl).str_inv
  have hsx:x.size<4294967281:=by rw[Lib.size_eq];exact hs
  have hsy:1≤y.size:=by rw[Lib.size_eq];exact h1
  refine(Any.strings_Split L hi9 x y m w hsx (z9c hG hm) hsy).mono ?_
  rintro e w' ⟨rfl,rfl⟩
  have hpl:(Lib.splitB y 0 (Lib.countB x y) x).map (·.data.toList)=Lib.split x.data.toList y.data.toList:=Lib.splitB_data y 0 _ x
  have hlen:=Lib.splitB_all y hsy 0 _ x rfl
  have hb:Below w.heap.size w (w.alloc (.cells ((Lib.splitB y 0 (Lib.countB x y) x).map Value.string).toArray (ρ.t 9))):=(Below.refl _ w).alloc (Nat.le_refl _) _
  refine⟨_,fun b=>F b∨b=w.heap.size,fun _=>none,rfl,hb,fun b hb=>hb.imp id (fun e=>by omega),.d _ _ _ ?_,⟨fun b blk h=>by simp [indexed,look] at h,fun b b' l l' h=>(by cases h),fun b l h=>(by cases h),fun b hb'=>?_⟩⟩
  ·refine .sl _ _ _ _ _ _ (fun i j=>.string ((Lib.splitB y 0 (Lib.countB x y) x).getD i ByteArray.empty)) ?_ (Nat.le_refl _) ⟨.inr rfl,Nat.le_refl _⟩ ?_ ?_ ?_
   ·show((Lib.split x.data.toList y.data.toList).map fun x=>[D.str x]).length=_
    rw[←hpl,List.length_map,List.length_map,hlen]
   ·intro r hr
    obtain⟨q,_,rfl⟩:=List.mem_map.1 hr
    rfl
   ·intro i j r d hi hj
    have hi':((Lib.split x.data.toList y.data.toList).map fun x=>[D.str x])[i]? = some r:=hi
    rw[←hpl] at hi'
    simp only[List.getElem?_map,Option.map_eq_some_iff] at hi'
    obtain⟨q,⟨z,hz,rfl⟩,rfl⟩:=hi'
    obtain rfl:j=0:=by
     match j,hj with
     |0,_=>rfl
     |j+1,hj=>simp at hj
    have hh:(w.alloc (.cells ((Lib.splitB y 0 (Lib.countB x y) x).map Value.string).toArray (ρ.t 9))).heap[w.heap.size]? = some (.cells ((Lib.splitB y 0 (Lib.countB x y) x).map Value.string).toArray (ρ.t 9)):=by
     show(w.heap.push _)[w.heap.size]? = _
     simp
    unfold World.cell?
    simp only[Nat.mul_one,Nat.add_zero,Nat.zero_add]
    rw[hh]
    simp [hz,List.getD_eq_getElem?_getD]
   ·intro i j r d hi hj
    have hi':((Lib.split x.data.toList y.data.toList).map fun x=>[D.str x])[i]? = some r:=hi
    rw[←hpl] at hi'
    simp only[List.getElem?_map,Option.map_eq_some_iff] at hi'
    obtain⟨q,⟨z,hz,rfl⟩,rfl⟩:=hi'
    obtain rfl:j=0:=by
     match j,hj with
     |0,_=>rfl
     |j+1,hj=>simp at hj
    simp only[List.getElem?_cons_zero,Option.some.injEq] at hj
    subst hj
    rw[List.getD_eq_getElem?_getD,hz]
    exact .str z
  ·rcases hb' with h|rfl
   ·exact Nat.lt_of_lt_of_le (hF b h) hb.size
   ·simp
end
end Go.Vm
end

section
namespace Go.Proofs
open Go.Shelf
def Tryz.lays170_ren:Go.Shelf.Ren:=⟨fun|170=>69|n=>n,fun|70=>93|3=>3|0=>0|72=>96|37=>94|5=>5|n=>n,fun|n=>n⟩
theorem Tryz.lays170:Go.Proofs.Lays.n170 Tryz.prog Tryz.lays170_ren:={
 mixed:=by kernel_rfl
 f170:=Tryz.func69.trans (congrArg some (by kernel_rfl))
 t0:=Tryz.underlying0
 a0:=Tryz.isAgg0
 z0:=Tryz.sizeOf0
 v0:=Tryz.zeroValue0
 t3:=Tryz.underlying3
 a3:=Tryz.isAgg3
 z3:=Tryz.sizeOf3
 v3:=Tryz.zeroValue3
 t37:=Tryz.underlying94
 a37:=Tryz.isAgg94
 z37:=Tryz.sizeOf94
 v37:=Tryz.zeroValue94
 t70:=Tryz.underlying93
 a70:=Tryz.isAgg93
 z70:=Tryz.sizeOf93
 v70:=Tryz.zeroValue93
 t72:=Tryz.underlying96
 a72:=Tryz.isAgg96
 z72:=Tryz.sizeOf96
 v72:=Tryz.zeroValue96 }
def Tryz.lays169_ren:Go.Shelf.Ren:=⟨fun|169=>70|n=>n,fun|70=>93|9=>9|0=>0|72=>96|37=>94|127=>108|3=>3|5=>5|n=>n,fun|n=>n⟩
theorem Tryz.lays169:Go.Proofs.Lays.n169 Tryz.prog Tryz.lays169_ren:={
 mixed:=by kernel_rfl
 f169:=Tryz.func70.trans (congrArg some (by kernel_rfl))
 t0:=Tryz.underlying0
 a0:=Tryz.isAgg0
 z0:=Tryz.sizeOf0
 v0:=Tryz.zeroValue0
 t3:=Tryz.underlying3
 a3:=Tryz.isAgg3
 z3:=Tryz.sizeOf3
 v3:=Tryz.zeroValue3
 t9:=Tryz.underlying9
 a9:=Tryz.isAgg9
 z9:=Tryz.sizeOf9
 v9:=Tryz.zeroValue9
 t37:=Tryz.underlying94
 a37:=Tryz.isAgg94
 z37:=Tryz.sizeOf94
 v37:=Tryz.zeroValue94
 t70:=Tryz.underlying93
 a70:=Tryz.isAgg93
 z70:=Tryz.sizeOf93
 v70:=Tryz.zeroValue93
 t72:=Tryz.underlying96
 a72:=Tryz.isAgg96
 z72:=Tryz.sizeOf96
 v72:=Tryz.zeroValue96
 t127:=Tryz.underlying108
 a127:=Tryz.isAgg108
 z127:=Tryz.sizeOf108
 v127:=Tryz.zeroValue108 }
theorem Tryz.Builder_Extra_169:Builder.Extra Tryz.prog Tryz.lays169_ren:={
 sizeBuilder:=by kernel_rfl
 liesBuilder:=by kernel_rfl
 t5:=Tryz.underlying5
 a5:=Tryz.isAgg5
 z5:=Tryz.sizeOf5
 v5:=Tryz.zeroValue5
 infoByte:=by kernel_rfl
 cellsByte:=by kernel_rfl
 sizeByte:=by kernel_rfl
 neB5:=by decide }
def Tryz.laysM171_ren:Go.Shelf.Ren:=⟨fun|171=>64|243=>80|246=>92|283=>98|284=>99|285=>100|286=>101|129=>107|317=>106|318=>108|319=>109|320=>110|337=>115|338=>116|n=>n,fun|3=>3|9=>9|2=>2|4=>4|171=>117|0=>0|53=>118|37=>94|5=>5|173=>121|212=>129|51=>130|20=>20|213=>131|46=>132|232=>139|233=>140|n=>n,fun|17=>0|18=>2|19=>3|n=>n⟩
theorem Tryz.laysM171:Go.Proofs.LaysM.n171 Tryz.prog Tryz.laysM171_ren:={
 mixed:=by kernel_rfl
 f129:=Tryz.func107.trans (congrArg some (by kernel_rfl))
 f171:=Tryz.func64.trans (congrArg some (by kernel_rfl))
 f243:=Tryz.func80.trans (congrArg some (by kernel_rfl))
 f246:=Tryz.func92.trans (congrArg some (by kernel_rfl))
 f283:=Tryz.func98.trans (congrArg some (by kernel_rfl))
 f284:=Tryz.func99.trans (congrArg some (by kernel_rfl))
 f285:=Tryz.func100.trans (congrArg some (by kernel_rfl))
 f286:=Tryz.func101.trans (congrArg some (by kernel_rfl))
 f317:=Tryz.func106.trans (congrArg some (by kernel_rfl))
 f318:=Tryz.func108.trans (congrArg some (by kernel_rfl))
 f319:=Tryz.func109.trans (congrArg some (by kernel_rfl))
 f320:=Tryz.func110.trans (congrArg some (by kernel_rfl))
 f337:=Tryz.func115.trans (congrArg some (by kernel_rfl))
 f338:=Tryz.func116.trans (congrArg some (by kernel_rfl))
 t0:=Tryz.underlying0
 a0:=Tryz.isAgg0
 z0:=Tryz.sizeOf0
 v0:=Tryz.zeroValue0
 t2:=Tryz.underlying2
 a2:=Tryz.isAgg2
 z2:=Tryz.sizeOf2
 v2:=Tryz.zeroValue2
 t3:=Tryz.underlying3
 a3:=Tryz.isAgg3
 z3:=Tryz.sizeOf3
 v3:=Tryz.zeroValue3
 t4:=Tryz.underlying4
 a4:=Tryz.isAgg4
 z4:=Tryz.sizeOf4
 v4:=Tryz.zeroValue4
 t5:=Tryz.underlying5
 a5:=Tryz.isAgg5
 z5:=Tryz.sizeOf5
 v5:=Tryz.zeroValue5
 t9:=Tryz.underlying9
 a9:=Tryz.isAgg9
 z9:=Tryz.sizeOf9
 v9:=Tryz.zeroValue9
 t20:=Tryz.underlying20
 a20:=Tryz.isAgg20
 z20:=Tryz.sizeOf20
 v20:=Tryz.zeroValue20
 t37:=Tryz.underlying94
 a37:=Tryz.isAgg94
 z37:=Tryz.sizeOf94
 v37:=Tryz.zeroValue94
 t46:=Tryz.underlying132
 a46:=Tryz.isAgg132
 z46:=Tryz.sizeOf132
 v46:=Tryz.zeroValue132
 t51:=Tryz.underlying130
 a51:=Tryz.isAgg130
 z51:=Tryz.sizeOf130
 v51:=Tryz.zeroValue130
 t53:=Tryz.underlying118
 a53:=Tryz.isAgg118
 z53:=Tryz.sizeOf118
 v53:=Tryz.zeroValue118
 t171:=Tryz.underlying117
 a171:=Tryz.isAgg117
 z171:=Tryz.sizeOf117
 v171:=Tryz.zeroValue117
 t173:=Tryz.underlying121
 a173:=Tryz.isAgg121
 z173:=Tryz.sizeOf121
 v173:=Tryz.zeroValue121
 t212:=Tryz.underlying129
 a212:=Tryz.isAgg129
 z212:=Tryz.sizeOf129
 v212:=Tryz.zeroValue129
 t213:=Tryz.underlying131
 a213:=Tryz.isAgg131
 z213:=Tryz.sizeOf131
 t232:=Tryz.underlying139
 a232:=Tryz.isAgg139
 z232:=Tryz.sizeOf139
 v232:=Tryz.zeroValue139
 t233:=Tryz.underlying140
 a233:=Tryz.isAgg140
 z233:=Tryz.sizeOf140
 v233:=Tryz.zeroValue140
 g17:=by kernel_rfl
 g18:=by kernel_rfl
 g19:=by kernel_rfl
 i0:=by kernel_rfl
 i2:=by kernel_rfl
 i3:=by kernel_rfl
 i4:=by kernel_rfl
 i5:=by kernel_rfl
 i9:=by kernel_rfl
 i20:=by kernel_rfl
 i37:=by kernel_rfl
 i46:=by kernel_rfl
 i51:=by kernel_rfl
 i53:=by kernel_rfl
 i171:=by kernel_rfl
 i173:=by kernel_rfl
 i212:=by kernel_rfl
 i232:=by kernel_rfl
 i233:=by kernel_rfl
 m17:=by kernel_rfl
 m18:=by kernel_rfl
 m19:=by kernel_rfl }
open Go.RowKit Go.Sort Go.Lib in
theorem Tryz.strconv_Itoa(n:Int)(h0 : -9223372036854775808≤n)(h1:n≤9223372036854775807)(w:World)(htab:Lib.TabIs Tryz.prog w "internal/strconv.uint64pow10" .u64 Lib.pow10Tab) :
  Calls Tryz.prog 64 #[.int .i64 n] w fun e w'=>e=.returned (.string ⟨(Lib.itoa n).toArray⟩)∧∃ k os,w'=grow (w.drewN k) os:=Any.strconv_Itoa Tryz.laysM171 n h0 h1 w htab
def Tryz.lays146_ren:Go.Shelf.Ren:=⟨fun|146=>90|221=>97|268=>103|138=>104|143=>105|195=>111|197=>112|218=>113|219=>114|260=>117|217=>118|225=>119|224=>120|267=>121|266=>122|314=>123|n=>n,fun|9=>9|31=>113|3=>3|4=>4|0=>0|105=>135|21=>21|5=>5|46=>132|119=>141|139=>144|138=>143|146=>145|51=>130|n=>n,fun|1=>1|3=>4|4=>5|n=>n⟩
theorem Tryz.lays146:Go.Proofs.Lays.n146 Tryz.prog Tryz.lays146_ren:={
 mixed:=by kernel_rfl
 f138:=Tryz.func104.trans (congrArg some (by kernel_rfl))
 f143:=Tryz.func105.trans (congrArg some (by kernel_rfl))
 f146:=Tryz.func90.trans (congrArg some (by kernel_rfl))
 f195:=Tryz.func111.trans (congrArg some (by kernel_rfl))
 f197:=Tryz.func112.trans (congrArg some (by kernel_rfl))
 f217:=Tryz.func118.trans (congrArg some (by kernel_rfl))
 f218:=Tryz.func113.trans (congrArg some (by kernel_rfl))
 f219:=Tryz.func114.trans (congrArg some (by kernel_rfl))
 f221:=Tryz.func97.trans (congrArg some (by kernel_rfl))
 f224:=Tryz.func120.trans (congrArg some (by kernel_rfl))
 f225:=Tryz.func119.trans (congrArg some (by kernel_rfl))
 f260:=Tryz.func117.trans (congrArg some (by kernel_rfl))
 f266:=Tryz.func122.trans (congrArg some (by kernel_rfl))
 f267:=Tryz.func121.trans (congrArg some (by kernel_rfl))
 f268:=Tryz.func103.trans (congrArg some (by kernel_rfl))
 f314:=Tryz.func123.trans (congrArg some (by kernel_rfl))
 t0:=Tryz.underlying0
 a0:=Tryz.isAgg0
 z0:=Tryz.sizeOf0
 v0:=Tryz.zeroValue0
 t3:=Tryz.underlying3
 a3:=Tryz.isAgg3
 z3:=Tryz.sizeOf3
 v3:=Tryz.zeroValue3
 t4:=Tryz.underlying4
 a4:=Tryz.isAgg4
 z4:=Tryz.sizeOf4
 v4:=Tryz.zeroValue4
 t5:=Tryz.underlying5
 a5:=Tryz.isAgg5
 z5:=Tryz.sizeOf5
 v5:=Tryz.zeroValue5
 t9:=Tryz.underlying9
 a9:=Tryz.isAgg9
 z9:=Tryz.sizeOf9
 v9:=Tryz.zeroValue9
 t21:=Tryz.underlying21
 a21:=Tryz.isAgg21
 z21:=Tryz.sizeOf21
 v21:=Tryz.zeroValue21
 t31:=Tryz.underlying113
 a31:=Tryz.isAgg113
 z31:=Tryz.sizeOf113
 v31:=Tryz.zeroValue113
 t46:=Tryz.underlying132
 a46:=Tryz.isAgg132
 z46:=Tryz.sizeOf132
 v46:=Tryz.zeroValue132
 t51:=Tryz.underlying130
 a51:=Tryz.isAgg130
 z51:=Tryz.sizeOf130
 v51:=Tryz.zeroValue130
 t105:=Tryz.underlying135
 a105:=Tryz.isAgg135
 z105:=Tryz.sizeOf135
 v105:=Tryz.zeroValue135
 t119:=Tryz.underlying141
 a119:=Tryz.isAgg141
 z119:=Tryz.sizeOf141
 t138:=Tryz.underlying143
 a138:=Tryz.isAgg143
 z138:=Tryz.sizeOf143
 v138:=Tryz.zeroValue143
 t139:=Tryz.underlying144
 a139:=Tryz.isAgg144
 z139:=Tryz.sizeOf144
 v139:=Tryz.zeroValue144
 t146:=Tryz.underlying145
 a146:=Tryz.isAgg145
 z146:=Tryz.sizeOf145
 v146:=Tryz.zeroValue145
 g1:=by kernel_rfl
 g3:=by kernel_rfl
 g4:=by kernel_rfl }
end Go.Proofs
end

section
set_option linter.unusedVariables false
namespace Go.Vm
open Go.RowKit Go.Shelf Go.Proofs
set_option maxHeartbeats 2000000 in
set_option maxRecDepth 100000 in
theorem j1l(b:Nat)(w:World)(h0:w.cell? ⟨b,0,none⟩=some (.pointer (some ⟨b,0,none⟩))) :
  Calls Tryz.prog 93 #[.pointer (some ⟨b,0,none⟩)] w fun e w'=>e=.returned (.tuple #[])∧w'=w:=by
 obtain⟨j,hj,_⟩:=Option.map_eq_some_iff.1 Tryz.Builder_Extra_169.sizeBuilder
 have mixed:Tryz.prog.follows .mixedOrders=true:=by kernel_rfl
 have t72:=Tryz.underlying96;have a72:=Tryz.isAgg96;have z72:=Tryz.sizeOf96;have v72:=Tryz.zeroValue96;have u72:=Tryz.runUnderlying96
 have t70:=Tryz.underlying93;have a70:=Tryz.isAgg93;have z70:=Tryz.sizeOf93;have v70:=Tryz.zeroValue93;have u70:=Tryz.runUnderlying93
 have t9:=Tryz.underlying9;have a9:=Tryz.isAgg9;have z9:=Tryz.sizeOf9;have v9:=Tryz.zeroValue9;have u9:=Tryz.runUnderlying9
 have t4:=Tryz.underlying4;have a4:=Tryz.isAgg4;have z4:=Tryz.sizeOf4;have v4:=Tryz.zeroValue4;have u4:=Tryz.runUnderlying4
 have t164:=Tryz.underlying123;have a164:=Tryz.isAgg123;have z164:=Tryz.sizeOf123;have v164:=Tryz.zeroValue123;have u164:=Tryz.runUnderlying123
 go_enter Tryz.func93,Tryz.ntmps93
 go_wp2
 rw[Lib.run_neq_ptr_same w _ Tryz.underlying93 hj]
 go_wp2
 go_end0
 exact⟨rfl,rfl⟩
set_option maxHeartbeats 2000000 in
set_option maxRecDepth 100000 in
theorem z8j(b:Nat)(w:World)(h0:w.cell? ⟨b,0,none⟩=some (.pointer none))(hsh:w.shape? b=some (96,2))(hfz:w.frozen? ⟨b,0,none⟩=false) :
  Calls Tryz.prog 93 #[.pointer (some ⟨b,0,none⟩)] w fun e w'=>e=.returned (.tuple #[])∧w'=w.setCell ⟨b,0,none⟩ (.pointer (some ⟨b,0,none⟩)):=by
 obtain⟨j,hj,hjs⟩:=Option.map_eq_some_iff.1 Tryz.Builder_Extra_169.sizeBuilder
 have mixed:Tryz.prog.follows .mixedOrders=true:=by kernel_rfl
 have t72:=Tryz.underlying96;have a72:=Tryz.isAgg96;have z72:=Tryz.sizeOf96;have v72:=Tryz.zeroValue96;have u72:=Tryz.runUnderlying96
 have t70:=Tryz.underlying93;have a70:=Tryz.isAgg93;have z70:=Tryz.sizeOf93;have v70:=Tryz.zeroValue93;have u70:=Tryz.runUnderlying93
 have t9:=Tryz.underlying9;have a9:=Tryz.isAgg9;have z9:=Tryz.sizeOf9;have v9:=Tryz.zeroValue9;have u9:=Tryz.runUnderlying9
 have t4:=Tryz.underlying4;have a4:=Tryz.isAgg4;have z4:=Tryz.sizeOf4;have v4:=Tryz.zeroValue4;have u4:=Tryz.runUnderlying4
 have t164:=Tryz.underlying123;have a164:=Tryz.isAgg123;have z164:=Tryz.sizeOf123;have v164:=Tryz.zeroValue123;have u164:=Tryz.runUnderlying123
 go_enter Tryz.func93,Tryz.ntmps93
 go_wp2
 rw[Lib.run_to_unsafe w ⟨b,0,none⟩ Tryz.underlying93 Tryz.underlying123 hj (by rw[hjs];decide) hsh (Nat.zero_lt_succ 1)]
 simp only[Result.andThen]
 rw[Oper.upon_value]
 go_wp2
 rw[run_callFunc_extern Tryz.func102 (by kernel_rfl) (by kernel_rfl) (by kernel_rfl) (e:=Extern.AbiNoEscape.same) (by kernel_rfl)]
 rw[Lib.run_noEscape]
 simp only[Result.andThen]
 rw[Oper.upon_value]
 go_wp2
 rw[Lib.run_from_unsafe w ⟨b,0,none⟩ Tryz.underlying123 Tryz.underlying93 hj hsh Tryz.Builder_Extra_169.liesBuilder]
 simp only[Result.andThen]
 rw[Oper.upon_value]
 go_wp2
 go_end0
 exact⟨rfl,rfl⟩
theorem q5I{w:World}{b:Nat}{p v:Value}{bs:List Value}(h:BAt 96 5 w b p v bs) :
  Calls Tryz.prog 93 #[.pointer (some ⟨b,0,none⟩)] w fun e w'=>e=.returned (.tuple #[])∧BAt 96 5 w' b (.pointer (some ⟨b,0,none⟩)) v bs∧w'.os=w.os∧w'.tape=w.tape∧w'.output=w.output∧SizeEq w' w∧∀ k,k≠b→w'.heap[k]? = w.heap[k]?:=by
 rcases h.hp with rfl|rfl
 ·have hA:Lib.BuilderAtF 96 5 0 b (.pointer none) bs w:=⟨Nat.zero_le _,v,h.hb,h.own,h.ne⟩
  refine(z8j b w hA.cell0 hA.shape hA.frozen0).mono ?_
  rintro e w' ⟨rfl,rfl⟩
  refine⟨rfl,⟨.inr rfl,?_,?_,h.ne⟩,rfl,rfl,rfl,by simp [SizeEq],fun k hk=>Below.heap_setCell _ _ _ _ hk⟩
  ·have:=h.hb
   simp [World.setCell,Array.getElem?_modify,this]
  ·exact h.own.kept (row:=some b) ⟨rfl,rfl,rfl,by simp [World.setCell],fun k _ hk=>Below.heap_setCell _ _ _ _ (fun e=>hk (by simp [e]))⟩ (Or.inr h.ne)
 ·have hA:Lib.BuilderAtF 96 5 0 b (.pointer (some ⟨b,0,none⟩)) bs w:=⟨Nat.zero_le _,v,h.hb,h.own,h.ne⟩
  refine(j1l b w hA.cell0).mono ?_
  rintro e w' ⟨rfl,rfl⟩
  exact⟨rfl,h,rfl,rfl,rfl,rfl,fun _ _=>rfl⟩
set_option maxHeartbeats 2000000 in
set_option maxRecDepth 100000 in
theorem q86{w:World}{b:Nat}{p v:Value}{bs:List Value}(h:BAt 96 5 w b p v bs)(c:Int)(hlen:bs.length+1≤140737488355328) :
  Calls Tryz.prog 82 #[.pointer (some ⟨b,0,none⟩),.int .u8 c] w fun e w'=>e=.returned .nilIface∧∃ v',BAt 96 5 w' b (.pointer (some ⟨b,0,none⟩)) v' (bs++[.int .u8 c])∧Kept w w' b v v':=by
 obtain⟨i0,hi,hz0,hz1,hz2⟩:=info_parts (show(Tryz.prog.info? 5).map (fun i=>(i.zero,i.size,i.bytes))=some (some (.int .u8 0),1,1) from Tryz.Builder_Extra_169.infoByte)
 have mixed:Tryz.prog.follows .mixedOrders=true:=by kernel_rfl
 have t72:=Tryz.underlying96;have a72:=Tryz.isAgg96;have z72:=Tryz.sizeOf96;have v72:=Tryz.zeroValue96;have u72:=Tryz.runUnderlying96
 have t70:=Tryz.underlying93;have a70:=Tryz.isAgg93;have z70:=Tryz.sizeOf93;have v70:=Tryz.zeroValue93;have u70:=Tryz.runUnderlying93
 have t5:=Tryz.underlying5;have a5:=Tryz.isAgg5;have z5:=Tryz.sizeOf5;have v5:=Tryz.zeroValue5;have u5:=Tryz.runUnderlying5
 have t37:=Tryz.underlying94;have a37:=Tryz.isAgg94;have z37:=Tryz.sizeOf94;have v37:=Tryz.zeroValue94;have u37:=Tryz.runUnderlying94
 have t9:=Tryz.underlying9;have a9:=Tryz.isAgg9;have z9:=Tryz.sizeOf9;have v9:=Tryz.zeroValue9;have u9:=Tryz.runUnderlying9
 have t4:=Tryz.underlying4;have a4:=Tryz.isAgg4;have z4:=Tryz.sizeOf4;have v4:=Tryz.zeroValue4;have u4:=Tryz.runUnderlying4
 have t164:=Tryz.underlying123;have a164:=Tryz.isAgg123;have z164:=Tryz.sizeOf123;have v164:=Tryz.zeroValue123;have u164:=Tryz.runUnderlying123
 have e240:∀ args w,(callFunc 93 args).run Tryz.prog w=.ok (.enter 93 args) w:=enters_of Tryz.func93 (by kernel_rfl) rfl
 go_enter Tryz.func82,Tryz.ntmps82
 go_wp2_with (go_at_fn 93;refine(q5I h).mono ?_)
 rintro e w1 ⟨rfl,h1,o1,o2,o3,hsz1,hold1⟩
 obtain⟨_,hbk,hown,hne⟩:=h1
 have c0:w1.cell? ⟨b,0,none⟩=some (.pointer (some ⟨b,0,none⟩)):=by rw[Lib.cell_of_heap hbk];rfl
 have c1:w1.cell? ⟨b,1,none⟩=some v:=by rw[Lib.cell_of_heap hbk];rfl
 go_wp2_with (at_builtin;refine q7l rfl _ _ 94 rfl 5 i0 Tryz.underlying94 hi hz0 hz1 hz2 _ _ _ rfl (hown.alloc _) ⟨w1.heap.size,0,none⟩ 1 1 [.int .u8 c] rfl rfl ?c1 ?c2 ?c3 ?c4 ?_)
 case c1=>
  intro j u hj
  match j,hj with
  |0,hj=>simp at hj;subst hj;simp [Addr.add]
 case c2=>intro u hu;simp at hu;subst hu;rfl
 case c3=>unfold maxLen;omega
 case c4=>omega
 intro v' w2 hown' hgrow _ hsame
 have hlt:b<w1.heap.size:=by
  rcases Nat.lt_or_ge b w1.heap.size with h'|h'
  ·exact h'
  ·simp [Array.getElem?_eq_none h'] at hbk
 have hb2:w2.heap[b]? = some (.cells #[.pointer (some ⟨b,0,none⟩),v] 96 (0,0)):=by
  rw[hgrow.block b (by simp;omega) (fun e=>hne e.symm),Lib.alloc_old w1 _ b hlt]
  exact hbk
 have d0:w2.cell? ⟨b,0,none⟩=some (.pointer (some ⟨b,0,none⟩)):=by rw[Lib.cell_of_heap hb2];rfl
 have d1:w2.cell? ⟨b,1,none⟩=some v:=by rw[Lib.cell_of_heap hb2];rfl
 have f1:w2.frozen? ⟨b,1,none⟩=false:=Lib.frozen_of_heap hb2 1
 obtain⟨g,cap,rfl⟩:∃ g cap,v'=.slice (some ⟨g,0,none⟩) (bs.length+1) cap:=by
  rcases hown'.2 with⟨_,h0⟩|⟨g,cap,cur,fz,hv,_⟩
  ·omega
  ·exact⟨g,cap,hv⟩
 go_wp2
 go_ret
 refine⟨rfl,_,z7t (by decide:(96:TypeId)≠5) (w:=w) (w1:=w1.alloc (.cells #[.int .u8 c] 5)) (.inr (by simp [hsz1.eq])) ⟨o1,o2,o3⟩ (fun k hk hkb=>by rw[Lib.alloc_old w1 _ k (by rw[hsz1.eq];exact hk)];exact hold1 k hkb) hb2 hgrow (by simpa using hown') hsame (fun g hg=>(h.own.lt g hg).2)⟩
set_option maxHeartbeats 2000000 in
set_option maxRecDepth 100000 in
theorem q7o{w:World}{b:Nat}{p v:Value}{bs:List Value}(h:BAt 96 5 w b p v bs)(s:ByteArray)(hlen:bs.length+s.size≤140737488355328) :
  Calls Tryz.prog 81 #[.pointer (some ⟨b,0,none⟩),.string s] w fun e w'=>e=.returned (.tuple #[.int .i64 s.size,.nilIface])∧∃ v',BAt 96 5 w' b (.pointer (some ⟨b,0,none⟩)) v' (bs++Lib.strCells s)∧Kept w w' b v v'∧(v=.slice none 0 0→s.size=0→v'=.slice none 0 0):=by
 obtain⟨i0,hi,hz0,hz1,hz2⟩:=info_parts (show(Tryz.prog.info? 5).map (fun i=>(i.zero,i.size,i.bytes))=some (some (.int .u8 0),1,1) from Tryz.Builder_Extra_169.infoByte)
 have mixed:Tryz.prog.follows .mixedOrders=true:=by kernel_rfl
 have t72:=Tryz.underlying96;have a72:=Tryz.isAgg96;have z72:=Tryz.sizeOf96;have v72:=Tryz.zeroValue96;have u72:=Tryz.runUnderlying96
 have t70:=Tryz.underlying93;have a70:=Tryz.isAgg93;have z70:=Tryz.sizeOf93;have v70:=Tryz.zeroValue93;have u70:=Tryz.runUnderlying93
 have t37:=Tryz.underlying94;have a37:=Tryz.isAgg94;have z37:=Tryz.sizeOf94;have v37:=Tryz.zeroValue94;have u37:=Tryz.runUnderlying94
 have t3:=Tryz.underlying3;have a3:=Tryz.isAgg3;have z3:=Tryz.sizeOf3;have v3:=Tryz.zeroValue3;have u3:=Tryz.runUnderlying3
 have t9:=Tryz.underlying9;have a9:=Tryz.isAgg9;have z9:=Tryz.sizeOf9;have v9:=Tryz.zeroValue9;have u9:=Tryz.runUnderlying9
 have t4:=Tryz.underlying4;have a4:=Tryz.isAgg4;have z4:=Tryz.sizeOf4;have v4:=Tryz.zeroValue4;have u4:=Tryz.runUnderlying4
 have t164:=Tryz.underlying123;have a164:=Tryz.isAgg123;have z164:=Tryz.sizeOf123;have v164:=Tryz.zeroValue123;have u164:=Tryz.runUnderlying123
 have t5:=Tryz.underlying5;have a5:=Tryz.isAgg5;have z5:=Tryz.sizeOf5;have v5:=Tryz.zeroValue5;have u5:=Tryz.runUnderlying5
 have e240:∀ args w,(callFunc 93 args).run Tryz.prog w=.ok (.enter 93 args) w:=enters_of Tryz.func93 (by kernel_rfl) rfl
 go_enter Tryz.func81,Tryz.ntmps81
 go_wp2_with (go_at_fn 93;refine(q5I h).mono ?_)
 rintro e w1 ⟨rfl,h1,o1,o2,o3,hsz1,hold1⟩
 obtain⟨_,hbk,hown,hne⟩:=h1
 have c0:w1.cell? ⟨b,0,none⟩=some (.pointer (some ⟨b,0,none⟩)):=by rw[Lib.cell_of_heap hbk];rfl
 have c1:w1.cell? ⟨b,1,none⟩=some v:=by rw[Lib.cell_of_heap hbk];rfl
 go_wp2_with (at_builtin;refine q4C rfl _ _ 94 9 rfl 5 i0 Tryz.underlying94 Tryz.underlying9 hi hz0 hz1 hz2 _ _ _ rfl hown s rfl ?c3 ?c4 ?_)
 case c3=>unfold maxLen;omega
 case c4=>omega
 intro v' w2 hown' hgrow hnil hsame
 have hlt:b<w1.heap.size:=by
  rcases Nat.lt_or_ge b w1.heap.size with h'|h'
  ·exact h'
  ·simp [Array.getElem?_eq_none h'] at hbk
 have hb2:w2.heap[b]? = some (.cells #[.pointer (some ⟨b,0,none⟩),v] 96 (0,0)):=by
  rw[hgrow.block b hlt (fun e=>hne e.symm)]
  exact hbk
 have d0:w2.cell? ⟨b,0,none⟩=some (.pointer (some ⟨b,0,none⟩)):=by rw[Lib.cell_of_heap hb2];rfl
 have d1:w2.cell? ⟨b,1,none⟩=some v:=by rw[Lib.cell_of_heap hb2];rfl
 have f1:w2.frozen? ⟨b,1,none⟩=false:=Lib.frozen_of_heap hb2 1
 obtain⟨ao,n',cap,rfl⟩:∃ ao n' cap,v'=.slice ao n' cap:=by
  rcases hown'.2 with⟨hv,_⟩|⟨g,cap,cur,fz,hv,_⟩
  ·exact⟨_,_,_,hv⟩
  ·exact⟨_,_,_,hv⟩
 go_wp2
 go_ret2
 have hp:=z7t (bs':=bs++Lib.strCells s) (by decide:(96:TypeId)≠5) (w:=w) (.inl hsz1.eq) ⟨o1,o2,o3⟩ (fun k hk hkb=>hold1 k hkb) hb2 hgrow (by simpa [Lib.strCells_length] using hown') hsame (fun g hg=>(h.own.lt g hg).2)
 exact⟨rfl,_,hp.1,hp.2,fun h1 h2=>hnil.2 ⟨h1,by
  obtain⟨⟨l⟩⟩:=s
  cases l with
  |nil=>rfl
  |cons a r=>simp [ByteArray.size] at h2⟩⟩
theorem tB_wb:WbOk Tryz.prog 82 96 5:=fun h c hl=>q86 h c hl
theorem tB_ws:WsOk Tryz.prog 81 96 5:=fun h s hl=>q7o h s hl
end Go.Vm
end

section
namespace Go.Vm
set_option maxRecDepth 100000
open Go.Proofs Go.RowKit
theorem q0e:Tryz.prog.follows .mixedOrders=true:=by kernel_rfl
mutual
theorem j1c:∀ a b:Ty,a.d=b.d→a=b
 |.mk k n l,.mk k' n' l',h=>by
  simp only[Ty.d,List.cons.injEq,D.int.injEq,D.str.injEq,D.sl.injEq,true_and,and_true] at h
  rw[h.1,h.2.1,q9Z l l' h.2.2]
theorem q9Z:∀ a b:List Ty,dL a=dL b→a=b
 |[],[],_=>rfl
 |[],_ :: _,h=>by simp [dL] at h
 |_ :: _,[],h=>by simp [dL] at h
 |x :: a,y :: b,h=>by
  simp only[dL,List.cons.injEq] at h
  rw[j1c x y h.1,q9Z a b h.2]
end
theorem q10(a b:Ty)(h:tyW a=tyW b):a=b:=by
 obtain⟨k,n,l⟩:=a
 obtain⟨k',n',l'⟩:=b
 simp only[tyW,V.agg.injEq,List.cons.injEq,V.d.injEq,D.int.injEq,D.str.injEq,D.sl.injEq,true_and,and_true] at h
 rw[h.1,h.2.1,q9Z l l' h.2.2]
theorem z4J(a b:List Ty)(h:tlV a=tlV b):a=b:=by
 simp only[tlV,V.d.injEq,D.sl.injEq,true_and] at h
 rw[←q09,←q09] at h
 exact q9Z a b h
noncomputable def zC(f:FuncId)(p:UInt8→Bool):Sp where
 α:=UInt8
 f:=f
 ok:=fun _=>True
 args:=fun c=>[cV c]
 res:=fun c=>(.bool (p c),[])
 inj:=by
  intro a b _ _ h
  simp only[cV,List.cons.injEq,V.d.injEq,D.int.injEq,true_and,and_true,Int.natCast_inj,UInt8.toNat_inj] at h
  rw[h]
noncomputable def zS(f:FuncId)(ok:BY→Prop)(p:BY→Bool):Sp where
 α:=BY
 f:=f
 ok:=ok
 args:=fun s=>[sV s]
 res:=fun s=>(.bool (p s),[])
 inj:=by
  intro a b _ _ h
  simp only[sV,List.cons.injEq,V.d.injEq,D.str.injEq,true_and,and_true] at h
  rw[h]
noncomputable def z90:Sp where
 α:=BY
 f:=90
 ok:=fun s=>s.length≤4096
 args:=fun s=>[sV s,sV [46]]
 res:=fun s=>(.d true (.sl 1 ((Go.Lib.split s [46]).map fun x=>[.str x])),[])
 inj:=by
  intro a b _ _ h
  simp only[sV,List.cons.injEq,V.d.injEq,D.str.injEq,true_and,and_true] at h
  rw[h]
noncomputable def zT(f:FuncId)(n:Nat)(r:Ty→V):Sp where
 α:=Ty
 f:=f
 ok:=fun t=>t.fit∧SizeOf.sizeOf t<n
 args:=fun t=>[tyW t]
 res:=fun t=>(r t,[])
 inj:=by
  intro a b _ _ h
  simp only[List.cons.injEq,and_true] at h
  rw[q10 a b h]
noncomputable def zL(f g:FuncId)(n:Nat)(r:List Ty→V):Sp where
 α:=List Ty
 f:=f
 ok:=fun l=>l.length≤most∧fitL l∧∀ t∈l,SizeOf.sizeOf t<n
 args:=fun l=>[tlV l,.fn g []]
 res:=fun l=>(r l,[])
 inj:=by
  intro a b _ _ h
  simp only[List.cons.injEq,and_true] at h
  rw[z4J a b h]
section
variable {G:Nat→Option (List D)}
theorem q15:∀(l:List Ty)(t:Ty),fitL l→t∈l→t.fit
 |[],t,_,h=>by simp at h
 |u :: r,t,hf,h=>by
  rcases List.mem_cons.1 h with rfl|h
  ·exact hf.1
  ·exact q15 r t hf.2 h
theorem q20{k:Int}{n:BY}{l:List Ty}{m:Nat}(h:SizeOf.sizeOf (Ty.mk k n l)<m+1):∀ t∈l,SizeOf.sizeOf t<m:=by
 intro t ht
 have:=List.sizeOf_lt_of_mem ht
 simp only[Ty.mk.sizeOf_spec] at h
 omega
theorem z88h:(zC 88 q1o).Holds Tryz.prog G:=q0d q0e (Known.nil (G:=G)).sound (g:=f88) (fun _ _=>j4d) fun c _=>⟨_,z9s _ c⟩
theorem z91h:(zC 91 capB).Holds Tryz.prog G:=q0d q0e (Known.nil (G:=G)).sound (g:=f91) (fun _ _=>j4b) fun c _=>⟨_,z3q _ c⟩
theorem cx1{L:List Sp}{E:List Se}(s:Sp)(a:s.α)(ha:s.ok a):(cx G (s :: L) E).call s.f (s.args a)=some (s.res a):=q1u s L a ha
theorem cx2{L:List Sp}{E:List Se}{t:Sp}(s:Sp)(h:t.f≠s.f)(a:s.α)(ha:s.ok a):(cx G (t :: s :: L) E).call s.f (s.args a)=some (s.res a):=(q14 (q1u s L) h:Has (t :: s :: L) s) a ha
theorem cx3{L:List Sp}{E:List Se}{t u:Sp}(s:Sp)(h:t.f≠s.f)(h':u.f≠s.f)(a:s.α)(ha:s.ok a):(cx G (u :: t :: s :: L) E).call s.f (s.args a)=some (s.res a):=(q14 (q14 (q1u s L) h) h':Has (u :: t :: s :: L) s) a ha
theorem z96h:(zC 96 q2w).Holds Tryz.prog G:=by
 refine q0d q0e ((Known.nil (G:=G)).put z91h |>.put z88h).sound (g:=f96) (fun _ _=>j38) fun c _=>⟨_,j2B _ ?_ ?_ c⟩
 ·exact fun c=>cx1 (zC 88 q1o) c trivial
 ·exact fun c=>cx2 (zC 91 capB) (show(88:Nat)≠91 by decide) c trivial
theorem z89h:(zS 89 (fun s=>s.length≤1099511627776) q0O).Holds Tryz.prog G:=by
 refine q0d q0e ((Known.nil (G:=G)).put z96h).sound (g:=f89) (fun _ _=>j4c) fun s hs=>⟨_,z9t _ ?_ s hs⟩
 exact fun c=>cx1 (zC 96 q2w) c trivial
theorem z77h:(zS 77 (fun _=>True) q1Y).Holds Tryz.prog G:=by
 refine q0d q0e ((Known.nil (G:=G)).put z89h |>.put z88h).sound (g:=f77) (fun _ _=>j4l) fun s _=>⟨_,z9I _ ?_ ?_ s⟩
 ·exact fun c=>cx1 (zC 88 q1o) c trivial
 ·exact fun s hs=>cx2 (zS 89 (fun s=>s.length≤1099511627776) q0O) (show(88:Nat)≠89 by decide) s hs
theorem z90h{m:Int}(hG:G 1=some [.int .i64 m]):z90.Holds Tryz.prog G:=fun s hs=>⟨by kernel_rfl,z2T Tryz.lays146 (by kernel_rfl) s [46] m (by have:s.length≤4096:=hs;omega) (by decide) hG⟩
theorem z78h{m:Int}(hG:G 1=some [.int .i64 m]):(zS 78 (fun _=>True) q1b).Holds Tryz.prog G:=by
 refine q0d q0e ((Known.nil (G:=G)).put (z90h hG) |>.put z89h |>.put z91h).sound (g:=f78) (fun _ _=>j4k) fun s _=>⟨_,z6N _ ?_ ?_ ?_ s⟩
 ·exact fun c=>cx1 (zC 91 capB) c trivial
 ·exact fun s hs=>cx2 (zS 89 (fun s=>s.length≤1099511627776) q0O) (show(91:Nat)≠89 by decide) s hs
 ·exact fun s hs=>cx3 z90 (show(89:Nat)≠90 by decide) (show(91:Nat)≠90 by decide) s hs
theorem zLh(g:FuncId)(n:Nat)(p:Ty→Bool)(h:(zT g n fun t=>.bool (p t)).Holds Tryz.prog G):(zL 67 g n fun l=>.d false (.int .i64 (q2V p 0 l))).Holds Tryz.prog G:=by
 refine q0d q0e ((Known.nil (G:=G)).put h).sound (g:=f67) (fun _ _=>j4r) fun l ⟨h1,h2,h3⟩=>⟨_,z9J _ g p l h1 ?_⟩
 exact fun t ht=>cx1 (zT g n fun t=>.bool (p t)) t ⟨q15 l t h2 ht,h3 t ht⟩
theorem zAh(g:FuncId)(n:Nat)(p:Ty→Bool)(h:(zT g n fun t=>.bool (p t)).Holds Tryz.prog G):(zL 51 g n fun l=>.bool (l.any p)).Holds Tryz.prog G:=by
 refine q0d q0e ((Known.nil (G:=G)).put (zLh g n p h)).sound (g:=f51) (fun _ _=>j4F) fun l hl=>⟨_,z02 _ g p l ?_⟩
 exact cx1 (zL 67 g n fun l=>.d false (.int .i64 (q2V p 0 l))) l hl
theorem z60h{m:Int}(hG:G 1=some [.int .i64 m]):∀ n,(zT 60 n fun t=>.bool t.mayB).Holds Tryz.prog G
 |0=>fun t ⟨_,h⟩=>absurd h (Nat.not_lt_zero _)
 |n+1=>by
  have h79:(zT 79 n fun t=>.bool (!t.mayB)).Holds Tryz.prog G:=by
   refine q0d q0e ((Known.nil (G:=G)).put (z60h hG n)).sound (g:=f79) (fun _ _=>j4j) fun t ht=>⟨_,j2I _ t ?_⟩
   exact cx1 (zT 60 n fun t=>.bool t.mayB) t ht
  have h51:=zAh 79 n (fun t=>!t.mayB) h79
  refine q0d q0e ((Known.nil (G:=G)).put h51 |>.put (z78h hG) |>.put z77h).sound (g:=f60) (fun _ _=>j4v) ?_
  rintro⟨k,nm,l⟩ ⟨⟨f1,f2⟩,hs⟩
  refine⟨_,j5g _ ?_ ?_ k nm l f1 ?_⟩
  ·exact fun s=>cx1 (zS 77 (fun _=>True) q1Y) s trivial
  ·exact fun s=>cx2 (zS 78 (fun _=>True) q1b) (show(77:Nat)≠78 by decide) s trivial
  ·exact cx3 (zL 51 79 n fun l=>.bool (l.any fun t=>!t.mayB)) (show(78:Nat)≠51 by decide) (show(77:Nat)≠51 by decide) l ⟨f1,f2,q20 hs⟩
theorem z61h:∀ n,(zT 61 n fun t=>.d false (.int .i64 t.nod)).Holds Tryz.prog G
 |0=>fun t ⟨_,h⟩=>absurd h (Nat.not_lt_zero _)
 |n+1=>by
  refine q0d q0e ((Known.nil (G:=G)).put (z61h n)).sound (g:=f61) (fun _ _=>j4u) ?_
  rintro⟨k,nm,l⟩ ⟨⟨f1,f2⟩,hs⟩
  refine⟨_,z9E _ k nm l f1 ?_⟩
  exact fun t ht=>cx1 (zT 61 n fun t=>.d false (.int .i64 t.nod)) t ⟨q15 l t f2 ht,q20 hs t ht⟩
theorem z38h:∀ n,(zT 38 n fun t=>.bool t.varB).Holds Tryz.prog G
 |0=>fun t ⟨_,h⟩=>absurd h (Nat.not_lt_zero _)
 |n+1=>by
  have h51:=zAh 38 n Ty.varB (z38h n)
  refine q0d q0e ((Known.nil (G:=G)).put h51).sound (g:=f38) (fun _ _=>j4Q) ?_
  rintro⟨k,nm,l⟩ ⟨⟨f1,f2⟩,hs⟩
  refine⟨_,z6u _ k nm l ?_⟩
  exact cx1 (zL 51 38 n fun l=>.bool (l.any Ty.varB)) l ⟨f1,f2,q20 hs⟩
theorem z47h{m:Int}(hG:G 1=some [.int .i64 m])(n:Nat):(zT 47 n fun t=>.d false (.int .i64 t.wrongI)).Holds Tryz.prog G:=by
 refine q0d q0e ((Known.nil (G:=G)).put (z61h n) |>.put (z60h hG n)).sound (g:=f47) (fun _ _=>j4H) fun t ht=>⟨_,z9q _ t ?_ ?_⟩
 ·exact cx1 (zT 60 n fun t=>.bool t.mayB) t ht
 ·exact cx2 (zT 61 n fun t=>.d false (.int .i64 t.nod)) (show(60:Nat)≠61 by decide) t ht
end
end Go.Vm
end

section
namespace Go.Vm
set_option maxRecDepth 100000
open Go.Proofs Go.RowKit
mutual
def Ty.cnt:Ty→Nat
 |.mk _ _ l=>1+cntL l
def cntL:List Ty→Nat
 |[]=>0
 |t :: r=>t.cnt+cntL r
end
mutual
theorem q6A:∀ t:Ty,t.nod≤500→t.cnt=t.nod
 |.mk k n l,h=>by
  rw[Ty.nod] at h ⊢
  have:=q8w l 1 (by omega)
  rw[Ty.cnt]
  omega
theorem q8w:∀(l:List Ty)(n:Nat),nodL n l≤500→nodL n l=n+cntL l
 |[],n,h=>by simp [nodL,cntL]
 |t :: r,n,h=>by
  rw[nodL] at h ⊢
  split at h
  ·rename_i h5
   omega
  ·rename_i h5
   rw[if_neg h5]
   have h2:=q8w r _ h
   have h1:=q6A t (by omega)
   rw[cntL]
   omega
end
theorem z50{s:BY}(h:q1Y s=true):s.length≤4096:=by
 unfold q1Y at h
 split at h
 ·cases h
 ·simp only[Bool.and_eq_true,decide_eq_true_eq] at h
  exact h.1.1
theorem z3d{s:BY}(h:q1b s=true):s.length≤4096:=by
 simp only[q1b,Bool.and_eq_true,decide_eq_true_eq] at h
 exact h.1.1.1
theorem q2c{k:Int}{n:BY}{l:List Ty}(h:(Ty.mk k n l).mayB=true):mayL l=true∧n.length≤4096∧((k=1∧n=[]∧l=[])∨(k=2∧q1Y n=true∧l=[])∨(k=3∧n=[]∧∃ a b,l=[a,b])∨(k=4∧q1b n=true∧l.length≤6)):=by
 rw[Ty.mayB] at h
 split at h
 ·rename_i hk
  simp only[Bool.and_eq_true,decide_eq_true_eq] at h
  obtain⟨⟨h1,h2⟩,h3⟩:=h
  exact⟨h3,by simp [h1],.inl ⟨hk,h1,List.eq_nil_of_length_eq_zero h2⟩⟩
 ·split at h
  ·rename_i hk
   simp only[Bool.and_eq_true,decide_eq_true_eq] at h
   obtain⟨⟨h1,h2⟩,h3⟩:=h
   exact⟨h3,z50 h1,.inr (.inl ⟨hk,h1,List.eq_nil_of_length_eq_zero h2⟩)⟩
  ·split at h
   ·rename_i hk
    simp only[Bool.and_eq_true,decide_eq_true_eq] at h
    obtain⟨⟨h1,h2⟩,h3⟩:=h
    refine⟨h3,by simp [h1],.inr (.inr (.inl ⟨hk,h1,?_⟩))⟩
    match l,h2 with
    |[a,b],_=>exact⟨a,b,rfl⟩
   ·split at h
    ·rename_i hk
     simp only[Bool.and_eq_true,decide_eq_true_eq] at h
     obtain⟨⟨h1,h2⟩,h3⟩:=h
     exact⟨h3,z3d h1,.inr (.inr (.inr ⟨hk,h1,h2⟩))⟩
    ·cases h
mutual
theorem z4F:∀ t:Ty,t.mayB=true→t.txt.length+1≤4110*t.cnt
 |.mk k n l,h=>by
  obtain⟨hm,hn,hc⟩:=q2c h
  have hL:=z1n l hm
  rw[Ty.txt,Ty.cnt]
  split
  ·simp only[List.length_cons,List.length_nil];omega
  ·split
   ·rename_i h1 h3
    rcases hc with⟨h,_⟩|⟨h,_⟩|⟨_,_,a,b,rfl⟩|⟨h,_⟩
    ·omega
    ·omega
    ·simp only[txtF,txtG,txtL,cntL,List.length_cons,List.length_append,List.length_nil] at hL ⊢
     omega
    ·omega
   ·split
    ·omega
    ·simp only[List.length_cons,List.length_append,List.length_nil]
     omega
theorem z1n:∀ l:List Ty,mayL l=true→(txtL l).length≤4110*cntL l
 |[],_=>by simp [txtL,cntL]
 |t :: r,h=>by
  rw[mayL,Bool.and_eq_true] at h
  have h1:=z4F t h.1
  have h2:=z1n r h.2
  simp only[txtL,cntL,List.length_cons,List.length_append]
  omega
end
noncomputable def y68(n:Nat):Se where
 α:=Ty×BY
 f:=68
 ok:=fun(t,bytes)=>t.fit∧SizeOf.sizeOf t<n∧t.mayB=true∧bytes.length+t.txt.length≤100000000
 args:=fun(t,_)=>[.ptr 0 0 0,tyW t]
 blks:=fun(_,bytes)=>[bldB 96 1 bytes.length,bufB 5 bytes]
 res:=fun(t,bytes)=>(.tup [],[bldB 96 1 (bytes++t.txt).length,bufB 5 (bytes++t.txt)],[1])
 inj:=by
  rintro⟨t,b⟩ ⟨t',b'⟩ _ _ h h'
  simp only[List.cons.injEq,true_and,and_true] at h
  obtain rfl:=q10 _ _ h
  simp only[bldB,bufB,List.cons.injEq,Blk.map.injEq,Prod.mk.injEq,D.str.injEq,true_and,and_true] at h'
  rw[h'.2]
noncomputable def y82:Se where
 α:=BY×UInt8
 f:=82
 ok:=fun(b,_)=>b.length≤100000000
 args:=fun(_,c)=>[.ptr 0 0 0,.d false (.int .u8 (c.toNat:Int))]
 blks:=fun(b,_)=>[bldB 96 1 b.length,bufB 5 b]
 res:=fun(b,c)=>(.d false .nilif,[bldB 96 1 (b++[c]).length,bufB 5 (b++[c])],[1])
 inj:=by
  rintro⟨b,c⟩ ⟨b',c'⟩ _ _ h h'
  simp only[List.cons.injEq,V.d.injEq,D.int.injEq,true_and,and_true,Int.natCast_inj,UInt8.toNat_inj] at h
  simp only[bldB,bufB,List.cons.injEq,Blk.map.injEq,Prod.mk.injEq,D.str.injEq,true_and,and_true] at h'
  rw[h,h'.2]
noncomputable def y81:Se where
 α:=BY×BY
 f:=81
 ok:=fun(b,s)=>b.length≤100000000∧s.length≤100000000
 args:=fun(_,s)=>[.ptr 0 0 0,sV s]
 blks:=fun(b,_)=>[bldB 96 1 b.length,bufB 5 b]
 res:=fun(b,s)=>(.tup [.d false (.int .i64 s.length),.d false .nilif],[bldB 96 1 (b++s).length,bufB 5 (b++s)],[1])
 inj:=by
  rintro⟨b,c⟩ ⟨b',c'⟩ _ _ h h'
  simp only[sV,List.cons.injEq,V.d.injEq,D.str.injEq,true_and,and_true] at h
  simp only[bldB,bufB,List.cons.injEq,Blk.map.injEq,Prod.mk.injEq,D.str.injEq,true_and,and_true] at h'
  rw[h,h'.2]
noncomputable def y69:Se where
 α:=BY
 f:=69
 ok:=fun _=>True
 args:=fun _=>[.ptr 0 0 0]
 blks:=fun b=>[bldB 96 1 b.length,bufB 5 b]
 res:=fun b=>(.d false (.int .i64 b.length),[bldB 96 1 b.length,bufB 5 b],[])
 inj:=by
  intro b b' _ _ _ h'
  simp only[bldB,bufB,List.cons.injEq,Blk.map.injEq,Prod.mk.injEq,D.str.injEq,true_and,and_true] at h'
  rw[h'.2]
noncomputable def y70:Se where
 α:=BY
 f:=70
 ok:=fun _=>True
 args:=fun _=>[.ptr 0 0 0]
 blks:=fun b=>[bldB 96 1 b.length,bufB 5 b]
 res:=fun b=>(sV b,[bldB 96 1 b.length,bufB 5 b],[1])
 inj:=by
  intro b b' _ _ _ h'
  simp only[bldB,bufB,List.cons.injEq,Blk.map.injEq,Prod.mk.injEq,D.str.injEq,true_and,and_true] at h'
  rw[h'.2]
section
variable {G:Nat→Option (List D)}
theorem y82h:y82.Holds Tryz.prog G:=fun⟨b,c⟩ h=>⟨by kernel_rfl,q8H tB_wb b c (by have h:b.length≤100000000:=h;omega)⟩
theorem y81h:y81.Holds Tryz.prog G:=fun⟨b,s⟩ h=>⟨by kernel_rfl,q7a tB_ws b s (by have h:b.length≤100000000∧s.length≤100000000:=h;omega)⟩
theorem y69h:y69.Holds Tryz.prog G:=fun b _=>⟨by kernel_rfl,j2V Tryz.lays170 b⟩
theorem y70h:y70.Holds Tryz.prog G:=fun b _=>⟨by kernel_rfl,z3B Tryz.lays169 Tryz.Builder_Extra_169 b⟩
theorem ce1{L:List Sp}{E:List Se}(s:Se)(a:s.α)(ha:s.ok a):(cx G L (s :: E)).eff s.f (s.args a) (s.blks a)=some (s.res a):=q3Q s E a ha
theorem ce2{L:List Sp}{E:List Se}{t:Se}(s:Se)(h:t.f≠s.f)(a:s.α)(ha:s.ok a):(cx G L (t :: s :: E)).eff s.f (s.args a) (s.blks a)=some (s.res a):=(q6Q (q3Q s E) h:HasE (t :: s :: E) s) a ha
theorem ce3{L:List Sp}{E:List Se}{t u:Se}(s:Se)(h:t.f≠s.f)(h':u.f≠s.f)(a:s.α)(ha:s.ok a):(cx G L (u :: t :: s :: E)).eff s.f (s.args a) (s.blks a)=some (s.res a):=(q6Q (q6Q (q3Q s E) h) h':HasE (u :: t :: s :: E) s) a ha
theorem q3r:∀(l:List Ty)(t:Ty),mayL l=true→t∈l→t.mayB=true
 |[],t,_,h=>by simp at h
 |u :: r,t,hm,h=>by
  rw[mayL,Bool.and_eq_true] at hm
  rcases List.mem_cons.1 h with rfl|h
  ·exact hm.1
  ·exact q3r r t hm.2 h
theorem y68h:∀ n,(y68 n).Holds Tryz.prog G
 |0=>fun⟨t,b⟩ ⟨_,h,_⟩=>absurd h (Nat.not_lt_zero _)
 |n+1=>by
  refine q41 q0e ((Known.nil (G:=G)).putE (y68h n) |>.putE y81h |>.putE y82h).sound (g:=f68) (fun _ _=>j4q) ?_
  rintro⟨⟨k,nm,l⟩,bytes⟩ ⟨⟨f1,f2⟩,hs,hm,hb⟩
  obtain⟨hml,hn,hc⟩:=q2c hm
  have h82:E82 (cx G [] [y82,y81,y68 n]):=fun b c h=>ce1 y82 (b,c) h
  have h81:E81 (cx G [] [y82,y81,y68 n]):=fun b s h h'=>ce2 y81 (show(82:Nat)≠81 by decide) (b,s) ⟨h,h'⟩
  have h68:∀ t∈l,E68 (cx G [] [y82,y81,y68 n]) t:=fun t ht b h=>ce3 (y68 n) (show(81:Nat)≠68 by decide) (show(82:Nat)≠68 by decide) (t,b) ⟨q15 l t f2 ht,q20 hs t ht,q3r l t hml ht,h⟩
  simp only[Ty.txt] at hb
  simp only[y68,Ty.txt]
  rcases hc with⟨rfl,rfl,rfl⟩|⟨rfl,h2,rfl⟩|⟨rfl,rfl,a,b,rfl⟩|⟨rfl,h4,h6⟩
  ·exact z6r _ h81 [] [] bytes (by simpa using hb)
  ·exact q9P _ h81 2 (by decide) (by decide) nm bytes (by simpa using hb)
  ·have:=z6s (cx G [] [y82,y81,y68 n]) h82 h81 [] a b (h68 a (by simp)) (h68 b (by simp)) bytes (by
    simp only[txtF,txtG,List.length_cons,List.length_append,List.length_nil,if_neg (show ¬((3:Int)=1) by decide),if_true] at hb
    omega)
   exact this
  ·by_cases h0:l=[]
   ·subst h0
    exact q9P _ h81 4 (by decide) (by decide) nm bytes (by simpa using hb)
   ·have hl0:¬ l.length=0:=fun h=>h0 (List.eq_nil_of_length_eq_zero h)
    simp only[if_neg (show ¬((4:Int)=1) by decide),if_neg (show ¬((4:Int)=3) by decide),if_neg hl0,List.length_cons,List.length_append,List.length_nil] at hb
    have:=z6t (cx G [] [y82,y81,y68 n]) h82 h81 4 (by decide) (by decide) nm l h0 f1 h68 bytes (by omega)
    simp only[if_neg (show ¬((4:Int)=1) by decide),if_neg (show ¬((4:Int)=3) by decide),if_neg hl0]
    exact this
theorem q2K{t:Ty}(h:t.wrongI=0):t.mayB=true∧t.nod≤500:=by
 unfold Ty.wrongI at h
 split at h
 ·rename_i hm
  split at h
  ·cases h
  ·exact⟨hm,by omega⟩
 ·cases h
theorem z4H{t:Ty}(h:t.wrongI=0):t.txt.length≤2055000:=by
 obtain⟨h1,h2⟩:=q2K h
 have h3:=z4F t h1
 rw[q6A t h2] at h3
 omega
theorem z52h{m:Int}(hG:G 1=some [.int .i64 m])(n:Nat):(zT 52 n fun t=>t.prtV).Holds Tryz.prog G:=by
 refine q0d q0e ((Known.nil (G:=G)).put (z47h hG n) |>.putE (y68h n) |>.putE y69h |>.putE y70h).sound (g:=f52) (fun _ _=>j4E) ?_
 rintro t ⟨hf,hs⟩
 refine⟨_,z9A _ t ?_ ?_ ?_ ?_ ?_⟩
 ·exact cx1 (zT 47 n fun t=>.d false (.int .i64 t.wrongI)) t ⟨hf,hs⟩
 ·intro h0 b hb
  exact ce3 (y68 n) (show(69:Nat)≠68 by decide) (show(70:Nat)≠68 by decide) (t,b) ⟨hf,hs,(q2K h0).1,hb⟩
 ·exact fun b=>ce2 y69 (show(70:Nat)≠69 by decide) b trivial
 ·exact fun b=>ce1 y70 b trivial
 ·intro h0
  have:=z4H h0
  omega
end
end Go.Vm
end

section
namespace Go.Vm
open Go.Proofs Go.RowKit
attribute [local go_sem] Oper.semAt_some
set_option maxRecDepth 100000 in
set_option maxHeartbeats 1000000 in
theorem j3a(a:Option Addr)(cap:Nat)(w:World):Calls Tryz.prog 66 #[.slice a 0 cap] w fun e w'=>∃ a',e=.returned (.slice a' 0 0)∧Below w.heap.size w w':=by
 have q:∀(w:World) (a:Option Addr) (n c n' c':Nat),(binOp .eql 22 (.slice a n c) (.slice none n' c')).run Tryz.prog w=.ok (.bool a.isNone) w:=fun w a n c n' c'=>Lib.run_eql_slice_nil w _ _ a n c n' c' Tryz.underlying22
 cases a with
 |none=>
  go_enter Tryz.func66,Tryz.ntmps66
  go_wp2
  go_ret
  exact⟨_,rfl,Below.refl _ _⟩
 |some a=>
  obtain⟨i,hi⟩:∃ i,Tryz.prog.info? 24=some i:=⟨_,rfl⟩
  have hn:(w.alloc (.cells #[] 24)).heap[w.heap.size]? = some (.cells #[] 24 (0,0)):=by
   show(w.heap.push _)[w.heap.size]? = _
   simp
  have hap:=run_append_room (P:=Tryz.prog) (w.alloc (.cells #[] 24)) 22 22 24 i Tryz.underlying22 hi w.heap.size 0 0 #[] hn a 0 cap [] (by simp) (by simp) (by simp) (Nat.le_refl 0) (by simp)
  go_enter Tryz.func66,Tryz.ntmps66
  go_wp2
  go_ret
  have hb:Below w.heap.size w (w.alloc (.cells #[] 24)):=(Below.refl _ _).alloc (Nat.le_refl _) _
  exact⟨⟨_,rfl⟩,hb⟩
set_option maxRecDepth 100000 in
set_option maxHeartbeats 1000000 in
theorem j29(a:Option Addr)(cap:Nat)(w:World):Calls Tryz.prog 83 #[.slice a 0 cap] w fun e w'=>∃ a',e=.returned (.slice a' 0 0)∧Below w.heap.size w w':=by
 have q:∀(w:World) (a:Option Addr) (n c n' c':Nat),(binOp .eql 35 (.slice a n c) (.slice none n' c')).run Tryz.prog w=.ok (.bool a.isNone) w:=fun w a n c n' c'=>Lib.run_eql_slice_nil w _ _ a n c n' c' Tryz.underlying35
 cases a with
 |none=>
  go_enter Tryz.func83,Tryz.ntmps83
  go_wp2
  go_ret
  exact⟨_,rfl,Below.refl _ _⟩
 |some a=>
  obtain⟨i,hi⟩:∃ i,Tryz.prog.info? 3=some i:=⟨_,rfl⟩
  have hn:(w.alloc (.cells #[] 3)).heap[w.heap.size]? = some (.cells #[] 3 (0,0)):=by
   show(w.heap.push _)[w.heap.size]? = _
   simp
  have hap:=run_append_room (P:=Tryz.prog) (w.alloc (.cells #[] 3)) 35 35 3 i Tryz.underlying35 hi w.heap.size 0 0 #[] hn a 0 cap [] (by simp) (by simp) (by simp) (Nat.le_refl 0) (by simp)
  go_enter Tryz.func83,Tryz.ntmps83
  go_wp2
  go_ret
  have hb:Below w.heap.size w (w.alloc (.cells #[] 3)):=(Below.refl _ _).alloc (Nat.le_refl _) _
  exact⟨⟨_,rfl⟩,hb⟩
theorem q9q{G:Nat→Option (List D)}{c:Bool}:q1V Tryz.prog G 66 [.d c (.sl 3 [])] (.fs true 3 []) []:=by
 intro w F vals hF hG hR
 obtain⟨l⟩:=vals
 obtain⟨hsz,hr⟩:=hR
 match l,hsz with
 |[v],_=>
  have hv:=hr 0 v _ rfl rfl
  obtain⟨a,cap,rfl⟩:∃ a cap,v=.slice a 0 cap:=by
   cases hv with
   |d _ _ _ h=>
    cases h with
    |sl0 a cap k h=>exact⟨a,cap,rfl⟩
    |sl b o len cap k rows g h1=>exact⟨_,cap,by rw[←h1];rfl⟩
  refine(j3a a cap w).mono ?_
  rintro e w' ⟨a',rfl,hb⟩
  exact⟨_,F,fun _=>none,rfl,hb,fun b h=>.inl h,.fs _ _ _ _ _ (.sl0 _ _ _ (fun _=>rfl)),⟨fun b blk h=>by simp [indexed,look] at h,fun b b' l l' h=>(by cases h),fun b l h=>(by cases h),fun b h=>Nat.lt_of_lt_of_le (hF b h) hb.size⟩⟩
theorem q9p{G:Nat→Option (List D)}{c:Bool}:q1V Tryz.prog G 83 [.d c (.sl 1 [])] (.fs true 1 []) []:=by
 intro w F vals hF hG hR
 obtain⟨l⟩:=vals
 obtain⟨hsz,hr⟩:=hR
 match l,hsz with
 |[v],_=>
  have hv:=hr 0 v _ rfl rfl
  obtain⟨a,cap,rfl⟩:∃ a cap,v=.slice a 0 cap:=by
   cases hv with
   |d _ _ _ h=>
    cases h with
    |sl0 a cap k h=>exact⟨a,cap,rfl⟩
    |sl b o len cap k rows g h1=>exact⟨_,cap,by rw[←h1];rfl⟩
  refine(j29 a cap w).mono ?_
  rintro e w' ⟨a',rfl,hb⟩
  exact⟨_,F,fun _=>none,rfl,hb,fun b h=>.inl h,.fs _ _ _ _ _ (.sl0 _ _ _ (fun _=>rfl)),⟨fun b blk h=>by simp [indexed,look] at h,fun b b' l l' h=>(by cases h),fun b l h=>(by cases h),fun b h=>Nat.lt_of_lt_of_le (hF b h) hb.size⟩⟩
end Go.Vm
end

section
namespace Go.Vm
set_option maxRecDepth 100000
open Go.Proofs Go.RowKit
/- 'sloth/types.copied' -/
def f65_L0:C:= (.seq (.reg [⟨[],[(12,(.bin .lss (.sl 11) (.sl 10)))],[],none,[1,2,10,11],1,[],[],[]⟩]) (.seq (.cond (.sl 12) .skip (.seq (.tidy 0 [1,2]) (.exit 0))) (.seq (.block 1 (.seq (.reg [⟨[],[(3,(.sl 11))],[],none,[1,2,10,11],2,[],[],[]⟩]) (.reg [⟨[],[],[],some (none,.store 3 (.ia 3 (.ld 1 false (.fa 2 (.sl 1))) (.sl 3)) (.call 65 (.cons (.ld 3 true (.ia 3 (.ld 1 false (.fa 2 (.sl 1))) (.sl 3))) .nil))),[1,2,10,11],11,[[],[0],[],[],[3],[],[5,3,4],[4,3,5,6],[6,5,3,4,7],[8,7,6,5,4,3,2,0,1],[1,0,2,3,4,5,6,7,8,9]],[],[]⟩]))) (.reg [⟨[],[(11,(.bin .add (.sl 11) (.int .i64 1)))],[],none,[1,2,10],2,[],[],[]⟩]))))
def f65:Fun:=⟨ (.seq (.reg [⟨[(1,.box (.sl 0)),(2,.box (.agg (.cons (.int .i64 0) (.cons (.str []) (.cons (.nilsl 3) .nil)))))],[],[],none,[1,2],2,[],[],[]⟩]) (.seq (.reg [⟨[(6,.callo 66 (.cons (.ld 1 false (.fa 2 (.sl 1))) .nil))],[],[],some (none,.store 1 (.fa 2 (.sl 1)) (.sl 6)),[1,2],5,[],[],[]⟩]) (.seq (.seq (.reg [⟨[],[(10,(.len false (.ld 1 false (.fa 2 (.sl 1))))),(11,(.int .i64 0))],[],none,[1,2],4,[],[],[]⟩]) (.block 0 (.seq (.tidy 0 [1,2,10,11]) (.loop (.seq (.tidy 0 [1,2,10,11]) f65_L0))))) (.seq (.reg [⟨[],[],[],some (none,.store 3 (.sl 2) (.ld 3 true (.sl 1))),[2],2,[],[],[]⟩]) (.seq (.tidy 0 [2]) .ret))))), [(.ld 3 true (.sl 2))],false⟩
theorem j4t:q0o Go.Proofs.Tryz.prog 65 0 1 f65=true:=by kernel_rfl
/- 'slices.Clone[[]sloth/api.Type,sloth/api.Type]' -/
def f66:Fun:=⟨ (.seq (.reg [⟨[],[],[(.nilsl 3)],none,[0],1,[],[],[]⟩]) (.seq (.seq (.reg [⟨[],[(4,(.eqs false false [3] (.sl 0) (.nilsl 3)))],[],none,[0],2,[],[],[]⟩]) (.cond (.sl 4) (.seq (.reg [⟨[],[(2,(.nilsl 3))],[],none,[],1,[],[],[]⟩]) (.seq (.tidy 0 [2]) .ret)) .skip)) (.seq (.reg [⟨[(5,.lits 3 .nil)],[],[],some (some 7,.app 3 (.sl 5) (.sl 0)),[],3,[],[],[]⟩,⟨[],[(2,(.sl 7))],[],none,[],1,[],[],[]⟩]) (.seq (.tidy 0 [2]) .ret)))), [(.sl 2)],true⟩
theorem j4s:q0o Go.Proofs.Tryz.prog 66 0 1 f66=true:=by kernel_rfl
theorem z1s{α:Type}:∀(l:List α)(k:Nat)(x:α),l[k]? = some x→l.set k x=l
  |[],k,x,h=>by simp at h
  |a :: l,0,x,h=>by simp at h;subst h;rfl
  |a :: l,k+1,x,h=>by simp only[List.getElem?_cons_succ] at h;rw[List.set_cons_succ,z1s l k x h]
theorem z1J{α:Type} [Inhabited α]{l:List α}{x:Nat}(h:x<l.length):nth l (x:Int)∈l:=by
  rw[←q2z (n:=(x:Int)) (by simpa using h)];exact List.getElem_mem _
def tyR:Ty→V
  |.mk k n l=>.agg [.d false (.int .i64 k),.d false (.str n),match l with
    |[]=>.fs true 3 []
    |_ :: _=>.d false (.sl 3 (dL l))]
def K66(K:Cx):Prop:=(∀ l:List Ty,l≠[]→l.length≤most→K.call 66 [tlV l]=some (.bsl 0 0 l.length,[.dat false 3 (l.map Ty.d)]))∧K.call 66 [tlV []]=some (.fs true 3 [],[])
def K65(K:Cx)(t:Ty):Prop:=K.call 65 [tyW t]=some (tyR t,[])
theorem z3p(K:Cx)(l:List Ty)(h0:l≠[])(h1:l.length≤most):q0c K f66 [tlV l] []=some (.bsl 0 0 l.length,[.dat false 3 (l.map Ty.d)],[]):=by
  have hm:most=1099511627776:=rfl
  have hni:(V.d false (.sl 3 (l.map Ty.d))).isNilS=some false:=by
    cases l with
    |nil=>exact absurd rfl h0
    |cons x r=>rfl
  have hfl:q0E (l.map Ty.d)=false:=by
    cases l with
    |nil=>exact absurd rfl h0
    |cons x r=>
      obtain⟨k,n,ls⟩:=x
      simp [q0E,Ty.d,D.flat]
  unfold f66
  simp only[tlV]
  simp(disch:=first|decide|omega|(simp only[LN];first|done|omega)) only[SX,SW,q0K,q0h,q0n,hni,mkBlk,Nat.reduceBEq,hfl,lose,V.forget,V.drop1,V.ref0,forgetH,Blk.forget,q0b,hNew,V.newR,q0a,finB]
theorem j3s(l:List Ty)(i:Nat)(k:Int)(n:BY)(ls:List Ty)(v:V)(hi:i<l.length)(hx:nth l (i:Int)=.mk k n ls)(hv:asD v=some (.sl 3 (dL ls))):(Blk.dat false 3 (l.map Ty.d)).set i 0 [.d false (.int .i64 k),.d false (.str n),v]=some (.dat false 3 (l.map Ty.d)):=by
  rw[q51 (hi:=hi)]
  have hxi:l[i]? = some (.mk k n ls):=by
    have:=q56 (l:=l) (n:=(i:Int)) (by simpa using hi)
    rw[hx] at this
    simpa using this
  have hs:(l.map Ty.d).set i [.int .i64 k,.str n,.sl 3 (dL ls)]=l.map Ty.d:=z1s _ _ _ (by rw[List.getElem?_map,hxi];rfl)
  have hmm:mapO asD [.d false (.int .i64 k),.d false (.str n),v]=some [.int .i64 k,.str n,.sl 3 (dL ls)]:=by
    simp only[mapO]
    rw[hv]
    rfl
  rw[hx,hmm]
  simp [setD,splice,hs,Ty.d]
def tlR:List Ty→V
  |[]=>.fs true 3 []
  |t :: r=>.d false (.sl 3 (dL (t :: r)))
theorem j0s(k n l):tyR (.mk k n l)=.agg [.d false (.int .i64 k),.d false (.str n),tlR l]:=by cases l <;> rfl
theorem j0u(l:List Ty):asD (tlR l)=some (.sl 3 (dL l)):=by cases l <;> rfl
theorem z1o(l:List Ty):(tlR l).cell=true∧(tlR l).laid=true∧(tlR l).cells=[tlR l]:=by cases l <;> exact⟨rfl,rfl,rfl⟩
theorem j28(K:Cx)(l:List Ty)(hl:l.length≤most)(hg:∀ t∈l,K65 K t)(k:Int)(n:BY):∀(m j:Nat),j+m=l.length→
    lp K 0 [1,2,10,11] f65_L0 ⟨[(1,.ptr 0 0 0),(2,.ptr 1 0 0),(10,.d false (.int .i64 l.length)),(11,.d false (.int .i64 j))],[(0,.mix 3 [[.d false (.int .i64 k),.d false (.str n),.bsl 2 0 l.length]]),(1,.mix 3 [[.d false (.int .i64 0),.d false (.str []),.fs true 3 []]]),(2,.dat false 3 (l.map Ty.d))],3,[]⟩ =
      some (.exit 0,⟨[(1,.ptr 0 0 0),(2,.ptr 1 0 0)],[(0,.mix 3 [[.d false (.int .i64 k),.d false (.str n),.bsl 2 0 l.length]]),(1,.mix 3 [[.d false (.int .i64 0),.d false (.str []),.fs true 3 []]]),(2,.dat false 3 (l.map Ty.d))],3,[]⟩):=by
  have hm:most=1099511627776:=rfl
  intro m
  induction m with
  |zero=>
    intro j hj
    obtain rfl:j=l.length:=by omega
    rw[q0p f65_L0.eq_1]
    clear hg
    simp(disch:=first|decide|omega|(simp only[LN];first|done|omega)) only[SV,SW,Nat.reduceBEq,reduceCtorEq,Nat.reduceEqDiff,Nat.reduceAdd]
  |succ m ih=>
    intro j hj
    have ih:=ih (j+1) (by omega)
    have hmem:=z1J (l:=l) (x:=j) (by omega)
    have w:=hg _ hmem
    rw[q0p f65_L0.eq_1]
    rw[←ih]
    clear ih hg
    have hset:=fun ls v k n h1 h2=>j3s l j k n ls v (by omega) h1 h2
    generalize hx:nth l (j:Int)=x at *
    obtain⟨k',n',ls⟩:=x
    have hset:=hset ls (tlR ls) k' n' rfl (j0u ls)
    obtain⟨q1,q2,q3⟩:=z1o ls
    unfold K65 at w
    rw[j0s] at w
    simp only[tyW] at w
    generalize tlR ls=tv at *
    simp(disch:=first|decide|omega|(simp only[LN];first|done|omega)) only[SV,SW,Nat.reduceBEq,hx,Ty.d,Nat.reduceAdd,q0a,w,hset,lose,q0U,reduceCtorEq,Nat.reduceEqDiff]
theorem z99(K:Cx)(k:Int)(n:BY) :
    lp K 0 [1,2,10,11] f65_L0 ⟨[(1,.ptr 0 0 0),(2,.ptr 1 0 0),(10,.d false (.int .i64 ((0:Nat):Int))),(11,.d false (.int .i64 0))],[(0,.mix 3 [[.d false (.int .i64 k),.d false (.str n),.fs true 3 []]]),(1,.mix 3 [[.d false (.int .i64 0),.d false (.str []),.fs true 3 []]])],2,[]⟩ =
      some (.exit 0,⟨[(1,.ptr 0 0 0),(2,.ptr 1 0 0)],[(0,.mix 3 [[.d false (.int .i64 k),.d false (.str n),.fs true 3 []]]),(1,.mix 3 [[.d false (.int .i64 0),.d false (.str []),.fs true 3 []]])],2,[]⟩):=by
  rw[q0p f65_L0.eq_1]
  simp(disch:=first|decide|omega|(simp only[LN];first|done|omega)) only[SV,SW,Nat.reduceBEq,reduceCtorEq,Nat.reduceAdd]
theorem z6R(K:Cx)(h66:K66 K)(k:Int)(n:BY)(l:List Ty)(hl:l.length≤most)(hg:∀ t∈l,K65 K t):q0c K f65 [tyW (.mk k n l)] []=some (tyR (.mk k n l),[],[]):=by
  have hm:most=1099511627776:=rfl
  cases l with
  |nil=>
    have w:=h66.2
    have wl:=z99 K k n
    clear hg
    unfold f65
    simp only[tyW,tyR,tlV,dL,List.map_nil] at w ⊢
    simp(disch:=first|decide|omega|(simp only[LN];first|done|omega)) only[SV,SW,Nat.reduceAdd,Nat.reduceBEq,q0a,w,V.new2,V.newR,V.shift,lose,reduceCtorEq,wl,q0b]
  |cons x r=>
    have w:=h66.1 (x :: r) (by simp) hl
    have wl:=j28 K (x :: r) hl hg k n (x :: r).length 0 (by omega)
    clear hg
    unfold f65
    simp only[tyW,tyR,tlV,q09,Int.natCast_zero,Int.ofNat_zero] at w wl ⊢
    generalize hL:(x :: r).map Ty.d=L at *
    have hlen:L.length=(x :: r).length:=by rw[←hL];simp
    generalize hN:(x :: r).length=N at *
    have hnew:hNew [(0,Blk.mix 3 [[V.d false (.int .i64 k),V.d false (.str n),V.bsl 1 0 N]]),(1,Blk.dat false 3 L)]=false:=by simp [hNew]
    have vd:∀(m:Nat) (H:List (Nat×Blk)) (b:Nat),look H b=some (.dat false 3 L)→q0a (m+1) H (.bsl b 0 N)=some (.sl 3 L):=fun m H b hb=>by
      simp only[q0a,hb]
      rw[if_pos (by omega)]
      simp [←hlen]
    simp(disch:=first|decide|omega|(simp only[LN];first|done|omega)) only[SV,SW,Nat.reduceAdd,Nat.reduceBEq,q0a,w,V.new2,V.newR,V.shift,lose,reduceCtorEq,Nat.reduceEqDiff,wl,q0b,hNew,V.forget,V.drop1,V.ref0]
noncomputable def z66:Sp where
  α:=List Ty
  f:=66
  ok:=fun l=>l.length≤most
  args:=fun l=>[tlV l]
  res:=fun l=>if l=[] then(.fs true 3 [],[]) else(.bsl 0 0 l.length,[.dat false 3 (l.map Ty.d)])
  inj:=by
    intro a b _ _ h
    simp only[List.cons.injEq,and_true] at h
    rw[z4J a b h]
section
variable {G:Nat→Option (List D)}
theorem z66h:z66.Holds Tryz.prog G:=by
  intro l hl
  refine⟨by kernel_rfl,?_⟩
  simp only[z66]
  split
  · rename_i h
    subst h
    exact q9q
  · rename_i h
    exact(q2o q0e (Known.nil (G:=G)).sound j4s (z3p _ l h hl)).2
theorem j0D{L:List Sp}{E:List Se}(h:∀ l,l.length≤most→(cx G L E).call 66 [tlV l]=some (z66.res l)):K66 (cx G L E):=⟨fun l h0 h1=>by
    have:=h l h1
    simp only[z66,if_neg h0] at this
    exact this,by
    have:=h [] (by simp)
    simp only[z66,if_true] at this
    exact this⟩
theorem z65h:∀ n,(zT 65 n tyR).Holds Tryz.prog G
  |0=>fun t ⟨_,h⟩=>absurd h (Nat.not_lt_zero _)
  |n+1=>by
    refine q0d q0e ((Known.nil (G:=G)).put (z65h n) |>.put z66h).sound (g:=f65) (fun _ _=>j4t) ?_
    rintro⟨k,nm,l⟩ ⟨⟨f1,f2⟩,hs⟩
    refine⟨_,z6R _ ?_ k nm l f1 ?_⟩
    · exact j0D fun l h=>cx1 z66 l h
    · exact fun t ht=>cx2 (zT 65 n tyR) (show(66:Nat)≠65 by decide) t ⟨q15 l t f2 ht,q20 hs t ht⟩
end
end Go.Vm
end
