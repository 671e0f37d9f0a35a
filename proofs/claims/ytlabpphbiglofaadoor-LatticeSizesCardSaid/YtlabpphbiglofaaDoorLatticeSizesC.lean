/-
  Parts of the proof: Regions: in the order of the text, or in any order that the edges allow. A block that only one cell leads to, becomes data (frzS of VmJ). Pieces whose operations have one guard, and memory that becomes data ahead of a piece. Code that passed the check does what the machine says. Functions: what they return. Loops and jumps, by their rounds. What a row hands in reads as plain data. The arguments of a row, as values of the machine. Code that passed the check, within a round of a range over a function. The machine's equations, in a form in which simp works from the inside out and stops where a test is open. Typed data in the machine: lists of structures as rows of cells. Maps, in equations for simp. Jumps, in equations. One name for the machine's equations. The machine by reckoning: with so many rounds at the most. Equations of pieces under a guard, of memory that becomes data. Package strings' Builder: its methods, with all that they leave alone. Package strings' Builder: WriteByte, WriteString, Len, String. Package strings' Builder: String. What the machine knows of a Builder's methods. What the machine knows of strings.Split. What is known of functions over package-level tables, put together of what each one answers. types.eachVar, handed a loop's body: the variables of a type come one by one. types.vars hands back an iterator over a type's variables. The contract of types.Canon at types without variables. DERIVED: THE SHELF's CONTRACTS AT THIS DUMP, IN PLAIN WORDS (tools/lay-plain.mjs out of 'TrydShelf.lean', which tools/lay-shelf.mjs wrote): THE SAME DECLARATIONS UNDER THE SAME NAMES: 'import', 'namespace', 'open', 'def', 'theorem' AND NOTHING ELSE: no command of the shelf's: FOR A HAND-IN. Each laying: the table of numbers ('.._ren') and one theorem, a field a fact of the dump's own or the kernel's comparison; each contract: ONE APPLICATION. Conditions: none.
-/
import Derived.Test.YtlabpphbiglofaaDoorLatticeSizesB
import Derived.Orders
import Derived.Scope
import Derived.Laws.Sem
import Derived.Deep.Slices
import Derived.DataReads
import Derived.RangeFuncNested
import Derived.RangeFuncBound
import Derived.RangeFuncCalls
import Derived.RangeFuncLeaves
import Derived.LoopNIn
import Derived.OrdersIn
import Derived.Shelf.Strings.BuilderK
import Derived.Shelf.Strings.Split
import Derived.Shelf.Abstract
import Derived.Shelf.RegionOpen
import Derived.OwnWalkIn
import Derived.TacticsInMore
import Derived.LoopIn
import Derived.Test.YtlabpphbiglofaaDoorChecked
import Derived.Shelf.Strings.Builder1
import Derived.Shelf.Small.Strs
import Derived.Shelf.LaysM
import Derived.Shelf.Strconv.Itoa3
import Derived.Test.YtlabpphbiglofaaDoorProg
set_option linter.unusedVariables false
set_option linter.unusedSimpArgs false

section
namespace Go.Vm
open Go.RowKit

def textOk (P : Program) (ops : Array Oper) (n : Nat) : Nat → List Seg → Bool
  | k, [] => k == ops.size
  | k, g :: r => segOk (fun i j => decide (i < j)) P ops n (List.range' k g.cnt) g && textOk P ops n (k + g.cnt) r

def edgesOf (o : Oper) : List Nat := (o.after.toList.filter (Region.binds .any)).map (·.on)
def tabB (tab : List (List Nat)) (i j : Nat) : Bool := (tab.getD j []).contains i
def tabOk (ops : List Oper) (tab : List (List Nat)) : Bool :=
  (ops.zipIdx).all fun (o, i) => (edgesOf o).all (fun j => decide (j < i)) && (tab.getD i []).all fun j => (edgesOf o).any fun e => e == j || (tab.getD e []).contains j
def drawnOks (P : Program) (ops : Array Oper) (n : Nat) (tab : List (List Nat)) : Nat → List Seg → Bool
  | k, [] => k == ops.size
  | k, g :: r => segOk (tabB tab) P ops n (List.range' k g.cnt) g && ((List.range' k (ops.size - k)).all fun i => (List.range k).all fun j => tabB tab j i) && drawnOks P ops n tab (k + g.cnt) r
def tabOf : List Seg → List (List Nat)
  | g :: _ => g.aux
  | [] => []
def drawnOk (P : Program) (ops : Array Oper) (n : Nat) (gs : List Seg) : Bool := drawnOks P ops n (tabOf gs) 0 gs && tabOk ops.toList (tabOf gs)

theorem recs_mem {B : Nat → Nat → Bool} {P : Program} {ops : Array Oper} {n : Nat} {is : List Nat} {g : Seg} {R : List Rec} (h : SegOk B P ops n is g R) (i : Nat) : (∃ r ∈ R, r.i = i) ↔ i ∈ is := by
  have := (recs_good is [] R .nil h.recs).2
  simp only [List.map_nil, List.append_nil] at this
  constructor
  · rintro ⟨r, hr, rfl⟩
    have : r.i ∈ R.map (·.i) := List.mem_map.2 ⟨r, hr, rfl⟩
    rw [‹R.map (·.i) = _›] at this
    simpa using this
  · intro hi
    have : i ∈ R.map (·.i) := by rw [this]; simpa using hi
    obtain ⟨r, hr, he⟩ := List.mem_map.1 this
    exact ⟨r, hr, he⟩

variable {P : Program} {K : Cx} {ops : Array Oper} {n : Nat} {X : Nat → Nat → Prop} {base : Nat} {w0 : World} {F0 : Nat → Prop} {m0 : Nat} {σ0 : Nat → Option Loc} {Q : Exit → Act → World → Prop}

theorem stage_start {B : Nat → Nat → Bool} {g : Seg} {R : List Rec} {s s' s1 : S} {news : List Blk} {T : Tr} {a : Act} {w : World} {F : Nat → Prop} {σ : Nat → Option Loc}
    (hT : Traced K s s1 news g.mks T) (hst : StRel K X base w0 F0 m0 σ0 n s a w F σ) :
    Stage (pieceOf P K ops B n R g s s1 T X base w0 F0 m0 σ0) g s' (fun _ => False) a w := by
  refine .inl ⟨fun _ _ h => h.elim, F, σ, ⟨⟨hst.heap.blk, hst.heap.inj, fun b l hb => ?_, hst.heap.fro⟩, hst.glob, hst.le, hst.frame, hst.frz, hst.size, hst.dfr, fun t v hv _ => hst.rho t v hv, fun _ _ h => h.elim, fun _ _ _ _ _ _ h => by obtain ⟨_, _, h, _⟩ := h; exact h.elim, fun d m v n0 nw hm _ b h1 h2 => ?_, hst.stab, hst.sub⟩⟩
  · obtain ⟨h1, h2⟩ := hst.heap.own b l hb
    have := hT.nx
    exact ⟨show b < s1.nx by omega, h2⟩
  · have h0 := (hT.evm d m v n0 nw hm).2.1
    cases hb : σ b with
    | none => rfl
    | some l =>
      have := (hst.heap.own b l hb).1
      omega

theorem full_of {B : Nat → Nat → Bool} {is : List Nat} {g : Seg} {s s' : S} (hok : segOk B P ops n is g = true) (hK : K.Sound P) (hev : evSeg K s g = some s') (hdom : ∀ b blk, look s.heap b = some blk → b < s.nx) (hnm : m0 ≤ s.nx) (hxm : ∀ b k, X b k → b < m0) :
    ∃ R s1 T news l, Full (pieceOf P K ops B n R g s s1 T X base w0 F0 m0 σ0) is g s' news l := by
  obtain ⟨R, hs⟩ := segOk_parts hok
  obtain ⟨s1, news, l, he⟩ := evSeg_parts hev
  obtain ⟨T, hT⟩ := traced K g.mks s s1 news hs.mks he.mks
  exact ⟨R, s1, T, news, l, ⟨piece_ok hs he hT hK hdom, hs, he, hT, rfl, rfl, hnm, hxm⟩⟩

theorem chunk {ops : Array Oper} {g : Seg} {c : Piece} {k : Nat} {s' : S} {news : List Blk} {l : List (Nat × V)} (hc : Full c (List.range' k g.cnt) g s' news l) (hB : c.B = fun i j => decide (i < j)) {ys : List Nat}
    (hop : ∀ D a w i Kn, Stage c g s' D a w → wpOp c.P c.ops Q i Kn a w → wpOp c.P ops Q i Kn a w)
    (hys : ∀ a w F σ, StRel c.K c.X c.base c.w0 c.F0 c.m c.σ0 c.n s' a w F σ → wpOps c.P ops Q ys a w) : ∀ (m j : Nat) (a : Act) (w : World), j + m = g.cnt → Stage c g s' (fun i => k ≤ i ∧ i < k + j) a w → wpOps c.P ops Q (List.range' (k + j) m ++ ys) a w
  | 0, j, a, w, hj, hs => by
    obtain ⟨F, σ, hst⟩ := stage_end hc hs (fun r hr => by
      have := (recs_mem hc.seg r.i).1 ⟨r, hr, rfl⟩
      rw [List.mem_range'_1] at this
      constructor
      · exact this.1
      · have := this.2; omega)
    simpa using hys a w F σ hst
  | m + 1, j, a, w, hj, hs => by
    rw [List.range'_succ, List.cons_append, wpOps_cons]
    obtain ⟨r, hr, hri⟩ := (recs_mem hc.seg (k + j)).2 (by rw [List.mem_range'_1]; omega)
    have hmem : ∀ q ∈ c.R, k ≤ q.i ∧ q.i < k + g.cnt := fun q hq => by
      have := (recs_mem hc.seg q.i).1 ⟨q, hq, rfl⟩
      rwa [List.mem_range'_1] at this
    have := stage_step (Q := Q) (Kn := wpOps c.P ops Q (List.range' (k + j + 1) m ++ ys)) hc hs hr (by rw [hri]; omega) (fun q hq hqD p hp hpq => by
        rw [hB] at hpq
        simp only [decide_eq_true_eq] at hpq
        have := hmem p hp
        omega) (fun q hq hqr => by
        rw [hB] at hqr
        simp only [decide_eq_true_eq] at hqr
        have := hmem q hq
        omega) (fun a' w' hs' => by
        refine chunk hc hB hop hys m (j + 1) a' w' (by omega) ?_
        have : (fun i => k ≤ i ∧ i < k + (j + 1)) = plus (fun i => k ≤ i ∧ i < k + j) r.i := by
          funext i
          simp only [plus, hri, eq_iff_iff]
          omega
        rw [this]
        exact hs')
    rw [hri] at this
    exact hop _ a w _ _ hs this

theorem text_ops (hK : K.Sound P) : ∀ (gs : List Seg) (k : Nat) (s s' : S) (a : Act) (w : World) (F : Nat → Prop) (σ : Nat → Option Loc), textOk P ops n k gs = true → k ≤ ops.size → evSegs K s gs = some s' → StRel K X base w0 F0 m0 σ0 n s a w F σ →
    (∀ a w F σ, StRel K X base w0 F0 m0 σ0 n s' a w F σ → Q .normal a w) → wpOps P ops Q (List.range' k (ops.size - k)) a w
  | [], k, s, s', a, w, F, σ, hok, hk, hev, hst, hQ => by
    simp only [textOk, beq_iff_eq] at hok
    subst hok
    obtain rfl := Option.some.inj hev
    simp only [Nat.sub_self, List.range'_zero, wpOps]
    exact hQ _ _ _ _ hst
  | g :: gs, k, s, s', a, w, F, σ, hok, hk, hev, hst, hQ => by
    simp only [textOk, Bool.and_eq_true] at hok
    simp only [evSegs] at hev
    cases hg : evSeg K s g with
    | none => simp [hg] at hev
    | some s2 =>
      simp only [hg] at hev
      obtain ⟨R, s1, T, news, l, hf⟩ := full_of (X := X) (base := base) (w0 := w0) (F0 := F0) (m0 := m0) (σ0 := σ0) hok.1 hK hg hst.dom hst.nxm hst.xm
      have hle : ∀ (gs : List Seg) (k : Nat), textOk P ops n k gs = true → k ≤ ops.size := by
        intro gs
        induction gs with
        | nil => intro k h; simp only [textOk, beq_iff_eq] at h; omega
        | cons g gs ih =>
          intro k h
          simp only [textOk, Bool.and_eq_true] at h
          have := ih _ h.2
          omega
      have hk2 := hle gs _ hok.2
      have hsplit : List.range' k (ops.size - k) = List.range' (k + 0) g.cnt ++ List.range' (k + g.cnt) (ops.size - (k + g.cnt)) := by
        have : ops.size - k = g.cnt + (ops.size - (k + g.cnt)) := by omega
        rw [this, ← List.range'_append_1]
        simp
      rw [hsplit]
      refine chunk hf rfl (fun _ _ _ _ _ _ h => h) (fun a w F σ hst2 => text_ops hK gs (k + g.cnt) s2 s' a w F σ hok.2 hk2 hev hst2 hQ) g.cnt 0 a w (by omega) ?_
      have : (fun i => k ≤ i ∧ i < k + 0) = fun _ => False := by
        funext i
        simp only [eq_iff_iff, iff_false]
        omega
      rw [this]
      exact stage_start hf.traced hst

theorem text_region {id : Nat} {gs : List Seg} {s s' : S} {a : Act} {w : World} {F : Nat → Prop} {σ : Nat → Option Loc} (hK : K.Sound P) (hok : textOk P ops n 0 gs = true) (hev : evSegs K s gs = some s') (hst : StRel K X base w0 F0 m0 σ0 n s a w F σ)
    (hQ : ∀ a w F σ, StRel K X base w0 F0 m0 σ0 n s' a w F σ → Q .normal a w) : (Code.region id ops false).wp P Q a w := by
  refine wp_region ?_
  have := text_ops (Q := Q) hK gs 0 s s' a w F σ hok (Nat.zero_le _) hev hst hQ
  rw [List.range_eq_range']
  simpa using this

theorem RepV.world {w w' : World} {F : Nat → Prop} {σ : Nat → Option Loc} (h : w'.heap = w.heap) {v : Value} {x : V} (hR : RepV w F base σ v x) : RepV w' F base σ v x :=
  hR.mono (fun _ hb => ⟨hb, by rw [h]⟩) (fun _ _ h => h)

theorem StRel.drawn {s : S} {a : Act} {w : World} {F : Nat → Prop} {σ : Nat → Option Loc} (h : StRel K X base w0 F0 m0 σ0 n s a w F σ) (m : Nat) : StRel K X base w0 F0 m0 σ0 n s a { w with drawn := m } F σ := by
  have hF : ∀ b, F b → F b ∧ ({ w with drawn := m } : World).heap[b]? = w.heap[b]? := fun b hb => ⟨hb, rfl⟩
  exact ⟨⟨fun b blk hb => (h.heap.blk b blk hb).mono hF (fun _ _ h => h) (fun h => h) (fun _ _ => rfl), h.heap.inj, h.heap.own, h.heap.fro⟩, h.glob.mono hF, h.le, ⟨h.frame.os, h.frame.tape, h.frame.output, h.frame.size, h.frame.block⟩, h.frz, h.size, h.dfr, fun t v hv => (h.rho t v hv).mono hF (fun _ _ h => h), h.dom, h.stab, h.nxm, h.xm, h.sub⟩

theorem mem_ready {listed : Array Bool} {i : Nat} : i ∈ Region.ready .any ops listed ↔ i < ops.size ∧ listed.getD i true = false ∧ ∃ o, ops[i]? = some o ∧ ∀ j ∈ edgesOf o, listed.getD j false = true := by
  unfold Region.ready
  simp only [List.mem_filter, List.mem_range, Bool.and_eq_true, Bool.not_eq_true']
  constructor
  · rintro ⟨h1, h2, h3⟩
    refine ⟨h1, h2, ops[i], by simp [h1], fun j hj => ?_⟩
    simp only [edgesOf, List.mem_map, List.mem_filter] at hj
    obtain ⟨e, ⟨he, hb⟩, rfl⟩ := hj
    simp only [h1, getElem?_pos, Option.map_some, Option.getD_some] at h3
    rw [Array.all_eq_true'] at h3
    have := h3 e (by simpa using he)
    simpa [hb] using this
  · rintro ⟨h1, h2, o, ho, h3⟩
    refine ⟨h1, h2, ?_⟩
    rw [ho]
    simp only [Option.map_some, Option.getD_some]
    rw [Array.all_eq_true']
    intro e he
    cases hb : Region.binds .any e with
    | false => simp
    | true =>
      simp only [Bool.not_true, Bool.false_or]
      exact h3 e.on (by simp only [edgesOf, List.mem_map, List.mem_filter]; exact ⟨e, ⟨by simpa using he, hb⟩, rfl⟩)

structure Tab (ops : Array Oper) (tab : List (List Nat)) : Prop where
  lt : ∀ i o, ops[i]? = some o → ∀ j ∈ edgesOf o, j < i
  clo : ∀ i o, ops[i]? = some o → ∀ j ∈ tab.getD i [], ∃ e ∈ edgesOf o, e = j ∨ j ∈ tab.getD e []

theorem tab_of {tab : List (List Nat)} (h : tabOk ops.toList tab = true) : Tab ops tab := by
  simp only [tabOk, List.all_eq_true, Bool.and_eq_true, decide_eq_true_eq, List.any_eq_true, Bool.or_eq_true, beq_iff_eq, List.contains_eq_mem] at h
  have get : ∀ i o, ops[i]? = some o → (o, i) ∈ ops.toList.zipIdx := fun i o ho => by
    rw [List.mem_iff_getElem?]
    refine ⟨i, ?_⟩
    rw [List.getElem?_zipIdx]
    simp [ho]
  exact ⟨fun i o ho j hj => (h (o, i) (get i o ho)).1 j hj, fun i o ho j hj => (h (o, i) (get i o ho)).2 j hj⟩

def unlisted (listed : Array Bool) (m : Nat) : Nat := ((List.range m).filter fun i => !listed.getD i true).length

theorem getD_set (listed : Array Bool) (i j : Nat) (hi : i < listed.size) (d : Bool) : (listed.setIfInBounds i true).getD j d = if j = i then true else listed.getD j d := by
  simp only [Array.getD_eq_getD_getElem?]
  by_cases h : j = i
  · subst h; simp [hi]
  · rw [if_neg h, Array.getElem?_setIfInBounds_ne (fun e => h e.symm)]

theorem dd_eq (listed : Array Bool) (i : Nat) (h1 : listed.size = ops.size) (h2 : i < ops.size) : listed.getD i true = listed.getD i false := by
  simp only [Array.getD_eq_getD_getElem?]
  have : i < listed.size := by omega
  simp [this]

theorem noready {tab : List (List Nat)} (ht : Tab ops tab) (listed : Array Bool) (hsz : listed.size = ops.size) (hr : Region.ready .any ops listed = []) : ∀ i, i < ops.size → listed.getD i false = true := by
  intro i
  induction i using Nat.strongRecOn with
  | _ i ih =>
    intro hi
    cases hl : listed.getD i false with
    | true => rfl
    | false =>
      have hm : i ∈ Region.ready .any ops listed := mem_ready.2 ⟨hi, by rw [dd_eq listed i hsz hi]; exact hl, ops[i], by simp [hi], fun j hj => by
        have := ht.lt i ops[i] (by simp [hi]) j hj
        exact ih j this (by omega)⟩
      rw [hr] at hm
      simp at hm

theorem Stage.congr {c : Piece} {g : Seg} {s' : S} {D D' : Nat → Prop} {a : Act} {w : World} (h : ∀ r ∈ c.R, D r.i ↔ D' r.i) (hs : Stage c g s' D a w) : Stage c g s' D' a w := by
  rcases hs with ⟨hno, F, σ, hi⟩ | ⟨⟨r, hr, hD, hw⟩, hst⟩
  · refine .inl ⟨fun r hr hD => hno r hr ((h r hr).2 hD), F, σ, ⟨hi.heap, hi.glob, hi.le, hi.frame, hi.frz, hi.size, hi.dfr, fun t v hv hn => hi.old t v hv (fun r hr hD => hn r hr ((h r hr).1 hD)), fun r hr hD => hi.done r hr ((h r hr).2 hD), ?_, ?_, hi.stab, hi.sub⟩⟩
    · rintro d m v n0 nw hT ⟨r, hr, hD, hd⟩
      exact hi.made d m v n0 nw hT ⟨r, hr, (h r hr).2 hD, hd⟩
    · intro d m v n0 nw hT hn
      exact hi.unmade d m v n0 nw hT (fun r hr hD => hn r hr ((h r hr).1 hD))
  · obtain ⟨F, σ, hi⟩ := hst
    exact .inr ⟨⟨r, hr, (h r hr).1 hD, hw⟩, F, σ, ⟨fun r hr hD => hi.rest r hr (fun hD' => hD ((h r hr).1 hD')), hi.heap, hi.glob, hi.le, hi.frame, hi.frz, hi.size, hi.dfr, fun t v hv hn => hi.rho t v hv (fun r hr hD => hn r hr (fun hD' => hD ((h r hr).2 hD'))), hi.dom, hi.stab, hi.nxm, hi.xm, hi.sub, fun q hq hD => hi.ldone q hq ((h q hq).2 hD), fun t v hv hn => hi.lold t v hv (fun r hr hD => hn r hr ((h r hr).1 hD))⟩⟩

theorem any_chunk0 {tab : List (List Nat)} (ht : Tab ops tab) {k cnt : Nat} (St : (Nat → Prop) → Act → World → Prop)
    (hstep : ∀ (D : Nat → Prop) (a : Act) (w : World) (i : Nat) (Kn : Act → World → Prop), k ≤ i → i < k + cnt → ¬ D i → (∀ q, k ≤ q → q < k + cnt → D q → ∀ p, tabB tab p q = true → D p) → (∀ q, tabB tab q i = true → D q) → St D a w → (∀ a' w', St (plus D i) a' w' → Kn a' w') → wpOp P ops Q i Kn a w)
    (hbar : ∀ i, k + cnt ≤ i → i < ops.size → ∀ j, j < k + cnt → tabB tab j i = true) (hkc : k + cnt ≤ ops.size)
    (hrest : ∀ (fuel : Nat) (listed : Array Bool) (a : Act) (w : World), listed.size = ops.size → unlisted listed ops.size ≤ fuel → (∀ i, i < k + cnt → listed.getD i false = true) → (∀ i, k + cnt ≤ i → listed.getD i false = false) →
      (∃ D, (∀ i, k ≤ i → i < k + cnt → D i) ∧ St D a w) → wpAny P .any ops Q fuel listed a w) :
    ∀ (fuel : Nat) (listed : Array Bool) (a : Act) (w : World), listed.size = ops.size → unlisted listed ops.size ≤ fuel → (∀ i, i < k → listed.getD i false = true) → (∀ i, k + cnt ≤ i → listed.getD i false = false) →
      (∀ i, i < ops.size → listed.getD i false = true → ∀ j, tabB tab j i = true → listed.getD j false = true) → St (fun i => listed.getD i false = true) a w → wpAny P .any ops Q fuel listed a w := by
  intro fuel
  induction fuel with
  | zero =>
    intro listed a w hsz hfuel hlo hhi hdown hs
    have hall : ∀ i, i < ops.size → listed.getD i false = true := by
      intro i hi
      cases hl : listed.getD i false with
      | true => rfl
      | false =>
        have hm : i ∈ (List.range ops.size).filter fun i => !listed.getD i true := by
          simp only [List.mem_filter, List.mem_range, Bool.not_eq_true']
          exact ⟨hi, by rw [dd_eq listed i hsz hi]; exact hl⟩
        have : 0 < unlisted listed ops.size := List.length_pos_of_mem hm
        omega
    exact hrest 0 listed a w hsz hfuel (fun i hi => hall i (by omega)) hhi ⟨_, fun i h1 h2 => hall i (by omega), hs⟩
  | succ fuel ih =>
    intro listed a w hsz hfuel hlo hhi hdown hs
    by_cases hall : ∀ i, i < k + cnt → listed.getD i false = true
    · exact hrest (fuel + 1) listed a w hsz hfuel hall hhi ⟨_, fun i _ h => hall i h, hs⟩
    · refine ⟨fun hr => absurd (fun i hi => noready ht listed hsz hr i (by omega)) hall, fun i hi => ?_⟩
      obtain ⟨h1, h2, o, ho, h3⟩ := mem_ready.1 hi
      rw [dd_eq listed i hsz h1] at h2
      have hpre : ∀ j, tabB tab j i = true → listed.getD j false = true := by
        intro j hj
        simp only [tabB, List.contains_eq_mem, decide_eq_true_eq] at hj
        obtain ⟨e, he, h4⟩ := ht.clo i o ho j hj
        rcases h4 with rfl | h4
        · exact h3 _ he
        · exact hdown e (by have := ht.lt i o ho e he; omega) (h3 e he) j (by simpa [tabB] using h4)
      have hki : k ≤ i := by
        rcases Nat.lt_or_ge i k with h | h
        · rw [hlo i h] at h2; cases h2
        · exact h
      have hik : i < k + cnt := by
        rcases Nat.lt_or_ge i (k + cnt) with h | h
        · exact h
        · exact absurd (fun j hj => hpre j (hbar i h h1 j hj)) hall
      have hlt : i < listed.size := by omega
      exact hstep _ a w i (wpAny P .any ops Q fuel (listed.setIfInBounds i true)) hki hik (by simp only [h2]; simp) (fun q hq1 hq2 hqD p hpq => hdown q (by omega) hqD p hpq) hpre hs (fun a' w' hs' => by
          refine ih _ a' w' (by simpa using hsz) ?_ (fun x hx => ?_) (fun x hx => ?_) ?_ ?_
          · have : unlisted (listed.setIfInBounds i true) ops.size < unlisted listed ops.size := by
              unfold unlisted
              have hsub : ((List.range ops.size).filter fun x => !(listed.setIfInBounds i true).getD x true) = ((List.range ops.size).filter fun x => !listed.getD x true).filter fun x => decide (x ≠ i) := by
                rw [List.filter_filter]
                refine List.filter_congr fun x _ => ?_
                rw [getD_set listed i x hlt]
                by_cases hx : x = i
                · simp [hx]
                · simp [hx]
              rw [hsub]
              have hm : i ∈ (List.range ops.size).filter fun i => !listed.getD i true := by
                simp only [List.mem_filter, List.mem_range, Bool.not_eq_true']
                exact ⟨h1, by rw [dd_eq listed i hsz h1]; exact h2⟩
              exact List.length_filter_lt_length_iff_exists.2 ⟨i, hm, by simp⟩
            omega
          · rw [getD_set listed i x hlt]
            split
            · rfl
            · exact hlo x hx
          · rw [getD_set listed i x hlt, if_neg (by omega)]
            exact hhi x hx
          · intro x hx hxl j hj
            rw [getD_set listed i x hlt] at hxl
            rw [getD_set listed i j hlt]
            split
            · rfl
            · split at hxl
              · rename_i hxr
                subst hxr
                exact hpre j hj
              · exact hdown x hx hxl j hj
          · have : (fun x => (listed.setIfInBounds i true).getD x false = true) = plus (fun x => listed.getD x false = true) i := by
              funext x
              rw [getD_set listed i x hlt]
              simp only [plus, eq_iff_iff]
              by_cases hx : x = i <;> simp [hx]
            rw [this]
            exact hs')

theorem any_chunk {tab : List (List Nat)} (ht : Tab ops tab) {g : Seg} {c : Piece} {k : Nat} {s' : S} {news : List Blk} {l : List (Nat × V)} (hc : Full c (List.range' k g.cnt) g s' news l) (hop : ∀ D a w i Kn, Stage c g s' D a w → wpOp c.P c.ops Q i Kn a w → wpOp c.P ops Q i Kn a w) (hB : c.B = tabB tab)
    (hbar : ∀ i, k + g.cnt ≤ i → i < ops.size → ∀ j, j < k + g.cnt → tabB tab j i = true) (hkc : k + g.cnt ≤ ops.size)
    (hrest : ∀ (fuel : Nat) (listed : Array Bool) (a : Act) (w : World) (F : Nat → Prop) (σ : Nat → Option Loc), listed.size = ops.size → unlisted listed ops.size ≤ fuel → (∀ i, i < k + g.cnt → listed.getD i false = true) → (∀ i, k + g.cnt ≤ i → listed.getD i false = false) →
      StRel c.K c.X c.base c.w0 c.F0 c.m c.σ0 c.n s' a w F σ → wpAny c.P .any ops Q fuel listed a w)
    (fuel : Nat) (listed : Array Bool) (a : Act) (w : World) (h1 : listed.size = ops.size) (h2 : unlisted listed ops.size ≤ fuel) (h3 : ∀ i, i < k → listed.getD i false = true) (h4 : ∀ i, k + g.cnt ≤ i → listed.getD i false = false)
    (h5 : ∀ i, i < ops.size → listed.getD i false = true → ∀ j, tabB tab j i = true → listed.getD j false = true) (h6 : Stage c g s' (fun i => listed.getD i false = true) a w) : wpAny c.P .any ops Q fuel listed a w := by
  have hmem : ∀ q ∈ c.R, k ≤ q.i ∧ q.i < k + g.cnt := fun q hq => by
    have := (recs_mem hc.seg q.i).1 ⟨q, hq, rfl⟩
    rwa [List.mem_range'_1] at this
  refine any_chunk0 (cnt := g.cnt) ht (Stage c g s') (fun D a w i Kn hi1 hi2 hD hdown hpre hs hK => ?_) hbar hkc (fun fuel listed a w q1 q2 q3 q4 ⟨D, hall, hs⟩ => ?_) fuel listed a w h1 h2 h3 h4 h5 h6
  · obtain ⟨r, hr, hri⟩ := (recs_mem hc.seg i).2 (by rw [List.mem_range'_1]; omega)
    subst hri
    exact hop D a w r.i Kn hs (stage_step hc hs hr hD (fun q hq hqD p hp hpq => by
      rw [hB] at hpq
      exact hdown q.i (hmem q hq).1 (hmem q hq).2 hqD p.i hpq) (fun q hq hqr => by
      rw [hB] at hqr
      exact hpre q.i hqr) hK)
  · obtain ⟨F, σ, hst⟩ := stage_end hc hs (fun r hr => hall r.i (hmem r hr).1 (hmem r hr).2)
    exact hrest fuel listed a w F σ q1 q2 q3 q4 hst

theorem any_ops (hK : K.Sound P) {tab : List (List Nat)} (ht : Tab ops tab) : ∀ (gs : List Seg) (k : Nat) (s s' : S), drawnOks P ops n tab k gs = true → evSegs K s gs = some s' → (∀ a w F σ, StRel K X base w0 F0 m0 σ0 n s' a w F σ → Q .normal a w) →
    ∀ (fuel : Nat) (listed : Array Bool) (a : Act) (w : World) (F : Nat → Prop) (σ : Nat → Option Loc), listed.size = ops.size → unlisted listed ops.size ≤ fuel → (∀ i, i < k → listed.getD i false = true) → (∀ i, k ≤ i → listed.getD i false = false) → StRel K X base w0 F0 m0 σ0 n s a w F σ → wpAny P .any ops Q fuel listed a w
  | [], k, s, s', hok, hev, hQ, fuel, listed, a, w, F, σ, hsz, hfuel, hlo, hhi, hst => by
    simp only [drawnOks, beq_iff_eq] at hok
    subst hok
    obtain rfl := Option.some.inj hev
    have hr : Region.ready .any ops listed = [] := by
      cases hr : Region.ready .any ops listed with
      | nil => rfl
      | cons i t =>
        have : i ∈ Region.ready .any ops listed := by rw [hr]; simp
        obtain ⟨h1, h2, _⟩ := mem_ready.1 this
        rw [dd_eq listed i hsz h1, hlo i h1] at h2
        cases h2
    cases fuel with
    | zero => exact ⟨hr, hQ _ _ _ _ hst⟩
    | succ fuel => exact ⟨fun _ => hQ _ _ _ _ hst, fun i hi => by rw [hr] at hi; simp at hi⟩
  | g :: gs, k, s, s', hok, hev, hQ, fuel, listed, a, w, F, σ, hsz, hfuel, hlo, hhi, hst => by
    simp only [drawnOks, Bool.and_eq_true] at hok
    obtain ⟨⟨hok1, hok2⟩, hok3⟩ := hok
    simp only [evSegs] at hev
    cases hg : evSeg K s g with
    | none => simp [hg] at hev
    | some s2 =>
      simp only [hg] at hev
      obtain ⟨R, s1, T, news, l, hf⟩ := full_of (X := X) (base := base) (w0 := w0) (F0 := F0) (m0 := m0) (σ0 := σ0) hok1 hK hg hst.dom hst.nxm hst.xm
      have hle : ∀ (gs : List Seg) (k : Nat), drawnOks P ops n tab k gs = true → k ≤ ops.size := by
        intro gs
        induction gs with
        | nil => intro k h; simp only [drawnOks, beq_iff_eq] at h; omega
        | cons g gs ih =>
          intro k h
          simp only [drawnOks, Bool.and_eq_true] at h
          have := ih _ h.2
          omega
      have hbar : ∀ i, k + g.cnt ≤ i → i < ops.size → ∀ j, j < k + g.cnt → tabB tab j i = true := by
        intro i h1 h2 j hj
        cases gs with
        | nil =>
          simp only [drawnOks, beq_iff_eq] at hok3
          omega
        | cons g2 gs2 =>
          simp only [drawnOks, Bool.and_eq_true, List.all_eq_true] at hok3
          exact hok3.1.2 i (by rw [List.mem_range'_1]; omega) j (by simpa using hj)
      refine any_chunk ht hf (fun _ _ _ _ _ _ h => h) rfl hbar (hle _ _ hok3) (fun fuel listed a w F σ h1 h2 h3 h4 hst2 => any_ops hK ht gs (k + g.cnt) s2 s' hok3 hev hQ fuel listed a w F σ h1 h2 h3 h4 hst2) fuel listed a w hsz hfuel hlo (fun i hi => hhi i (by omega)) (fun i hi hil j hj => ?_) ?_
      · -- what is listed is of earlier chunks: so is all ahead of it
        have hik : i < k := by
          rcases Nat.lt_or_ge i k with h | h
          · exact h
          · rw [hhi i h] at hil; cases hil
        have hclo : ∀ i, i < ops.size → ∀ j, tabB tab j i = true → j < i := by
          intro i
          induction i using Nat.strongRecOn with
          | _ i ih =>
            intro hi j hj
            simp only [tabB, List.contains_eq_mem, decide_eq_true_eq] at hj
            obtain ⟨e, he, h4⟩ := ht.clo i ops[i] (by simp [hi]) j hj
            have hei := ht.lt i ops[i] (by simp [hi]) e he
            rcases h4 with rfl | h4
            · exact hei
            · have := ih e hei (by omega) j (by simpa [tabB] using h4)
              omega
        exact hlo j (by have := hclo i hi j hj; omega)
      · refine (stage_start (P := P) (ops := ops) (B := tabB tab) (R := R) (s' := s2) hf.traced hst).congr (fun r hr => ?_)
        have := (recs_mem hf.seg r.i).1 ⟨r, hr, rfl⟩
        rw [List.mem_range'_1] at this
        rw [hhi r.i this.1]
        simp

theorem drawn_region {id : Nat} {gs : List Seg} {s s' : S} {a : Act} {w : World} {F : Nat → Prop} {σ : Nat → Option Loc} (hm : P.follows .mixedOrders = true) (hK : K.Sound P) (hok : drawnOk P ops n gs = true) (hev : evSegs K s gs = some s') (hst : StRel K X base w0 F0 m0 σ0 n s a w F σ)
    (hQ : ∀ a w F σ, StRel K X base w0 F0 m0 σ0 n s' a w F σ → Q .normal a w) : (Code.region id ops true).wp P Q a w := by
  simp only [drawnOk, Bool.and_eq_true] at hok
  refine wp_region_any hm ?_
  have hno : ∀ i, (Array.replicate ops.size false).getD i false = false := by
    intro i
    simp only [Array.getD_eq_getD_getElem?, Array.getElem?_replicate]
    split <;> rfl
  refine any_ops hK (tab_of hok.2) gs 0 s s' hok.1 hev hQ ops.size _ a _ F σ (by simp) ?_ (fun i hi => by omega) (fun i _ => hno i) (hst.drawn _)
  unfold unlisted
  refine Nat.le_trans (List.length_filter_le _ _) ?_
  simp

end Go.Vm
end

section
namespace Go.Vm
open Go.RowKit

variable {P : Program} {K : Cx} {ops : Array Oper} {n : Nat} {X : Nat → Nat → Prop} {base : Nat} {w0 : World} {F0 : Nat → Prop} {m0 : Nat} {σ0 : Nat → Option Loc}

theorem frz_val {w : World} {F : Nat → Prop} {σ σ' : Nat → Option Loc} {nx : Nat} {H : List (Nat × Blk)} (hH : HeapRel w F X base σ nx H) {b n k : Nat} {c : Bool} {rows : List (List D)} {l : Loc} (hb : look H b = some (.dat c k rows)) (hl : σ b = some l) (hn : n = rows.length) (h0 : 0 < n) (hbase : base ≤ l.blk) {v : Value} (hv : RepV w F base σ v (.bsl b 0 n)) :
    RepV w (fun x => F x ∨ x = l.blk) base σ' v (.d c (.sl k rows)) := by
  have hin : col (fun x => F x ∨ x = l.blk) base c l.blk := by
    cases c
    · exact .inr rfl
    · exact ⟨.inr rfl, hbase⟩
  refine .d _ _ _ ?_
  cases hv with
  | bsl0 => omega
  | bsl _ _ _ cap l' hl' h1 h2 =>
    obtain rfl : l = l' := by rw [hl] at hl'; exact Option.some.inj hl'
    have cells : ∀ i r, rows[i]? = some r → l.k = k ∧ r.length = k ∧ ∀ (j : Nat) (d : D), r[j]? = some d → ∃ u, w.cell? ⟨l.blk, i * l.k + j, none⟩ = some u ∧ RepV w F base σ u (mkd c d) := by
      intro i r hr
      obtain ⟨e1, e2, e3⟩ := row_cells hH hb hl (i := i) (row := r.map (mkd c)) (by simp [Blk.row?, hr])
      simp only [Blk.k] at e1
      refine ⟨e1, by simpa [e1] using e2, fun j d hd => ?_⟩
      obtain ⟨u, hu, _, hR⟩ := e3 j (mkd c d) (by simp [hd])
      exact ⟨u, hu, hR⟩
    refine .sl _ _ _ _ k _ (fun i j => (w.cell? ⟨l.blk, i * l.k + j, none⟩).getD undef) hn.symm h1 hin (fun r hr => ?_) (fun i j r d hr hd => ?_) (fun i j r d hr hd => ?_)
    · obtain ⟨i, hi⟩ := List.getElem?_of_mem hr
      exact (cells i r hi).2.1
    · obtain ⟨e1, _, e3⟩ := cells i r hr
      obtain ⟨u, hu, _⟩ := e3 j d hd
      rw [hu, ← e1]
      simp only [Option.getD_some]
      rw [← hu]
      congr 2
      omega
    · obtain ⟨e1, _, e3⟩ := cells i r hr
      obtain ⟨u, hu, hR⟩ := e3 j d hd
      rw [hu]
      simp only [Option.getD_some]
      unfold mkd at hR
      split at hR
      · rename_i hf
        cases hR with
        | d _ _ _ h => exact h.flat hf
      · cases hR with
        | d _ _ _ h => exact h.mono fun a ha => ⟨by
            cases c
            · exact .inl ha
            · exact ⟨.inl ha.1, ha.2⟩, rfl⟩

theorem StRel.freeze {s : S} {a : Act} {w : World} {F : Nat → Prop} {σ : Nat → Option Loc} (t j : Nat) (h : StRel K X base w0 F0 m0 σ0 n s a w F σ) : ∃ F' σ', StRel K X base w0 F0 m0 σ0 n (frzS m0 t j s) a w F' σ' := by
  unfold frzS
  split
  case h_2 => exact ⟨F, σ, h⟩
  rename_i b hb
  split
  case h_2 => exact ⟨F, σ, h⟩
  rename_i k row hrow
  split
  case h_2 => exact ⟨F, σ, h⟩
  rename_i b' nn hj
  split
  case h_2 => exact ⟨F, σ, h⟩
  rename_i c k' rows hb'
  split
  case isFalse => exact ⟨F, σ, h⟩
  rename_i hc
  obtain ⟨hn, h0, hm, hne⟩ := hc
  have hl : ∃ l, σ b' = some l := by
    rcases h.heap.blk b' _ hb' with ⟨hz, _⟩ | ⟨l, _, _, _, _, hl, _⟩ | ⟨l, _, _, hl, _⟩
    · simp [Blk.n] at hz; rw [hz] at hn; simp at hn; omega
    · exact ⟨l, hl⟩
    · exact ⟨l, hl⟩
  obtain ⟨l, hl⟩ := hl
  obtain ⟨o1, o2, o3, o4⟩ := h.heap.own b' l hl
  have hbase : base ≤ l.blk := by
    rcases o3 with o3 | o3
    · exact o3
    · have := h.xm _ _ o3; omega
  have hF : ∀ x, F x → (F x ∨ x = l.blk) ∧ w.heap[x]? = w.heap[x]? := fun x hx => ⟨.inl hx, rfl⟩
  let σ' : Nat → Option Loc := fun i => if i = b' then none else σ i
  have hσ : ∀ i l, σ i = some l → (i == b') = false → σ' i = some l := fun i l hi hp => by
    show (if i = b' then none else σ i) = _
    rw [if_neg (by simpa using hp)]; exact hi
  have hσ' : ∀ i l0, σ' i = some l0 → i ≠ b' ∧ σ i = some l0 := fun i l0 hi => by
    change (if i = b' then none else σ i) = _ at hi
    split at hi
    · cases hi
    · exact ⟨‹_›, hi⟩
  have hσn : ∀ i, i ≠ b' → σ' i = σ i := fun i hi => by
    show (if i = b' then none else σ i) = _
    rw [if_neg hi]
  refine ⟨fun x => F x ∨ x = l.blk, σ', ⟨fun i blk hi => ?_, fun i i' l1 l2 h1 h2 he => ?_, fun i l1 h1 => ?_, fun x hx => ?_⟩, h.glob.mono hF, h.le, h.frame, fun x hx => ?_, h.size, h.dfr, fun u v hv => ?_, fun i blk hi => ?_, fun i l1 h1 h2 h3 => ?_, h.nxm, h.xm, fun x hx => .inl (h.sub x hx)⟩
  · rw [look_put] at hi
    split at hi
    · rename_i he
      subst he
      obtain rfl := Option.some.inj hi
      rcases h.heap.blk b _ hrow with ⟨hz, _⟩ | ⟨_, _, _, _, hmap, _⟩ | ⟨lb, cs, T, q1, q2, q3, q4, q5, q6, q7⟩
      · simp [Blk.n] at hz
      · cases hmap
      · refine .inr (.inr ⟨lb, cs, T, by rw [hσn b (fun e => hne e.symm)]; exact q1, q2, q3, q4, q5, fun i r hr => ?_, rfl⟩)
        cases i with
        | succ i => simp [Blk.row?] at hr
        | zero =>
          simp only [Blk.row?, List.getElem?_cons_zero, Option.some.injEq] at hr
          subst hr
          obtain ⟨g1, g2⟩ := q6 0 row rfl
          refine ⟨by simpa [Blk.k] using g1, fun jj x hx => ?_⟩
          by_cases hjj : j = jj
          · subst hjj
            have hlt : j < row.length := (List.getElem?_eq_some_iff.1 hj).1
            rw [List.getElem?_set_self (by simpa using hlt)] at hx
            obtain rfl := Option.some.inj hx
            obtain ⟨v, g3, g4, g5⟩ := g2 j _ hj
            exact ⟨v, g3, g4, frz_val h.heap hb' hl hn h0 hbase g5⟩
          · rw [List.getElem?_set_ne hjj, List.getElem?_map, Option.map_eq_some_iff] at hx
            obtain ⟨y, hy, rfl⟩ := hx
            obtain ⟨v, g3, g4, g5⟩ := g2 jj y hy
            exact ⟨v, g3, g4, g5.drop1 hF hσ⟩
    · rw [look_put] at hi
      split at hi
      · rename_i he
        subst he
        obtain rfl := Option.some.inj hi
        exact .inl ⟨rfl, if_pos rfl⟩
      · rename_i he
        simp only [forgetH, look_mapB, Option.map_eq_some_iff] at hi
        obtain ⟨blk0, hi, rfl⟩ := hi
        have hib : i ≠ b' := fun e => he e.symm
        exact (h.heap.blk i blk0 hi).forget (· == b') hF hσ (fun l hl => by rw [hσn i hib]; exact hl) (fun hl => by rw [hσn i hib]; exact hl) (fun _ _ => rfl)
  · exact h.heap.inj i i' l1 l2 (hσ' i l1 h1).2 (hσ' i' l2 h2).2 he
  · obtain ⟨hi, h1⟩ := hσ' i l1 h1
    obtain ⟨p1, p2, p3, p4⟩ := h.heap.own i l1 h1
    refine ⟨p1, fun hx => ?_, p3, p4⟩
    rcases hx with hx | hx
    · exact p2 hx
    · exact hi (h.heap.inj i b' l1 l h1 hl hx)
  · rcases hx with hx | hx
    · exact h.heap.fro x hx
    · rw [hx]; exact o4
  · rcases hx with hx | hx
    · exact h.frz x hx
    · rw [hx]; exact .inr hbase
  · simp only [forgetR] at hv
    rw [look_mapV, Option.map_eq_some_iff] at hv
    obtain ⟨v0, h1, rfl⟩ := hv
    exact (h.rho u v0 h1).forget hF hσ
  · rw [look_put] at hi
    split at hi
    · rename_i he; subst he; exact h.dom _ _ hrow
    · rw [look_put] at hi
      split at hi
      · rename_i he; subst he; exact h.dom _ _ hb'
      · simp only [forgetH, look_mapB, Option.map_eq_some_iff] at hi
        obtain ⟨blk0, hi, rfl⟩ := hi
        exact h.dom i blk0 hi
  · rw [hσn i (by omega)]
    exact h.stab i l1 h1 h2 h3

def less (σ : Nat → Option Loc) (b : Nat) : Nat → Option Loc := fun i => if i = b then none else σ i

theorem StRel.gone {s : S} {a : Act} {w : World} {F : Nat → Prop} {σ : Nat → Option Loc} {t b k : Nat} {l : Loc} {x : V} {blk : Blk} (hl : σ b = some l) (hblk : look s.heap b = some blk) (hm : m0 ≤ b)
    (hx : base ≤ l.blk → RepV w (fun y => F y ∨ y = l.blk) base (less σ b) (a.tmps.getD t undef) x) (h : StRel K X base w0 F0 m0 σ0 n s a w F σ) :
    ∃ F' σ', StRel K X base w0 F0 m0 σ0 n ⟨put (forgetR (· == b) s.rho) t x, put (forgetH (· == b) s.heap) b (.dat true k []), s.nx, s.mv⟩ a w F' σ' := by
  obtain ⟨o1, o2, o3, o4⟩ := h.heap.own b l hl
  have hbase : base ≤ l.blk := by
    rcases o3 with o3 | o3
    · exact o3
    · have := h.xm _ _ o3; omega
  have hF : ∀ y, F y → (F y ∨ y = l.blk) ∧ w.heap[y]? = w.heap[y]? := fun y hy => ⟨.inl hy, rfl⟩
  have hσ : ∀ i l, σ i = some l → (i == b) = false → less σ b i = some l := fun i l hi hp => by
    show (if i = b then none else σ i) = _
    rw [if_neg (by simpa using hp)]; exact hi
  have hσ' : ∀ i l0, less σ b i = some l0 → i ≠ b ∧ σ i = some l0 := fun i l0 hi => by
    change (if i = b then none else σ i) = _ at hi
    split at hi
    · cases hi
    · exact ⟨‹_›, hi⟩
  have hσn : ∀ i, i ≠ b → less σ b i = σ i := fun i hi => by
    show (if i = b then none else σ i) = _
    rw [if_neg hi]
  refine ⟨fun y => F y ∨ y = l.blk, less σ b, ⟨fun i bk hi => ?_, fun i i' l1 l2 h1 h2 he => ?_, fun i l1 h1 => ?_, fun y hy => ?_⟩, h.glob.mono hF, h.le, h.frame, fun y hy => ?_, h.size, h.dfr, fun u v hv => ?_, fun i bk hi => ?_, fun i l1 h1 h2 h3 => ?_, h.nxm, h.xm, fun y hy => .inl (h.sub y hy)⟩
  · rw [look_put] at hi
    split at hi
    · rename_i he
      subst he
      obtain rfl := Option.some.inj hi
      exact .inl ⟨rfl, if_pos rfl⟩
    · rename_i he
      simp only [forgetH, look_mapB, Option.map_eq_some_iff] at hi
      obtain ⟨blk0, hi, rfl⟩ := hi
      have hib : i ≠ b := fun e => he e.symm
      exact (h.heap.blk i blk0 hi).forget (· == b) hF hσ (fun l hl => by rw [hσn i hib]; exact hl) (fun hl => by rw [hσn i hib]; exact hl) (fun _ _ => rfl)
  · exact h.heap.inj i i' l1 l2 (hσ' i l1 h1).2 (hσ' i' l2 h2).2 he
  · obtain ⟨hi, h1⟩ := hσ' i l1 h1
    obtain ⟨p1, p2, p3, p4⟩ := h.heap.own i l1 h1
    refine ⟨p1, fun hy => ?_, p3, p4⟩
    rcases hy with hy | hy
    · exact p2 hy
    · exact hi (h.heap.inj i b l1 l h1 hl hy)
  · rcases hy with hy | hy
    · exact h.heap.fro y hy
    · rw [hy]; exact o4
  · rcases hy with hy | hy
    · exact h.frz y hy
    · rw [hy]; exact .inr hbase
  · rw [look_put] at hv
    split at hv
    · rename_i he
      subst he
      obtain rfl := Option.some.inj hv
      exact hx hbase
    · simp only [forgetR] at hv
      rw [look_mapV, Option.map_eq_some_iff] at hv
      obtain ⟨v0, h1, rfl⟩ := hv
      exact (h.rho u v0 h1).forget hF hσ
  · rw [look_put] at hi
    split at hi
    · rename_i he; subst he; exact h.dom _ _ hblk
    · simp only [forgetH, look_mapB, Option.map_eq_some_iff] at hi
      obtain ⟨blk0, hi, rfl⟩ := hi
      exact h.dom i blk0 hi
  · rw [hσn i (by omega)]
    exact h.stab i l1 h1 h2 h3

theorem StRel.freezeV {s : S} {a : Act} {w : World} {F : Nat → Prop} {σ : Nat → Option Loc} (t : Nat) (h : StRel K X base w0 F0 m0 σ0 n s a w F σ) : ∃ F' σ', StRel K X base w0 F0 m0 σ0 n (frzV m0 t s) a w F' σ' := by
  unfold frzV
  split
  · rename_i b nn hb
    split
    case h_2 => exact ⟨F, σ, h⟩
    rename_i c k rows hb'
    split
    case isFalse => exact ⟨F, σ, h⟩
    rename_i hc
    obtain ⟨hn, h0, hm⟩ := hc
    have hl : ∃ l, σ b = some l := by
      rcases h.heap.blk b _ hb' with ⟨hz, _⟩ | ⟨l, _, _, _, _, hl, _⟩ | ⟨l, _, _, hl, _⟩
      · simp [Blk.n] at hz; rw [hz] at hn; simp at hn; omega
      · exact ⟨l, hl⟩
      · exact ⟨l, hl⟩
    obtain ⟨l, hl⟩ := hl
    exact h.gone hl hb' hm fun hbase => frz_val h.heap hb' hl hn h0 hbase (h.rho t _ hb)
  · rename_i b hb
    split
    case h_2 => exact ⟨F, σ, h⟩
    rename_i k row hb'
    split
    case h_2 => exact ⟨F, σ, h⟩
    rename_i ds hds
    split
    case isFalse => exact ⟨F, σ, h⟩
    rename_i hc
    obtain ⟨hm, h0⟩ := hc
    have hr := h.rho t _ hb
    generalize hvv : a.tmps.getD t undef = vv at hr
    cases hr with
    | ptr _ _ _ l hl =>
      refine h.gone hl hb' hm fun hbase => ?_
      rw [hvv]
      obtain ⟨e1, e2, e3⟩ := row_cells h.heap hb' hl (i := 0) (row := row) (by simp [Blk.row?])
      obtain ⟨d1, d2⟩ := mapO_some hds
      refine .d _ _ _ ?_
      have hin : col (fun x => F x ∨ x = l.blk) base (row.all V.new1) l.blk := by
        cases row.all V.new1
        · exact .inr rfl
        · exact ⟨.inr rfl, hbase⟩
      have cells : ∀ j d, ds[j]? = some d → ∃ x u, row[j]? = some x ∧ w.cell? ⟨l.blk, j, none⟩ = some u ∧ RepV w F base σ u x ∧ asD x = some d := by
        intro j d hd
        obtain ⟨x, hx, hxd⟩ := mapO_get hds hd
        obtain ⟨u, hu, _, hR⟩ := e3 j x hx
        exact ⟨x, u, hx, by simpa using hu, hR, hxd⟩
      have := RepD.ptr (w := w) (F := col (fun x => F x ∨ x = l.blk) base (row.all V.new1)) l.blk (0 * l.k + 0) ds (fun j => (w.cell? ⟨l.blk, j, none⟩).getD undef) hin (fun j d hd => ?_) (fun j d hd => ?_)
      · exact this
      · obtain ⟨x, u, _, hu, _, _⟩ := cells j d hd
        simp only [Nat.zero_mul, Nat.zero_add]
        rw [hu]; rfl
      · obtain ⟨x, u, hx, hu, hR, hxd⟩ := cells j d hd
        rw [hu]
        simp only [Option.getD_some]
        obtain ⟨r1, r2⟩ := asD_sound hxd hR
        cases hnew : row.all V.new1 with
        | false => exact r1.mono fun y hy => ⟨.inl hy, rfl⟩
        | true =>
          rw [List.all_eq_true] at hnew
          exact (r2 (hnew x (List.mem_of_getElem? hx))).mono fun y hy => ⟨⟨.inl hy.1, hy.2⟩, rfl⟩
  · exact ⟨F, σ, h⟩

theorem StRel.freezeL {a : Act} {w : World} : ∀ (l : List Nat) {s : S} {F : Nat → Prop} {σ : Nat → Option Loc}, StRel K X base w0 F0 m0 σ0 n s a w F σ → ∃ F' σ', StRel K X base w0 F0 m0 σ0 n (frzL m0 l s) a w F' σ'
  | [], s, F, σ, h => ⟨F, σ, h⟩
  | t :: l, s, F, σ, h => by
    obtain ⟨F', σ', h'⟩ := h.freezeV t
    exact StRel.freezeL l h'

end Go.Vm
end

section
namespace Go.Vm
open Go.RowKit

def guardIs (ops : Array Oper) (t : Nat) (b : Bool) (o : Oper) : Bool := match o.guard with
  | some (j, b') => b' == b && (match ops[j]? with
    | some q => q.dst == some t
    | none => false)
  | none => false
def inR (lo n i : Nat) : Bool := decide (lo ≤ i) && decide (i < lo + n)
def strip (ops : Array Oper) (t : Nat) (b : Bool) (lo n : Nat) : Array Oper := ops.mapIdx fun i o => if inR lo n i && guardIs ops t b o then { o with guard := none } else o
def skipOk (ops : Array Oper) (t : Nat) (b : Bool) (k : Nat) (g : Seg) : Bool := (List.range' k g.cnt).all fun i => match ops[i]? with
  | some o => guardIs ops t b o && o.dst != some t && (match o.dst with | some d => !(keepG g).contains d | none => true)
  | none => true
def pieceOkG (B : Nat → Nat → Bool) (P : Program) (ops : Array Oper) (n k : Nat) (p : Pre) (g : Seg) : Bool := match p.sg with
  | none => segOk B P ops n (List.range' k g.cnt) g
  | some (t, b) => segOk B P (strip ops t b k g.cnt) n (List.range' k g.cnt) g && skipOk ops t b k g
def textOkG (P : Program) (ops : Array Oper) (n : Nat) : Nat → List (Pre × Seg) → Bool
  | k, [] => k == ops.size
  | k, (p, g) :: r => pieceOkG (fun i j => decide (i < j)) P ops n k p g && textOkG P ops n (k + g.cnt) r
def drawnOksG (P : Program) (ops : Array Oper) (n : Nat) (tab : List (List Nat)) : Nat → List (Pre × Seg) → Bool
  | k, [] => k == ops.size
  | k, (p, g) :: r => pieceOkG (tabB tab) P ops n k p g && ((List.range' k (ops.size - k)).all fun i => (List.range k).all fun j => tabB tab j i) && drawnOksG P ops n tab (k + g.cnt) r
def tabOfG : List (Pre × Seg) → List (List Nat)
  | (_, g) :: _ => g.aux
  | [] => []
def drawnOkG (P : Program) (ops : Array Oper) (n : Nat) (gs : List (Pre × Seg)) : Bool := drawnOksG P ops n (tabOfG gs) 0 gs && tabOk ops.toList (tabOfG gs)

variable {P : Program} {K : Cx} {ops : Array Oper} {n : Nat} {X : Nat → Nat → Prop} {base : Nat} {w0 : World} {F0 : Nat → Prop} {m0 : Nat} {σ0 : Nat → Option Loc} {Q : Exit → Act → World → Prop}

theorem strip_get (t : Nat) (b : Bool) (lo n i : Nat) : (strip ops t b lo n)[i]? = (ops[i]?).map fun o => if inR lo n i && guardIs ops t b o then { o with guard := none } else o := by
  unfold strip
  rw [Array.getElem?_mapIdx]

theorem strip_dst (t : Nat) (b : Bool) (lo n i : Nat) : ((strip ops t b lo n)[i]?).bind (·.dst) = (ops[i]?).bind (·.dst) := by
  rw [strip_get]
  cases ops[i]? with
  | none => rfl
  | some o => simp only [Option.map_some, Option.bind_some]; split <;> rfl

theorem strip_yields (t : Nat) (b : Bool) (lo n : Nat) (tmps : Array Value) : yielded (strip ops t b lo n) tmps = yielded ops tmps := by
  funext j
  unfold yielded
  rw [strip_dst]

def Truth (t : Nat) (x : Bool) (a : Act) : Prop := a.tmps[t]? = some (.bool x)

theorem guard_wanted {t : Nat} {b x : Bool} {a : Act} {o : Oper} (hg : guardIs ops t b o = true) (ht : Truth t x a) : Region.wanted o (yielded ops a.tmps) = (x == b) := by
  unfold guardIs at hg
  split at hg
  · rename_i j b' hgd
    simp only [Bool.and_eq_true, beq_iff_eq] at hg
    obtain ⟨rfl, hg⟩ := hg
    split at hg
    · rename_i q hq
      have hd : q.dst = some t := by simpa using hg
      have hy : yielded ops a.tmps j = some x := by
        unfold yielded
        rw [hq]
        simp only [Option.bind_some, hd]
        rw [ht]
      unfold Region.wanted
      rw [hgd]
      simp only [hy]
      cases x <;> cases b' <;> rfl
    · cases hg
  · cases hg

theorem strip_op {t : Nat} {b : Bool} {lo n' i : Nat} {a : Act} {w : World} {Kn : Act → World → Prop} (ht : Truth t b a) (h : wpOp P (strip ops t b lo n') Q i Kn a w) : wpOp P ops Q i Kn a w := by
  unfold wpOp at h ⊢
  rw [strip_get, strip_yields] at h
  cases ho : ops[i]? with
  | none => rw [ho] at h; exact h
  | some o =>
    rw [ho] at h
    simp only [Option.map_some] at h ⊢
    by_cases hc : (inR lo n' i && guardIs ops t b o) = true
    · rw [if_pos hc] at h
      simp only [Bool.and_eq_true] at hc
      rw [if_pos (by rw [guard_wanted hc.2 ht]; simp)]
      rw [if_pos (by rfl)] at h
      exact h
    · rw [if_neg hc] at h
      exact h

theorem skip_op {t : Nat} {b x : Bool} {i : Nat} {a : Act} {w : World} {Kn : Act → World → Prop} {o : Oper} (ho : ops[i]? = some o) (hg : guardIs ops t b o = true) (ht : Truth t x a) (hx : x ≠ b) (h : Kn (a.put o.dst undef) w) : wpOp P ops Q i Kn a w := by
  unfold wpOp
  rw [ho]
  simp only
  rw [if_neg (by rw [guard_wanted hg ht]; simpa using hx)]
  exact h

theorem stage_truth {c : Piece} {g : Seg} {s' : S} {D : Nat → Prop} {a : Act} {w : World} {is : List Nat} {news : List Blk} {l : List (Nat × V)} (hf : Full c is g s' news l) (hs : Stage c g s' D a w) {t : Nat} {x cc : Bool} (hl : look c.s.rho t = some (.d cc (.bool x))) (hno : ∀ r ∈ c.R, r.o.dst ≠ some t) : Truth t x a := by
  have key : ∀ {F : Nat → Prop} {σ : Nat → Option Loc}, RepV w F c.base σ (a.tmps.getD t undef) (.d cc (.bool x)) → Truth t x a := by
    intro F σ h
    have hv := h.bool_inv
    unfold Truth
    rw [Array.getD_eq_getD_getElem?] at hv
    cases ht : a.tmps[t]? with
    | none => rw [ht] at hv; simp [undef] at hv
    | some u => rw [ht] at hv; simp only [Option.getD_some] at hv; rw [hv]
  rcases hs with ⟨_, F, σ, hi⟩ | ⟨_, F, σ, hw⟩
  · exact key (hi.old t _ hl fun r hr _ => hno r hr)
  · refine key (hw.lold t _ ?_ fun r hr _ => hno r hr)
    have hnm : t ∉ c.mds := fun hm => by
      obtain ⟨r, hr, hd, _⟩ := hf.ok.covers t hm
      exact hno r hr hd
    simp only [clean]
    rw [look_mapV, hf.ok.old t hnm, hl]
    rfl

theorem StRel.truth {s : S} {a : Act} {w : World} {F : Nat → Prop} {σ : Nat → Option Loc} (h : StRel K X base w0 F0 m0 σ0 n s a w F σ) {t : Nat} {x cc : Bool} (hl : look s.rho t = some (.d cc (.bool x))) : Truth t x a := by
  have hv := (h.rho t _ hl).bool_inv
  unfold Truth
  rw [Array.getD_eq_getD_getElem?] at hv
  cases ht : a.tmps[t]? with
  | none => rw [ht] at hv; simp [undef] at hv
  | some u => rw [ht] at hv; simp only [Option.getD_some] at hv; rw [hv]

def Skip (K : Cx) (X : Nat → Nat → Prop) (base : Nat) (w0 : World) (F0 : Nat → Prop) (m0 : Nat) (σ0 : Nat → Option Loc) (n : Nat) (t : Nat) (x : Bool) (s : S) (a : Act) (w : World) : Prop := Truth t x a ∧ ∃ F σ, StRel K X base w0 F0 m0 σ0 n s a w F σ

theorem put_get {a : Act} {d : Option Nat} {v : Value} {u : Nat} (h : d ≠ some u) : (a.put d v).tmps[u]? = a.tmps[u]? := by
  cases d with
  | none => rfl
  | some d =>
    simp only [Act.put]
    exact Array.getElem?_setIfInBounds_ne (fun e => h (by rw [e]))

theorem Skip.step {t : Nat} {x : Bool} {s : S} {keep : List Nat} {a : Act} {w : World} (h : Skip K X base w0 F0 m0 σ0 n t x (skipS s keep) a w) {d : Option Nat} (h1 : d ≠ some t) (h2 : ∀ u, d = some u → u ∉ keep) : Skip K X base w0 F0 m0 σ0 n t x (skipS s keep) (a.put d undef) w := by
  obtain ⟨ht, F, σ, hs⟩ := h
  refine ⟨?_, F, σ, ⟨hs.heap, hs.glob, hs.le, hs.frame, hs.frz, by rw [size_put]; exact hs.size, by rw [defers_put]; exact hs.dfr, fun u v hv => ?_, hs.dom, hs.stab, hs.nxm, hs.xm, hs.sub⟩⟩
  · unfold Truth
    rw [put_get h1]
    exact ht
  · have hu : u ∈ keep := (look_restrict _ _ _ _ hv).1
    have hd : d ≠ some u := fun e => h2 u e hu
    have := hs.rho u v hv
    rw [Array.getD_eq_getD_getElem?] at this ⊢
    rw [put_get hd]
    exact this

theorem StRel.skip {s : S} {a : Act} {w : World} {F : Nat → Prop} {σ : Nat → Option Loc} (h : StRel K X base w0 F0 m0 σ0 n s a w F σ) (keep : List Nat) : StRel K X base w0 F0 m0 σ0 n (skipS s keep) a w F σ :=
  ⟨h.heap, h.glob, h.le, h.frame, h.frz, h.size, h.dfr, fun t v hv => h.rho t v (look_restrict _ _ _ _ hv).2, h.dom, h.stab, h.nxm, h.xm, h.sub⟩

theorem skip_get {t : Nat} {b : Bool} {k : Nat} {g : Seg} (h : skipOk ops t b k g = true) {i : Nat} (h1 : k ≤ i) (h2 : i < k + g.cnt) {o : Oper} (ho : ops[i]? = some o) : guardIs ops t b o = true ∧ o.dst ≠ some t ∧ ∀ u, o.dst = some u → u ∉ keepG g := by
  unfold skipOk at h
  rw [List.all_eq_true] at h
  have := h i (by rw [List.mem_range'_1]; omega)
  rw [ho] at this
  simp only [Bool.and_eq_true, bne_iff_ne, ne_eq] at this
  refine ⟨this.1.1, this.1.2, fun u hu => ?_⟩
  have h3 := this.2
  rw [hu] at h3
  simpa using h3

theorem skip_dsts {B : Nat → Nat → Bool} {t : Nat} {b : Bool} {k : Nat} {g : Seg} {R : List Rec} (hs : SegOk B P (strip ops t b k g.cnt) n (List.range' k g.cnt) g R) (h : skipOk ops t b k g = true) : ∀ r ∈ R, r.o.dst ≠ some t := by
  intro r hr
  have hi := (recs_mem hs r.i).1 ⟨r, hr, rfl⟩
  rw [List.mem_range'_1] at hi
  obtain ⟨later, done, _, hg⟩ := ((recs_good _ [] R .nil hs.recs).1).split hr
  cases hg with
  | cons _ _ _ hop _ _ _ =>
    rw [strip_get] at hop
    cases ho : ops[r.i]? with
    | none => rw [ho] at hop; cases hop
    | some o =>
      rw [ho] at hop
      simp only [Option.map_some, Option.some.injEq] at hop
      have := (skip_get h hi.1 hi.2 ho).2.1
      rw [← hop]
      split <;> exact this

theorem le_textG : ∀ (gs : List (Pre × Seg)) (k : Nat), textOkG P ops n k gs = true → k ≤ ops.size
  | [], k, h => by simp only [textOkG, beq_iff_eq] at h; omega
  | (p, g) :: gs, k, h => by
    simp only [textOkG, Bool.and_eq_true] at h
    have := le_textG gs _ h.2
    omega

theorem skip_chunk {t : Nat} {b x : Bool} {k : Nat} {g : Seg} {s : S} (hk : skipOk ops t b k g = true) (hx : x ≠ b) (hsz : k + g.cnt ≤ ops.size) {ys : List Nat} (hys : ∀ a w F σ, StRel K X base w0 F0 m0 σ0 n (skipS s (keepG g)) a w F σ → wpOps P ops Q ys a w) :
    ∀ (m j : Nat) (a : Act) (w : World), j + m = g.cnt → Skip K X base w0 F0 m0 σ0 n t x (skipS s (keepG g)) a w → wpOps P ops Q (List.range' (k + j) m ++ ys) a w
  | 0, j, a, w, hj, ⟨_, F, σ, hs⟩ => by simpa using hys a w F σ hs
  | m + 1, j, a, w, hj, hs => by
    rw [List.range'_succ, List.cons_append, wpOps_cons]
    have hlt : k + j < ops.size := by omega
    obtain ⟨h1, h2, h3⟩ := skip_get hk (i := k + j) (by omega) (by omega) (Array.getElem?_eq_getElem hlt)
    exact skip_op (Array.getElem?_eq_getElem hlt) h1 hs.1 hx (skip_chunk hk hx hsz hys m (j + 1) _ w (by omega) (hs.step h2 h3))

theorem text_opsG (hK : K.Sound P) : ∀ (gs : List (Pre × Seg)) (k : Nat) (s s' : S) (a : Act) (w : World) (F : Nat → Prop) (σ : Nat → Option Loc), textOkG P ops n k gs = true → evSegsG m0 K s gs = some s' → StRel K X base w0 F0 m0 σ0 n s a w F σ →
    (∀ a w F σ, StRel K X base w0 F0 m0 σ0 n s' a w F σ → Q .normal a w) → wpOps P ops Q (List.range' k (ops.size - k)) a w
  | [], k, s, s', a, w, F, σ, hok, hev, hst, hQ => by
    simp only [textOkG, beq_iff_eq] at hok
    subst hok
    obtain rfl := Option.some.inj hev
    simp only [Nat.sub_self, List.range'_zero, wpOps]
    exact hQ _ _ _ _ hst
  | (p, g) :: gs, k, s, s', a, w, F, σ, hok, hev, hst, hQ => by
    simp only [textOkG, Bool.and_eq_true] at hok
    obtain ⟨hok1, hok2⟩ := hok
    have hk2 := le_textG gs _ hok2
    have hsplit : List.range' k (ops.size - k) = List.range' (k + 0) g.cnt ++ List.range' (k + g.cnt) (ops.size - (k + g.cnt)) := by
      have : ops.size - k = g.cnt + (ops.size - (k + g.cnt)) := by omega
      rw [this, ← List.range'_append_1]
      simp
    obtain ⟨F, σ, hst⟩ := hst.freezeL p.fz
    simp only [evSegsG] at hev
    generalize frzL m0 p.fz s = s0 at hst hev
    cases hg : evSegG K s0 p g with
    | none => simp [hg] at hev
    | some s2 =>
      simp only [hg] at hev
      have rest : ∀ a w F σ, StRel K X base w0 F0 m0 σ0 n s2 a w F σ → wpOps P ops Q (List.range' (k + g.cnt) (ops.size - (k + g.cnt))) a w := fun a w F σ hst2 => text_opsG hK gs (k + g.cnt) s2 s' a w F σ hok2 hev hst2 hQ
      have start : (fun i => k ≤ i ∧ i < k + 0) = fun _ => False := by
        funext i
        simp only [eq_iff_iff, iff_false]
        omega
      rw [hsplit]
      unfold pieceOkG at hok1
      unfold evSegG at hg
      cases hsg : p.sg with
      | none =>
        simp only [hsg] at hok1 hg
        obtain ⟨R, s1, T, news, l, hf⟩ := full_of (X := X) (base := base) (w0 := w0) (F0 := F0) (m0 := m0) (σ0 := σ0) hok1 hK hg hst.dom hst.nxm hst.xm
        refine chunk hf rfl (fun _ _ _ _ _ _ h => h) rest g.cnt 0 a w (by omega) ?_
        rw [start]
        exact stage_start hf.traced hst
      | some q =>
        obtain ⟨t, b⟩ := q
        simp only [hsg, Bool.and_eq_true] at hok1 hg
        obtain ⟨hk1, hk3⟩ := hok1
        split at hg
        case h_2 => cases hg
        rename_i cc x hl
        split at hg
        · rename_i hxb
          subst hxb
          obtain ⟨R, s1, T, news, l, hf⟩ := full_of (X := X) (base := base) (w0 := w0) (F0 := F0) (m0 := m0) (σ0 := σ0) hk1 hK hg hst.dom hst.nxm hst.xm
          refine chunk hf rfl (fun D a w i Kn hs h => strip_op (stage_truth hf hs hl (skip_dsts hf.seg hk3)) h) rest g.cnt 0 a w (by omega) ?_
          rw [start]
          exact stage_start hf.traced hst
        · rename_i hxb
          obtain rfl := Option.some.inj hg
          exact skip_chunk hk3 hxb hk2 rest g.cnt 0 a w (by omega) ⟨hst.truth hl, F, σ, hst.skip _⟩

theorem text_regionG {id : Nat} {gs : List (Pre × Seg)} {s s' : S} {a : Act} {w : World} {F : Nat → Prop} {σ : Nat → Option Loc} (hK : K.Sound P) (hok : textOkG P ops n 0 gs = true) (hev : evSegsG m0 K s gs = some s') (hst : StRel K X base w0 F0 m0 σ0 n s a w F σ)
    (hQ : ∀ a w F σ, StRel K X base w0 F0 m0 σ0 n s' a w F σ → Q .normal a w) : (Code.region id ops false).wp P Q a w := by
  refine wp_region ?_
  have := text_opsG (Q := Q) hK gs 0 s s' a w F σ hok hev hst hQ
  rw [List.range_eq_range']
  simpa using this

theorem le_drawnG {tab : List (List Nat)} : ∀ (gs : List (Pre × Seg)) (k : Nat), drawnOksG P ops n tab k gs = true → k ≤ ops.size
  | [], k, h => by simp only [drawnOksG, beq_iff_eq] at h; omega
  | (p, g) :: gs, k, h => by
    simp only [drawnOksG, Bool.and_eq_true] at h
    have := le_drawnG gs _ h.2
    omega

theorem any_opsG (hK : K.Sound P) {tab : List (List Nat)} (ht : Tab ops tab) : ∀ (gs : List (Pre × Seg)) (k : Nat) (s s' : S), drawnOksG P ops n tab k gs = true → evSegsG m0 K s gs = some s' → (∀ a w F σ, StRel K X base w0 F0 m0 σ0 n s' a w F σ → Q .normal a w) →
    ∀ (fuel : Nat) (listed : Array Bool) (a : Act) (w : World) (F : Nat → Prop) (σ : Nat → Option Loc), listed.size = ops.size → unlisted listed ops.size ≤ fuel → (∀ i, i < k → listed.getD i false = true) → (∀ i, k ≤ i → listed.getD i false = false) → StRel K X base w0 F0 m0 σ0 n s a w F σ → wpAny P .any ops Q fuel listed a w
  | [], k, s, s', hok, hev, hQ, fuel, listed, a, w, F, σ, hsz, hfuel, hlo, hhi, hst => by
    simp only [drawnOksG, beq_iff_eq] at hok
    subst hok
    obtain rfl := Option.some.inj hev
    have hr : Region.ready .any ops listed = [] := by
      cases hr : Region.ready .any ops listed with
      | nil => rfl
      | cons i t =>
        have : i ∈ Region.ready .any ops listed := by rw [hr]; simp
        obtain ⟨h1, h2, _⟩ := mem_ready.1 this
        rw [dd_eq listed i hsz h1, hlo i h1] at h2
        cases h2
    cases fuel with
    | zero => exact ⟨hr, hQ _ _ _ _ hst⟩
    | succ fuel => exact ⟨fun _ => hQ _ _ _ _ hst, fun i hi => by rw [hr] at hi; simp at hi⟩
  | (p, g) :: gs, k, s, s', hok, hev, hQ, fuel, listed, a, w, F, σ, hsz, hfuel, hlo, hhi, hst => by
    simp only [drawnOksG, Bool.and_eq_true] at hok
    obtain ⟨⟨hok1, hok2⟩, hok3⟩ := hok
    have hkc := le_drawnG gs _ hok3
    obtain ⟨F, σ, hst⟩ := hst.freezeL p.fz
    simp only [evSegsG] at hev
    generalize frzL m0 p.fz s = s0 at hst hev
    cases hg : evSegG K s0 p g with
    | none => simp [hg] at hev
    | some s2 =>
      simp only [hg] at hev
      have rest : ∀ fuel listed a w F σ, listed.size = ops.size → unlisted listed ops.size ≤ fuel → (∀ i, i < k + g.cnt → listed.getD i false = true) → (∀ i, k + g.cnt ≤ i → listed.getD i false = false) → StRel K X base w0 F0 m0 σ0 n s2 a w F σ → wpAny P .any ops Q fuel listed a w :=
        fun fuel listed a w F σ h1 h2 h3 h4 hst2 => any_opsG hK ht gs (k + g.cnt) s2 s' hok3 hev hQ fuel listed a w F σ h1 h2 h3 h4 hst2
      have hbar : ∀ i, k + g.cnt ≤ i → i < ops.size → ∀ j, j < k + g.cnt → tabB tab j i = true := by
        intro i h1 h2 j hj
        cases gs with
        | nil =>
          simp only [drawnOksG, beq_iff_eq] at hok3
          omega
        | cons g2 gs2 =>
          obtain ⟨p2, g2⟩ := g2
          simp only [drawnOksG, Bool.and_eq_true, List.all_eq_true] at hok3
          exact hok3.1.2 i (by rw [List.mem_range'_1]; omega) j (by simpa using hj)
      have hdn : ∀ i, i < ops.size → listed.getD i false = true → ∀ j, tabB tab j i = true → listed.getD j false = true := by
        intro i hi hil j hj
        have hik : i < k := by
          rcases Nat.lt_or_ge i k with h | h
          · exact h
          · rw [hhi i h] at hil; cases hil
        have hclo : ∀ i, i < ops.size → ∀ j, tabB tab j i = true → j < i := by
          intro i
          induction i using Nat.strongRecOn with
          | _ i ih =>
            intro hi j hj
            simp only [tabB, List.contains_eq_mem, decide_eq_true_eq] at hj
            obtain ⟨e, he, h4⟩ := ht.clo i ops[i] (by simp [hi]) j hj
            have hei := ht.lt i ops[i] (by simp [hi]) e he
            rcases h4 with rfl | h4
            · exact hei
            · have := ih e hei (by omega) j (by simpa [tabB] using h4)
              omega
        exact hlo j (by have := hclo i hi j hj; omega)
      have hh : ∀ i, k + g.cnt ≤ i → listed.getD i false = false := fun i hi => hhi i (by omega)
      unfold pieceOkG at hok1
      unfold evSegG at hg
      cases hsg : p.sg with
      | none =>
        simp only [hsg] at hok1 hg
        obtain ⟨R, s1, T, news, l, hf⟩ := full_of (X := X) (base := base) (w0 := w0) (F0 := F0) (m0 := m0) (σ0 := σ0) hok1 hK hg hst.dom hst.nxm hst.xm
        refine any_chunk ht hf (fun _ _ _ _ _ _ h => h) rfl hbar hkc rest fuel listed a w hsz hfuel hlo hh hdn ?_
        refine (stage_start (P := P) (ops := ops) (B := tabB tab) (R := R) (s' := s2) hf.traced hst).congr (fun r hr => ?_)
        have := (recs_mem hf.seg r.i).1 ⟨r, hr, rfl⟩
        rw [List.mem_range'_1] at this
        rw [hhi r.i this.1]
        simp
      | some q =>
        obtain ⟨t, b⟩ := q
        simp only [hsg, Bool.and_eq_true] at hok1 hg
        obtain ⟨hk1, hk3⟩ := hok1
        split at hg
        case h_2 => cases hg
        rename_i cc x hl
        split at hg
        · rename_i hxb
          subst hxb
          obtain ⟨R, s1, T, news, l, hf⟩ := full_of (X := X) (base := base) (w0 := w0) (F0 := F0) (m0 := m0) (σ0 := σ0) hk1 hK hg hst.dom hst.nxm hst.xm
          refine any_chunk ht hf (fun D a w i Kn hs h => strip_op (stage_truth hf hs hl (skip_dsts hf.seg hk3)) h) rfl hbar hkc rest fuel listed a w hsz hfuel hlo hh hdn ?_
          refine (stage_start (P := P) (ops := strip ops t x k g.cnt) (B := tabB tab) (R := R) (s' := s2) hf.traced hst).congr (fun r hr => ?_)
          have := (recs_mem hf.seg r.i).1 ⟨r, hr, rfl⟩
          rw [List.mem_range'_1] at this
          rw [hhi r.i this.1]
          simp
        · rename_i hxb
          obtain rfl := Option.some.inj hg
          refine any_chunk0 (cnt := g.cnt) ht (fun _ => Skip K X base w0 F0 m0 σ0 n t x (skipS s0 (keepG g))) (fun D a w i Kn hi1 hi2 _ _ _ hs hKn => ?_) hbar hkc (fun fuel listed a w q1 q2 q3 q4 ⟨_, _, _, F, σ, hs⟩ => rest fuel listed a w F σ q1 q2 q3 q4 hs) fuel listed a w hsz hfuel hlo hh hdn ⟨hst.truth hl, F, σ, hst.skip _⟩
          have hlt : i < ops.size := by omega
          obtain ⟨h1, h2, h3⟩ := skip_get hk3 hi1 hi2 (Array.getElem?_eq_getElem hlt)
          exact skip_op (Array.getElem?_eq_getElem hlt) h1 hs.1 hxb (hKn _ w (hs.step h2 h3))

theorem drawn_regionG {id : Nat} {gs : List (Pre × Seg)} {s s' : S} {a : Act} {w : World} {F : Nat → Prop} {σ : Nat → Option Loc} (hm : P.follows .mixedOrders = true) (hK : K.Sound P) (hok : drawnOkG P ops n gs = true) (hev : evSegsG m0 K s gs = some s') (hst : StRel K X base w0 F0 m0 σ0 n s a w F σ)
    (hQ : ∀ a w F σ, StRel K X base w0 F0 m0 σ0 n s' a w F σ → Q .normal a w) : (Code.region id ops true).wp P Q a w := by
  simp only [drawnOkG, Bool.and_eq_true] at hok
  refine wp_region_any hm ?_
  have hno : ∀ i, (Array.replicate ops.size false).getD i false = false := by
    intro i
    simp only [Array.getD_eq_getD_getElem?, Array.getElem?_replicate]
    split <;> rfl
  refine any_opsG hK (tab_of hok.2) gs 0 s s' hok.1 hev hQ ops.size _ a _ F σ (by simp) ?_ (fun i hi => by omega) (fun i _ => hno i) (hst.drawn _)
  unfold unlisted
  refine Nat.le_trans (List.length_filter_le _ _) ?_
  simp

end Go.Vm
end

section
namespace Go.Vm
open Go.RowKit

variable {P : Program} {K : Cx} {n : Nat} {X : Nat → Nat → Prop} {base : Nat} {w0 : World} {F0 : Nat → Prop} {m0 : Nat} {σ0 : Nat → Option Loc} {Q : Exit → Act → World → Prop}

def one : List Seg → Option Seg
  | [g] => some g
  | _ => none

def chk (P : Program) (m n : Nat) : C → Code → Bool
  | .stuck, _ => true
  | .skip, .skip => true
  | .reg l, .region _ ops draw => if draw then drawnOk P ops n l else textOk P ops n 0 l
  | .seq (.tidy m' _) b, c => m' == m && chk P m n b c
  | .seq (.own t _) b, c => decide (t < n) && chk P m n b c
  | .seq (.frz m' _ _) b, c => (m' == m) && chk P m n b c
  | .seq (.ownc _ _ _) b, c => chk P m n b c
  | .regg m' l, .region _ ops draw => (m' == m) && if draw then drawnOkG P ops n l else textOkG P ops n 0 l
  | .seq a b, .seq x y => chk P m n a x && chk P m n b y
  | .cond e a b, .cond c x y => decide (operE P [] 0 c = some e) && chk P m n a x && chk P m n b y
  | .block id c, .block id' x => id == id' && chk P m n c x
  | .loop c, .loop x => chk P m n c x
  | .exit id, .exit id' => id == id'
  | .scope c ls, .scope x => chk P m n c x && chk P m n ls x
  | .lnil, _ => true
  | .lcons l c ls, x => (match findLabel x l with | some rest => chk P m n c rest | none => false) && chk P m n ls x
  | .label l, .label l' => l == l'
  | .goto l, .goto l' => l == l'
  | .ret, .ret => true
  | _, _ => false

def Ex.to : Ex → Exit
  | .nrm => .normal
  | .exit id => .exit id
  | .goto l => .goto l
  | .ret => .ret

def Post (K : Cx) (X : Nat → Nat → Prop) (base : Nat) (w0 : World) (F0 : Nat → Prop) (m0 : Nat) (σ0 : Nat → Option Loc) (n : Nat) (r : Ex × S) (e : Exit) (a : Act) (w : World) : Prop :=
  e = r.1.to ∧ ∃ F σ, StRel K X base w0 F0 m0 σ0 n r.2 a w F σ

theorem look_tidy (H : List (Nat × Blk)) (bs0 : List Nat) : ∀ (bs : List Nat) (k i : Nat) (x : Blk), look ((bs.zipIdx k).filterMap fun p => (look H p.1).map fun blk => (p.2, blk.ren bs0.idxOf)) i = some x → k ≤ i ∧ ∃ b x0, bs[i - k]? = some b ∧ look H b = some x0 ∧ x = x0.ren bs0.idxOf
  | [], k, i, x, h => by simp [look] at h
  | b :: bs, k, i, x, h => by
    simp only [List.zipIdx_cons, List.filterMap_cons] at h
    have rest : look ((bs.zipIdx (k + 1)).filterMap fun p => (look H p.1).map fun blk => (p.2, blk.ren bs0.idxOf)) i = some x → k ≤ i ∧ ∃ b' x0, (b :: bs)[i - k]? = some b' ∧ look H b' = some x0 ∧ x = x0.ren bs0.idxOf := by
      intro h
      obtain ⟨h1, b', x0, h2, h3, h4⟩ := look_tidy H bs0 bs (k + 1) i x h
      refine ⟨by omega, b', x0, ?_, h3, h4⟩
      have : i - k = (i - (k + 1)) + 1 := by omega
      rw [this, List.getElem?_cons_succ]
      exact h2
    cases hb : look H b with
    | none =>
      simp only [hb, Option.map_none] at h
      exact rest h
    | some x0 =>
      simp only [hb, Option.map_some, look] at h
      split at h
      · rename_i he
        subst he
        exact ⟨Nat.le_refl _, b, x0, by simp, hb, (Option.some.inj h).symm⟩
      · exact rest h

theorem StRel.tidy {s s' : S} {a : Act} {w : World} {F : Nat → Prop} {σ : Nat → Option Loc} {slots : List Nat} (ht : tidyS m0 slots s = some s') (h : StRel K X base w0 F0 m0 σ0 n s a w F σ) : ∃ σ', StRel K X base w0 F0 m0 σ0 n s' a w F σ' := by
  unfold tidyS at ht
  simp only at ht
  split at ht
  case isFalse => cases ht
  rename_i hc
  obtain rfl := Option.some.inj ht
  generalize hbs : reachB s.heap 64 [] (List.range m0 ++ refsL ((restrict s.rho slots).map (·.2))) = bs at hc
  simp only [Bool.and_eq_true, decide_eq_true_eq, List.all_eq_true] at hc
  obtain ⟨⟨⟨hnd, hpre⟩, hwi⟩, hcl⟩ := hc
  simp only [closedB, List.all_eq_true] at hcl
  have hF : ∀ b, F b → F b ∧ w.heap[b]? = w.heap[b]? := fun b hb => ⟨hb, rfl⟩
  have hσ : ∀ b l, bs.contains b = true → σ b = some l → inn bs σ (bs.idxOf b) = some l := fun b l h1 h2 => by rw [inn_idx (by simpa using h1)]; exact h2
  refine ⟨inn bs σ, ⟨fun i x hx => ?_, fun i j l l' h1 h2 he => ?_, fun i l hi => ?_, h.heap.fro⟩, h.glob, h.le, h.frame, h.frz, h.size, h.dfr, fun t v hv => ?_, fun i x hx => ?_, fun b l hb h0 hm => ?_, ?_, h.xm, h.sub⟩
  · obtain ⟨_, b, x0, h1, h2, rfl⟩ := look_tidy s.heap bs bs 0 i x hx
    rw [Nat.sub_zero] at h1
    have hσi : inn bs σ i = σ b := by unfold inn; rw [h1]
    have hb := hcl b (List.mem_of_getElem? h1)
    rw [h2] at hb
    exact (h.heap.blk b x0 h2).ren (w' := w) (F' := F) (p := bs.contains) hF (fun _ _ h => h) hσ hb (fun l hl => by rw [hσi]; exact hl) (fun hl => by rw [hσi]; exact hl) (fun _ _ => rfl)
  · obtain ⟨b, hb1, h3⟩ := inn_some h1
    obtain ⟨b', hb2, h4⟩ := inn_some h2
    obtain rfl := h.heap.inj b b' l l' h3 h4 he
    exact (List.getElem?_inj (List.getElem?_eq_some_iff.1 hb1).1 hnd).1 (hb1.trans hb2.symm)
  · obtain ⟨b, hb1, h3⟩ := inn_some hi
    obtain ⟨_, o2, o3, o4⟩ := h.heap.own b l h3
    refine ⟨(List.getElem?_eq_some_iff.1 hb1).1, o2, o3.imp id (fun hx => ?_), o4⟩
    have hbm := h.xm b _ hx
    have : bs[b]? = some b := by
      have : (bs.take m0)[b]? = some b := by rw [hpre]; simp [hbm]
      simpa [List.getElem?_take, hbm] using this
    have := (List.getElem?_inj (List.getElem?_eq_some_iff.1 hb1).1 hnd).1 (hb1.trans this.symm)
    rw [this]
    exact hx
  · simp only at hv
    rw [show ((restrict s.rho slots).map fun p => (p.1, p.2.ren bs.idxOf)) = (restrict s.rho slots).map fun (t, v) => (t, (V.ren bs.idxOf) v) from rfl, look_mapV] at hv
    simp only [Option.map_eq_some_iff] at hv
    obtain ⟨v0, h1, rfl⟩ := hv
    have hm := look_mem _ _ _ h1
    exact ((h.rho t v0 (look_restrict _ _ _ _ h1).2).ren (base' := base) (fun _ _ h => h) hσ (hwi _ hm))
  · obtain ⟨_, b, x0, h1, _⟩ := look_tidy s.heap bs bs 0 i x hx
    rw [Nat.sub_zero] at h1
    exact (List.getElem?_eq_some_iff.1 h1).1
  · have hb2 : bs[b]? = some b := by
      have : (bs.take m0)[b]? = some b := by rw [hpre]; simp [hb]
      simpa [List.getElem?_take, hb] using this
    unfold inn
    rw [hb2]
    refine h.stab b l hb h0 fun hm' => hm ?_
    simp only [List.mem_filter, List.mem_range]
    exact ⟨hb, by simpa using hm'⟩
  · have := congrArg List.length hpre
    simp only [List.length_take, List.length_range] at this
    show m0 ≤ bs.length
    omega

theorem StRel.own {s : S} {a : Act} {w : World} {F : Nat → Prop} {σ : Nat → Option Loc} {t k k' : Nat} {c : Bool} (hl : look s.rho t = some (.fs c k' [])) (h : StRel K X base w0 F0 m0 σ0 n s a w F σ) :
    StRel K X base w0 F0 m0 σ0 n ⟨put s.rho t (.bsl s.nx 0 0), (s.nx, .dat true k []) :: s.heap, s.nx + 1, s.mv⟩ a w F σ := by
  have hnone : σ s.nx = none := by
    cases hs : σ s.nx with
    | none => rfl
    | some l => have := (h.heap.own _ l hs).1; omega
  refine ⟨⟨fun b blk hb => ?_, h.heap.inj, fun b l hb => ⟨by have := (h.heap.own b l hb).1; show b < s.nx + 1; omega, (h.heap.own b l hb).2⟩, h.heap.fro⟩, h.glob, h.le, h.frame, h.frz, h.size, h.dfr, fun u v hv => ?_, fun b blk hb => ?_, h.stab, by have := h.nxm; show m0 ≤ s.nx + 1; omega, h.xm, h.sub⟩
  · simp only [look] at hb
    split at hb
    · rename_i he
      subst he
      obtain rfl := Option.some.inj hb
      exact .inl ⟨rfl, hnone⟩
    · exact h.heap.blk b blk hb
  · simp only at hv
    rw [look_put] at hv
    split at hv
    · rename_i he
      subst he
      obtain rfl := Option.some.inj hv
      have := h.rho t _ hl
      generalize a.tmps.getD t undef = u at this ⊢
      cases this with
      | fs _ ad len _ _ hd =>
        cases hd with
        | sl0 => exact .bsl0 _ _ _
        | sl b o l cap k rows g h1 => simp at h1; subst h1; exact .bsl0 _ _ _
    · exact h.rho u v hv
  · simp only [look] at hb
    split at hb
    · rename_i he; show b < s.nx + 1; omega
    · have := h.dom b blk hb; show b < s.nx + 1; omega

theorem StRel.ownc {s : S} {a : Act} {w : World} {F : Nat → Prop} {σ : Nat → Option Loc} (t j k : Nat) (h : StRel K X base w0 F0 m0 σ0 n s a w F σ) : StRel K X base w0 F0 m0 σ0 n (owncS t j k s) a w F σ := by
  unfold owncS
  split
  case h_2 => exact h
  rename_i b hb
  split
  case h_2 => exact h
  rename_i k0 row hrow
  split
  case h_2 => exact h
  rename_i c k' hj
  split
  case isFalse => exact h
  have hnone : σ s.nx = none := by
    cases hs : σ s.nx with
    | none => rfl
    | some l => have := (h.heap.own _ l hs).1; omega
  refine ⟨⟨fun i blk hi => ?_, h.heap.inj, fun b l hb => ⟨by have := (h.heap.own b l hb).1; show b < s.nx + 1; omega, (h.heap.own b l hb).2⟩, h.heap.fro⟩, h.glob, h.le, h.frame, h.frz, h.size, h.dfr, h.rho, fun i blk hi => ?_, h.stab, by have := h.nxm; show m0 ≤ s.nx + 1; omega, h.xm, h.sub⟩
  · simp only [look] at hi
    split at hi
    · rename_i he
      subst he
      obtain rfl := Option.some.inj hi
      exact .inl ⟨rfl, hnone⟩
    · rw [look_put] at hi
      split at hi
      · rename_i he
        subst he
        obtain rfl := Option.some.inj hi
        rcases h.heap.blk b _ hrow with ⟨hz, _⟩ | ⟨_, _, _, _, hmap, _⟩ | ⟨lb, cs, T, q1, q2, q3, q4, q5, q6, q7⟩
        · simp [Blk.n] at hz
        · cases hmap
        · refine .inr (.inr ⟨lb, cs, T, q1, q2, q3, q4, q5, fun i r hr => ?_, rfl⟩)
          cases i with
          | succ i => simp [Blk.row?] at hr
          | zero =>
            simp only [Blk.row?, List.getElem?_cons_zero, Option.some.injEq] at hr
            subst hr
            obtain ⟨g1, g2⟩ := q6 0 row rfl
            refine ⟨by simpa [Blk.k] using g1, fun jj x hx => ?_⟩
            by_cases hjj : j = jj
            · subst hjj
              have hlt : j < row.length := (List.getElem?_eq_some_iff.1 hj).1
              rw [List.getElem?_set_self (by simpa using hlt)] at hx
              obtain rfl := Option.some.inj hx
              obtain ⟨v, g3, g4, g5⟩ := g2 j _ hj
              refine ⟨v, g3, g4, ?_⟩
              cases g5 with
              | fs _ ad len _ _ hd =>
                cases hd with
                | sl0 => exact .bsl0 _ _ _
                | sl b o l cap k rows g h1 => simp at h1; subst h1; exact .bsl0 _ _ _
            · rw [List.getElem?_set_ne hjj] at hx
              exact g2 jj x hx
      · exact h.heap.blk i blk hi
  · simp only [look] at hi
    split at hi
    · rename_i he; show i < s.nx + 1; omega
    · rw [look_put] at hi
      split at hi
      · rename_i he; subst he; have := h.dom _ _ hrow; show b < s.nx + 1; omega
      · have := h.dom i blk hi; show i < s.nx + 1; omega

theorem wp_loop_rounds {c : Code} (J : Nat → Act → World → Prop) (h0 : ∀ a w, ¬ J 0 a w) (round : ∀ m a w, J (m + 1) a w → c.wp P (Exit.then (J m) Q) a w) {m : Nat} {a : Act} {w : World} (h : J m a w) : (Code.loop c).wp P Q a w := by
  intro b k cs
  have key : ∀ m a w, J m a w → ∃ e a' w', Q e a' w' ∧ Arrives P (lone (b.at a (.code c :: .inLoop c :: k)) cs w) b k cs e a' w' := by
    intro m
    induction m with
    | zero => intro a w h; exact absurd h (h0 a w)
    | succ m ih =>
      intro a w hI
      obtain ⟨e, a₁, w₁, hq, harr⟩ := round m a w hI b (.inLoop c :: k) cs
      cases e with
      | normal =>
        obtain ⟨e₂, a₂, w₂, hq₂, harr₂⟩ := ih a₁ w₁ hq
        exact ⟨e₂, a₂, w₂, hq₂, .of_steps (Steps.trans harr (.one step_inLoop)) harr₂⟩
      | exit id => exact ⟨_, a₁, w₁, hq, .pass (x := .inLoop c) rfl (fun _ _ => .inl (by simp)) harr⟩
      | goto l => exact ⟨_, a₁, w₁, hq, .pass (x := .inLoop c) rfl (fun _ _ => .inl (by simp)) harr⟩
      | ret => exact ⟨_, a₁, w₁, hq, .pass (x := .inLoop c) rfl (fun _ _ => .inl (by simp)) harr⟩
      | panic ch => exact ⟨_, a₁, w₁, hq, .pass (x := .inLoop c) rfl (fun _ _ => .inl (by simp)) harr⟩
      | outgrown => exact ⟨_, a₁, w₁, hq, .pass (x := .inLoop c) rfl (fun _ _ => .inl (by simp)) harr⟩
  obtain ⟨e, a', w', hq, harr⟩ := key m a w h
  exact ⟨e, a', w', hq, .of_steps (.one step_loop) harr⟩

theorem held_done {a : Act} {w : World} {F : Nat → Prop} {σ : Nat → Option Loc} {s : S} (h : StRel K X base w0 F0 m0 σ0 n s a w F σ) {x : Operand} {t : TypeId} {e : E} {r : V} (he : operE P [] t x = some e) (hr : ev K s e = some r) : RepV w F base σ (a.eval x) r := by
  have : Held P K s [] w F base σ a x := by
    cases x with
    | const v => exact held_const
    | global g => exact held_glob h.glob
    | func f => exact held_func
    | tmp t =>
      refine held_tmp fun r hr => ?_
      simp only [Env.get, look, ev] at hr
      exact h.rho t r hr
  exact this t e r he hr

def Exit.jumpR (J : Nat → Act → World → Prop) (Q : Exit → Act → World → Prop) : Exit → Act → World → Prop
  | .goto l, a, w => J l a w
  | e, a, w => Q e a w

theorem wp_scope_rounds {c : Code} (J : Nat → Nat → Act → World → Prop) (h0 : ∀ l a w, ¬ J 0 l a w) (round : ∀ m l a w, J (m + 1) l a w → ∃ rest, findLabel c l = some rest ∧ rest.wp P (Exit.jumpR (J m) Q) a w) {m : Nat} {a : Act} {w : World} (first : c.wp P (Exit.jumpR (J m) Q) a w) : (Code.scope c).wp P Q a w := by
  intro b k cs
  have key : ∀ m l rest a w, findLabel c l = some rest → J m l a w → ∃ e a' w', Q e a' w' ∧ Arrives P (lone (b.at a (.code rest :: .inScope c :: k)) cs w) b k cs e a' w' := by
    intro m
    induction m with
    | zero => intro l rest a w _ h; exact absurd h (h0 l a w)
    | succ m ih =>
      intro l rest a w hf hJ
      obtain ⟨rest', hf', hwp⟩ := round m l a w hJ
      rw [hf] at hf'
      obtain rfl := Option.some.inj hf'
      obtain ⟨e, a₁, w₁, hq, harr⟩ := hwp b (.inScope c :: k) cs
      cases e with
      | normal => exact ⟨.normal, a₁, w₁, hq, Steps.trans harr (.one step_inScope)⟩
      | exit id => exact ⟨.exit id, a₁, w₁, hq, fun k' hk => harr k' (by simp [exitTo, hk])⟩
      | goto l' =>
        have hq' : J m l' a₁ w₁ := hq
        cases m with
        | zero => exact absurd hq' (h0 l' a₁ w₁)
        | succ m =>
          obtain ⟨rest2, hf2, _⟩ := round m l' a₁ w₁ hq'
          obtain ⟨e₂, a₂, w₂, hq₂, harr₂⟩ := ih l' rest2 a₁ w₁ hf2 hq'
          have hg : gotoIn l' (.inScope c :: k) = some (.code rest2 :: .inScope c :: k) := by simp [gotoIn, hf2]
          exact ⟨e₂, a₂, w₂, hq₂, .of_steps (harr _ hg) harr₂⟩
      | ret => exact ⟨_, a₁, w₁, hq, harr⟩
      | panic ch => exact ⟨_, a₁, w₁, hq, harr⟩
      | outgrown => exact ⟨_, a₁, w₁, hq, harr⟩
  obtain ⟨e, a₁, w₁, hq, harr⟩ := first b (.inScope c :: k) cs
  cases e with
  | normal => exact ⟨.normal, a₁, w₁, hq, .head step_scope (Steps.trans harr (.one step_inScope))⟩
  | exit id => exact ⟨.exit id, a₁, w₁, hq, fun k' hk => .head step_scope (harr k' (by simp [exitTo, hk]))⟩
  | goto l' =>
    have hq' : J m l' a₁ w₁ := hq
    cases m with
    | zero => exact absurd hq' (h0 l' a₁ w₁)
    | succ m =>
      obtain ⟨rest2, hf2, _⟩ := round m l' a₁ w₁ hq'
      obtain ⟨e₂, a₂, w₂, hq₂, harr₂⟩ := key _ l' rest2 a₁ w₁ hf2 hq'
      have hg : gotoIn l' (.inScope c :: k) = some (.code rest2 :: .inScope c :: k) := by simp [gotoIn, hf2]
      exact ⟨e₂, a₂, w₂, hq₂, .of_steps (.head step_scope (harr _ hg)) harr₂⟩
  | ret => exact ⟨_, a₁, w₁, hq, .of_steps (.one step_scope) harr⟩
  | panic ch => exact ⟨_, a₁, w₁, hq, .of_steps (.one step_scope) harr⟩
  | outgrown => exact ⟨_, a₁, w₁, hq, .of_steps (.one step_scope) harr⟩

theorem exec_both (hm : P.follows .mixedOrders = true) (hK : K.Sound P) : ∀ (c : C), (∀ (code : Code) (s : S) (r : Ex × S) (a : Act) (w : World) (F : Nat → Prop) (σ : Nat → Option Loc), chk P m0 n c code = true → exec K c s = some r → StRel K X base w0 F0 m0 σ0 n s a w F σ →
    code.wp P (Post K X base w0 F0 m0 σ0 n r) a w) ∧
    ∀ (code : Code) (l : Nat) (g : S → Option (Ex × S)), chk P m0 n c code = true → exec.labelled K c l = some g → ∃ rest, findLabel code l = some rest ∧ ∀ (s : S) (r : Ex × S) (a : Act) (w : World) (F : Nat → Prop) (σ : Nat → Option Loc), g s = some r → StRel K X base w0 F0 m0 σ0 n s a w F σ → rest.wp P (Post K X base w0 F0 m0 σ0 n r) a w := by
  intro c
  induction c with
  | skip =>
    refine ⟨?_, fun code l g _ h => by simp [exec.labelled] at h⟩
    intro code s r a w F σ hc he hs
    cases code <;> simp only [chk] at hc <;> (try (cases hc; done))
    simp only [exec, Option.some.injEq] at he
    subst he
    exact wp_skip ⟨rfl, F, σ, hs⟩
  | ownc t j k =>
    refine ⟨?_, fun code l g _ h => by simp [exec.labelled] at h⟩
    intro code s r a w F σ hc he hs
    cases code <;> simp [chk] at hc
  | regg m' l =>
    refine ⟨?_, fun code l g _ h => by simp [exec.labelled] at h⟩
    intro code s r a w F σ hc he hs
    cases code <;> simp only [chk] at hc <;> (try (cases hc; done))
    rename_i id ops draw
    simp only [Bool.and_eq_true] at hc
    obtain ⟨hm', hc⟩ := hc
    obtain rfl : m' = m0 := by simpa using hm'
    simp only [exec] at he
    cases hev : evSegsG m' K s l with
    | none => simp [hev] at he
    | some s' =>
      simp only [hev, Option.some.injEq] at he
      subst he
      cases draw with
      | false =>
        simp only [Bool.false_eq_true, if_false] at hc
        exact text_regionG hK hc hev hs fun a w F σ h => ⟨rfl, F, σ, h⟩
      | true =>
        simp only [if_true] at hc
        exact drawn_regionG hm hK hc hev hs fun a w F σ h => ⟨rfl, F, σ, h⟩
  | reg l =>
    refine ⟨?_, fun code l g _ h => by simp [exec.labelled] at h⟩
    intro code s r a w F σ hc he hs
    cases code <;> simp only [chk] at hc <;> (try (cases hc; done))
    rename_i id ops draw
    simp only [exec] at he
    cases hev : evSegs K s l with
    | none => simp [hev] at he
    | some s' =>
      simp only [hev, Option.some.injEq] at he
      subst he
      cases draw with
      | false =>
        simp only [Bool.false_eq_true, if_false] at hc
        exact text_region hK hc hev hs fun a w F σ h => ⟨rfl, F, σ, h⟩
      | true =>
        simp only [if_true] at hc
        exact drawn_region hm hK hc hev hs fun a w F σ h => ⟨rfl, F, σ, h⟩
  | seq x y ihx ihy =>
    refine ⟨?_, fun code l g _ h => by simp [exec.labelled] at h⟩
    intro code s r a w F σ hc he hs
    simp only [exec] at he
    have plain : ∀ cx cy, code = .seq cx cy → chk P m0 n x cx = true → chk P m0 n y cy = true → code.wp P (Post K X base w0 F0 m0 σ0 n r) a w := by
      rintro cx cy rfl h1 h2
      cases hx : exec K x s with
      | none => simp [hx] at he
      | some p =>
        obtain ⟨ex, s'⟩ := p
        refine wp_seq (wp_mono (ihx.1 cx s _ a w F σ h1 hx hs) fun e a' w' hp => ?_)
        obtain ⟨rfl, F', σ', hs'⟩ := hp
        cases ex with
        | nrm =>
          simp only [hx] at he
          exact ihy.1 cy s' r a' w' F' σ' h2 he hs'
        | exit id => simp only [hx, Option.some.injEq] at he; subst he; exact ⟨rfl, F', σ', hs'⟩
        | goto l => simp only [hx, Option.some.injEq] at he; subst he; exact ⟨rfl, F', σ', hs'⟩
        | ret => simp only [hx, Option.some.injEq] at he; subst he; exact ⟨rfl, F', σ', hs'⟩
    by_cases hgc : ∃ m' sl, x = .tidy m' sl
    · obtain ⟨m', sl, rfl⟩ := hgc
      have hc' : (m' == m0) = true ∧ chk P m0 n y code = true := by cases code <;> simpa only [chk, Bool.and_eq_true] using hc
      obtain ⟨hm', hc'⟩ := hc'
      obtain rfl : m' = m0 := by simpa using hm'
      simp only [exec] at he
      cases hts : tidyS m' sl s with
      | none => simp [hts] at he
      | some s' =>
        simp only [hts] at he
        obtain ⟨σ', hs'⟩ := hs.tidy hts
        exact ihy.1 code _ r a w F σ' hc' he hs'
    · by_cases hown : ∃ t k, x = .own t k
      · obtain ⟨t, k, rfl⟩ := hown
        have hc' : decide (t < n) = true ∧ chk P m0 n y code = true := by cases code <;> simpa only [chk, Bool.and_eq_true] using hc
        simp only [exec] at he
        cases hl : look s.rho t with
        | none => simp [hl] at he
        | some v =>
          cases v with
          | fs c k' rows =>
            cases rows with
            | nil =>
              simp only [hl] at he
              by_cases hk : k' = k
              · simp only [hk, if_true] at he
                exact ihy.1 code _ r a w F σ hc'.2 he (hs.own hl)
              · simp [hk] at he
            | cons _ _ => simp [hl] at he
          | _ => simp [hl] at he
      · by_cases hfrz : ∃ m' t j, x = .frz m' t j
        · obtain ⟨m', t, j, rfl⟩ := hfrz
          have hc' : (m' == m0) = true ∧ chk P m0 n y code = true := by cases code <;> simpa only [chk, Bool.and_eq_true] using hc
          obtain ⟨hm', hc'⟩ := hc'
          obtain rfl : m' = m0 := by simpa using hm'
          simp only [exec] at he
          obtain ⟨F', σ', hs'⟩ := hs.freeze t j
          exact ihy.1 code _ r a w F' σ' hc' he hs'
        · by_cases hoc : ∃ t j k, x = .ownc t j k
          · obtain ⟨t, j, k, rfl⟩ := hoc
            have hc' : chk P m0 n y code = true := by cases code <;> simpa only [chk] using hc
            simp only [exec] at he
            exact ihy.1 code _ r a w F σ hc' he (hs.ownc t j k)
          · cases code with
            | seq cx cy =>
              have : chk P m0 n x cx = true ∧ chk P m0 n y cy = true := by
                cases x <;> first | (exact absurd ⟨_, _, rfl⟩ hgc) | (exact absurd ⟨_, _, rfl⟩ hown) | (exact absurd ⟨_, _, _, rfl⟩ hfrz) | (exact absurd ⟨_, _, _, rfl⟩ hoc) | (simpa only [chk, Bool.and_eq_true] using hc)
              exact plain cx cy rfl this.1 this.2
            | _ => cases x <;> first | (exact absurd ⟨_, _, rfl⟩ hgc) | (exact absurd ⟨_, _, rfl⟩ hown) | (exact absurd ⟨_, _, _, rfl⟩ hfrz) | (exact absurd ⟨_, _, _, rfl⟩ hoc) | (simp [chk] at hc)
  | cond e x y ihx ihy =>
    refine ⟨?_, fun code l g _ h => by simp [exec.labelled] at h⟩
    intro code s r a w F σ hc he hs
    cases code <;> simp only [chk] at hc <;> (try (cases hc; done))
    rename_i oc cx cy
    simp only [Bool.and_eq_true, decide_eq_true_eq] at hc
    simp only [exec] at he
    cases hv : ev K s e with
    | none => simp [hv] at he
    | some v =>
      cases v with
      | d k x =>
        cases x with
        | bool b =>
          simp only [hv] at he
          have hb := (held_done hs hc.1.1 hv).bool_inv
          refine wp_cond hb ?_
          cases b with
          | true => exact ihx.1 cx s r a w F σ hc.1.2 (by simpa using he) hs
          | false => exact ihy.1 cy s r a w F σ hc.2 (by simpa using he) hs
        | _ => simp [hv] at he
      | _ => simp [hv] at he
  | block id x ih =>
    refine ⟨?_, fun code l g _ h => by simp [exec.labelled] at h⟩
    intro code s r a w F σ hc he hs
    cases code <;> simp only [chk] at hc <;> (try (cases hc; done))
    rename_i id' cx
    simp only [Bool.and_eq_true, beq_iff_eq] at hc
    obtain ⟨rfl, hc⟩ := hc
    simp only [exec] at he
    cases hx : exec K x s with
    | none => simp [hx] at he
    | some p =>
      obtain ⟨ex, s'⟩ := p
      refine wp_block (wp_mono (ih.1 cx s _ a w F σ hc hx hs) fun e a' w' hp => ?_)
      obtain ⟨rfl, F', σ', hs'⟩ := hp
      cases ex with
      | exit i =>
        simp only [hx] at he
        simp only [Ex.to, Exit.inBlock]
        split at he
        · rename_i hi
          rw [if_pos hi]
          simp only [Option.some.injEq] at he
          subst he
          exact ⟨rfl, F', σ', hs'⟩
        · rename_i hi
          rw [if_neg hi]
          simp only [Option.some.injEq] at he
          subst he
          exact ⟨rfl, F', σ', hs'⟩
      | nrm => simp only [hx, Option.some.injEq] at he; subst he; exact ⟨rfl, F', σ', hs'⟩
      | goto l => simp only [hx, Option.some.injEq] at he; subst he; exact ⟨rfl, F', σ', hs'⟩
      | ret => simp only [hx, Option.some.injEq] at he; subst he; exact ⟨rfl, F', σ', hs'⟩
  | loop x ih =>
    refine ⟨?_, fun code l g _ h => by simp [exec.labelled] at h⟩
    intro code s r a w F σ hc he hs
    cases code <;> simp only [chk] at hc <;> (try (cases hc; done))
    rename_i cx
    simp only [exec, loopF] at he
    split at he
    case isFalse => cases he
    rename_i hex
    refine wp_loop_rounds (J := fun m a w => ∃ s F σ, iter (exec K x) m s = some r ∧ StRel K X base w0 F0 m0 σ0 n s a w F σ) (fun a w h => ?_) (fun m a w h => ?_) (m := hex.choose) ⟨s, F, σ, he, hs⟩
    · obtain ⟨s, F, σ, h, _⟩ := h
      simp [iter] at h
    · obtain ⟨s, F, σ, h, hs⟩ := h
      simp only [iter] at h
      cases hx : exec K x s with
      | none => simp [hx] at h
      | some p =>
        obtain ⟨ex, s'⟩ := p
        refine wp_mono (ih.1 cx s _ a w F σ hc hx hs) fun e a' w' hp => ?_
        obtain ⟨rfl, F', σ', hs'⟩ := hp
        cases ex with
        | nrm => simp only [hx] at h; exact ⟨s', F', σ', h, hs'⟩
        | exit id => simp only [hx, Option.some.injEq] at h; subst h; exact ⟨rfl, F', σ', hs'⟩
        | goto l => simp only [hx, Option.some.injEq] at h; subst h; exact ⟨rfl, F', σ', hs'⟩
        | ret => simp only [hx, Option.some.injEq] at h; subst h; exact ⟨rfl, F', σ', hs'⟩
  | exit id =>
    refine ⟨?_, fun code l g _ h => by simp [exec.labelled] at h⟩
    intro code s r a w F σ hc he hs
    cases code <;> simp only [chk] at hc <;> (try (cases hc; done))
    simp only [beq_iff_eq] at hc
    subst hc
    simp only [exec, Option.some.injEq] at he
    subst he
    exact wp_exit ⟨rfl, F, σ, hs⟩
  | scope x ls ihx ihl =>
    refine ⟨?_, fun code l g _ h => by simp [exec.labelled] at h⟩
    intro code s r a w F σ hc he hs
    cases code <;> simp only [chk] at hc <;> (try (cases hc; done))
    rename_i cx
    simp only [Bool.and_eq_true] at hc
    simp only [exec, scopeF] at he
    split at he
    case isFalse => cases he
    rename_i hex
    generalize hex.choose = m at he
    cases m with
    | zero => simp [jumps] at he
    | succ m =>
      have post : ∀ (m : Nat) (p : Ex × S) (e : Exit) (a : Act) (w : World), jumps (fun l => exec.labelled K ls l) (m + 1) (some p) = some r → Post K X base w0 F0 m0 σ0 n p e a w →
          Exit.jumpR (fun l a w => ∃ g s F σ, exec.labelled K ls l = some g ∧ jumps (fun l => exec.labelled K ls l) m (g s) = some r ∧ StRel K X base w0 F0 m0 σ0 n s a w F σ) (Post K X base w0 F0 m0 σ0 n r) e a w := by
        intro m p e a w hj hp
        obtain ⟨ex, s'⟩ := p
        obtain ⟨rfl, F', σ', hs'⟩ := hp
        simp only [jumps] at hj
        cases ex with
        | nrm => simp only [Option.some.injEq] at hj; subst hj; exact ⟨rfl, F', σ', hs'⟩
        | exit id => simp only [Option.some.injEq] at hj; subst hj; exact ⟨rfl, F', σ', hs'⟩
        | ret => simp only [Option.some.injEq] at hj; subst hj; exact ⟨rfl, F', σ', hs'⟩
        | goto l =>
          simp only at hj
          cases hl : exec.labelled K ls l with
          | none => simp [hl] at hj
          | some g =>
            simp only [hl] at hj
            exact ⟨g, s', F', σ', hl, hj, hs'⟩
      cases hx : exec K x s with
      | none => simp [hx, jumps] at he
      | some p =>
        rw [hx] at he
        refine wp_scope_rounds (m := m) (J := fun m l a w => ∃ g s F σ, exec.labelled K ls l = some g ∧ jumps (fun l => exec.labelled K ls l) m (g s) = some r ∧ StRel K X base w0 F0 m0 σ0 n s a w F σ) (fun l a w h => ?_) (fun m l a w h => ?_) (wp_mono (ihx.1 cx s _ a w F σ hc.1 hx hs) fun e a' w' hp => post m p e a' w' he hp)
        · obtain ⟨g, s, F, σ, _, h, _⟩ := h
          simp [jumps] at h
        · obtain ⟨g, s, F, σ, hl, hj, hs⟩ := h
          obtain ⟨rest, hf, hrest⟩ := ihl.2 cx l g hc.2 hl
          refine ⟨rest, hf, ?_⟩
          cases hg : g s with
          | none => rw [hg] at hj; simp [jumps] at hj
          | some p =>
            rw [hg] at hj
            exact wp_mono (hrest s p a w F σ hg hs) fun e a' w' hp => post m p e a' w' hj hp
  | lnil => exact ⟨fun code s r a w F σ hc he => by simp [exec] at he, fun code l g _ h => by simp [exec.labelled] at h⟩
  | lcons l0 c ls ihc ihl =>
    refine ⟨fun code s r a w F σ hc he => by simp [exec] at he, fun code l g hc h => ?_⟩
    have hc' : ((match findLabel code l0 with | some rest => chk P m0 n c rest | none => false) && chk P m0 n ls code) = true := by cases code <;> simpa only [chk] using hc
    simp only [Bool.and_eq_true] at hc'
    simp only [exec.labelled] at h
    split at h
    · rename_i he
      subst he
      obtain rfl := Option.some.inj h
      cases hf : findLabel code l0 with
      | none => simp [hf] at hc'
      | some rest =>
        simp only [hf] at hc'
        exact ⟨rest, rfl, fun s r a w F σ he hs => ihc.1 rest s r a w F σ hc'.1 he hs⟩
    · exact ihl.2 code l g hc'.2 h
  | label l =>
    refine ⟨?_, fun code l g _ h => by simp [exec.labelled] at h⟩
    intro code s r a w F σ hc he hs
    cases code <;> simp only [chk] at hc <;> (try (cases hc; done))
    simp only [exec, Option.some.injEq] at he
    subst he
    exact wp_label ⟨rfl, F, σ, hs⟩
  | goto l =>
    refine ⟨?_, fun code l g _ h => by simp [exec.labelled] at h⟩
    intro code s r a w F σ hc he hs
    cases code <;> simp only [chk] at hc <;> (try (cases hc; done))
    simp only [beq_iff_eq] at hc
    subst hc
    simp only [exec, Option.some.injEq] at he
    subst he
    exact wp_goto ⟨rfl, F, σ, hs⟩
  | ret =>
    refine ⟨?_, fun code l g _ h => by simp [exec.labelled] at h⟩
    intro code s r a w F σ hc he hs
    cases code <;> simp only [chk] at hc <;> (try (cases hc; done))
    simp only [exec, Option.some.injEq] at he
    subst he
    exact wp_ret ⟨rfl, F, σ, hs⟩
  | tidy => exact ⟨fun code s r a w F σ hc he => by cases code <;> simp [chk] at hc, fun code l g _ h => by simp [exec.labelled] at h⟩
  | own => exact ⟨fun code s r a w F σ hc he => by cases code <;> simp [chk] at hc, fun code l g _ h => by simp [exec.labelled] at h⟩
  | stuck => exact ⟨fun code s r a w F σ hc he => by simp [exec] at he, fun code l g _ h => by simp [exec.labelled] at h⟩
  | frz => exact ⟨fun code s r a w F σ hc he => by cases code <;> simp [chk] at hc, fun code l g _ h => by simp [exec.labelled] at h⟩

theorem exec_sound (hm : P.follows .mixedOrders = true) (hK : K.Sound P) (c : C) (code : Code) (s : S) (r : Ex × S) (a : Act) (w : World) (F : Nat → Prop) (σ : Nat → Option Loc) (hc : chk P m0 n c code = true) (he : exec K c s = some r) (hs : StRel K X base w0 F0 m0 σ0 n s a w F σ) :
    code.wp P (Post K X base w0 F0 m0 σ0 n r) a w := (exec_both hm hK c).1 code s r a w F σ hc he hs

end Go.Vm
end

section
namespace Go.Vm
open Go.RowKit

def hNew (H : List (Nat × Blk)) : Bool := H.all fun p => match p.2 with
  | .dat c _ _ => c
  | .mix _ rows => rows.all (·.all V.newR)
  | .map es => es.all fun q => match q.2 with
    | .agg cs => cs.all V.newR
    | v => v.newR

def restH (bs : List Nat) (H : List (Nat × Blk)) : List (Nat × Blk) := forgetH bs.contains (H.filter fun p => !bs.contains p.1)

def finC (z : Bool) (bs : List Nat) (H : List (Nat × Blk)) : V → Option V
  | .d c y => some (.d c y)
  | .fs c k r => some (.fs c k r)
  | .ptr b i j => if bs.contains b then some (.ptr (bs.idxOf b) i j) else (viewD viewDepth (restH bs H) (.ptr b i j)).map (.d (z && hNew (restH bs H)))
  | .bsl b i n => if bs.contains b then some (.bsl (bs.idxOf b) i n) else (viewD viewDepth (restH bs H) (.bsl b i n)).map (.d (z && hNew (restH bs H)))
  | .iface t v => (viewD viewDepth (restH bs H) (V.drop1 bs.contains (.iface t v))).map (.d false)
  | .map b => if bs.contains b then some (.map (bs.idxOf b)) else none
  | _ => none
def finA (z : Bool) (bs : List Nat) (H : List (Nat × Blk)) : V → Option V
  | .agg cs => (mapO (finC z bs H) cs).map .agg
  | .fn f cs => (mapO (finC z bs H) cs).map (.fn f)
  | v => finC z bs H v
def finV (z : Bool) (bs : List Nat) (H : List (Nat × Blk)) : V → Option V
  | .tup vs => (mapO (finA z bs H) vs).map .tup
  | v => finA z bs H v
def finB (z : Bool) (bs : List Nat) (H : List (Nat × Blk)) (b : Nat) : Option Blk := match look H b with
  | some (.dat c k rows) => some (.dat c k rows)
  | some (.mix k rows) => (mapO (mapO (finC z bs H)) rows).map (.mix k)
  | some (.map es) => (mapO (fun q => (finA z bs H q.2).map fun v => (q.1, v)) es).map .map
  | none => none

structure Fun where
  body : C
  res : List E
  own : Bool
  deriving Inhabited

def oneOr : List V → V
  | [v] => v
  | vs => .tup vs

def finish (m : Nat) (own : Bool) (s : S) (v : V) : Option (V × List Blk × List Nat) :=
  let bs := if own then reachB s.heap 64 [] (List.range m ++ v.refs) else List.range m
  if decide bs.Nodup && decide (bs.take m = List.range m) then
    match finV (m == 0) bs s.heap v, mapO (finB (m == 0) bs s.heap) bs with
    | some r, some news => some (r, news, s.mv)
    | _, _ => none
  else none

def startS (args : List V) (blks : List Blk) : S := ⟨(args.zipIdx.map fun (v, i) => (i, v)), indexed blks, blks.length, []⟩

noncomputable def runFun (K : Cx) (g : Fun) (args : List V) (blks : List Blk) : Option (V × List Blk × List Nat) :=
  match exec K g.body (startS args blks) with
  | some (.nrm, s) => match mapO (ev K s) g.res with
    | some vs => finish blks.length g.own s (oneOr vs)
    | none => none
  | some (.ret, s) => match mapO (ev K s) g.res with
    | some vs => finish blks.length g.own s (oneOr vs)
    | none => none
  | _ => none

def resE (P : Program) : ResultVar → Option E
  | .tmp t => some (.sl t)
  | .cell a t => match P.info? t, P.underlying t with
    | some i, some d => some (.ld i.size (isAggD d) (.sl a))
    | _, _ => none

def funOk (P : Program) (f : FuncId) (m n : Nat) (g : Fun) : Bool :=
  match P.funcs[f]? with
  | some fn => match fn.body with
    | some code => chk P m fn.ntmps g.body code && decide (mapO (resE P) fn.results.toList = some g.res) && decide (n ≤ fn.ntmps) && (fn.name != "runtime.NumGoroutine")
    | none => false
  | none => false

variable {P : Program} {w : World} {F : Nat → Prop} {X : Nat → Nat → Prop} {base nx : Nat} {σ : Nat → Option Loc} {H : List (Nat × Blk)} {bs : List Nat}

theorem keys_mapO {f : V → Option V} : ∀ {es es' : List (D × V)}, mapO (fun q => (f q.2).map fun v => (q.1, v)) es = some es' → es'.map (·.1) = es.map (·.1)
  | [], es', h => by obtain rfl := Option.some.inj h; rfl
  | q :: es, es', h => by
    simp only [mapO] at h
    cases hq : f q.2 with
    | none => simp [hq] at h
    | some v =>
      cases hr : mapO (fun q => (f q.2).map fun v => (q.1, v)) es with
      | none => simp [hq, hr] at h
      | some r =>
        simp only [hq, hr, Option.map_some, Option.some.injEq] at h
        subst h
        simp only [List.map_cons, keys_mapO hr]

theorem MemObj.ofO {f : V → Option V} {w w' : World} {σ σ' : Nat → Option Loc} {l : Loc} {ck : Nat} {es : Array MapEntry} {ds ds' : List (D × V)} (hw : w'.heap[l.blk]? = w.heap[l.blk]?) (hes : mapO (fun q => (f q.2).map fun v => (q.1, v)) ds = some ds')
    (hf : ∀ q ∈ ds, ∀ y, f q.2 = some y → ∀ v, BufV σ v q.2 → BufV σ' v y) (h : MemObj w σ l es ck ds) : MemObj w' σ' l es ck ds' := by
  have hk := keys_mapO hes
  rcases h with ⟨h, hx, ht⟩ | ⟨T, p, v, x, h1, h2, h3, h4⟩ | ⟨T, cur, fz, bs, h1, h2, h3⟩
  · refine .inl ⟨by rw [hw]; exact h, hx, ?_⟩
    cases ds with
    | nil => obtain rfl : ds' = [] := by simpa using hk
             rfl
    | cons q ds =>
      obtain ⟨k, v⟩ := q
      cases ds' with
      | nil => simp at hk
      | cons q' ds' =>
        obtain ⟨k', v'⟩ := q'
        simp only [List.map_cons, List.cons.injEq] at hk
        obtain ⟨rfl, _⟩ := hk
        cases k' <;> first | rfl | (simp [tagged] at ht)
  · subst h1
    simp only [mapO] at hes
    cases hx : f x with
    | none => simp [hx] at hes
    | some y =>
      simp only [hx, Option.map_some, Option.some.injEq] at hes
      subst hes
      exact .inr (.inl ⟨T, p, v, y, rfl, by rw [hw]; exact h2, h3, hf (.nils T, x) (by simp) y hx v h4⟩)
  · exact .inr (.inr ⟨T, cur, fz, bs, by rw [hk]; exact h1, by rw [hw]; exact h2, h3⟩)

theorem New_New {c : Bool} {b : Nat} (h : col F base true b) : col (New F base) base c b := by
  cases c
  · exact h
  · exact ⟨h, h.2⟩

theorem RepV.newF {v : Value} {x : V} (hx : x.newR = true) (h : RepV w F base σ v x) : RepV w (New F base) base σ v x := by
  cases h with
  | d c v x h =>
    simp only [V.newR, V.new1, Bool.or_eq_true] at hx
    cases c with
    | true => exact .d _ _ _ (h.mono fun b hb => ⟨New_New hb, rfl⟩)
    | false => exact .d _ _ _ (h.flat (by simpa using hx))
  | fs c a len k rows h =>
    simp only [V.newR, V.new1] at hx
    subst hx
    exact .fs _ _ _ _ _ (h.mono fun b hb => ⟨New_New hb, rfl⟩)
  | ptr b i j l hl => exact .ptr b i j l hl
  | bsl0 a b i => exact .bsl0 a b i
  | bsl b i len cap l hl h1 h2 => exact .bsl b i len cap l hl h1 h2
  | map b l hl => exact .map b l hl
  | _ => simp [V.newR, V.new1] at hx

theorem mkd_newR {c : Bool} (hc : c = true) (d : D) : (mkd c d).newR = true := by
  subst hc
  unfold mkd
  split <;> simp [V.newR, V.new1, *]

theorem HeapRel.newF (hn : hNew H = true) (h : HeapRel w F X base σ nx H) : HeapRel w (New F base) X base σ nx H := by
  refine ⟨fun b blk hb => ?_, h.inj, fun b l hb => ⟨(h.own b l hb).1, fun hf => (h.own b l hb).2.1 hf.1, (h.own b l hb).2.2⟩, fun b hb => h.fro b hb.1⟩
  have hin : ∃ p ∈ H, p = (b, blk) := by
    clear hn h
    induction H with
    | nil => simp [look] at hb
    | cons p H ih =>
      obtain ⟨k, v⟩ := p
      simp only [look] at hb
      split at hb
      · rename_i hk
        subst hk
        obtain rfl := Option.some.inj hb
        exact ⟨_, List.mem_cons_self .., rfl⟩
      · obtain ⟨p, hp, he⟩ := ih hb
        exact ⟨p, List.mem_cons_of_mem _ hp, he⟩
  obtain ⟨p, hp, rfl⟩ := hin
  simp only [hNew, List.all_eq_true] at hn
  have hnb := hn _ hp
  rcases h.blk b blk hb with ⟨h1, h2⟩ | ⟨l, es, ck, ds, rfl, h1, h2, h3, h4, h5⟩ | ⟨l, cs, T, h1, h2, h3, h4, h5, h6, h7⟩
  · exact .inl ⟨h1, h2⟩
  · have := h5.transM (f := fun x => x) (w' := w) (F' := New F base) (base' := base) (σ' := σ) fun q hq v hv => by
      simp only [List.all_eq_true] at hnb
      have hqn := hnb q hq
      obtain ⟨qk, qv⟩ := q
      cases qv with
      | agg cs =>
        cases hv with
        | agg vs _ g1 g2 g3 =>
          simp only [List.all_eq_true] at hqn
          exact .agg vs cs g1 (fun j v x hv hx => (g2 j v x hv hx).newF (hqn x (List.mem_of_getElem? hx))) g3
      | _ => exact hv.newF hqn
    exact .inr (.inl ⟨l, es, ck, ds, rfl, h1, h2, h3, h4, by simpa using this⟩)
  · refine .inr <| .inr ⟨l, cs, T, h1, h2, h3, h4, h5, fun i row hrow => ⟨(h6 i row hrow).1, fun j x hx => ?_⟩, h7⟩
    obtain ⟨v, g1, g2, g3⟩ := (h6 i row hrow).2 j x hx
    refine ⟨v, g1, g2, g3.newF ?_⟩
    cases blk with
    | dat c k rows =>
      simp only [Blk.row?, Option.map_eq_some_iff] at hrow
      obtain ⟨r, _, rfl⟩ := hrow
      simp only [List.getElem?_map, Option.map_eq_some_iff] at hx
      obtain ⟨d, _, rfl⟩ := hx
      exact mkd_newR hnb d
    | mix k rows =>
      simp only [Blk.row?] at hrow
      simp only [List.all_eq_true] at hnb
      exact hnb row (List.mem_of_getElem? hrow) x (List.mem_of_getElem? hx)
    | map es => simp [Blk.entries] at h7

def wo (bs : List Nat) (σ : Nat → Option Loc) (b : Nat) : Option Loc := if bs.contains b then none else σ b
def outs (bs : List Nat) (σ : Nat → Option Loc) (i : Nat) : Option Loc := match bs[i]? with
  | some b => σ b
  | none => none

theorem wo_some {b : Nat} {l : Loc} (h : wo bs σ b = some l) : bs.contains b = false ∧ σ b = some l := by
  unfold wo at h
  split at h
  · cases h
  · rename_i hb; exact ⟨by simpa using hb, h⟩
theorem wo_of : ∀ b l, σ b = some l → bs.contains b = false → wo bs σ b = some l := by
  intro b l h1 h2
  unfold wo
  rw [if_neg (by rw [h2]; exact Bool.false_ne_true)]
  exact h1

theorem look_filter (p : Nat → Bool) : ∀ (H : List (Nat × Blk)) (b : Nat) (blk : Blk), look (H.filter fun q => p q.1) b = some blk → p b = true ∧ look H b = some blk
  | [], b, blk, h => by simp [look] at h
  | (k, v) :: H, b, blk, h => by
    simp only [List.filter_cons] at h
    split at h
    · rename_i hk
      simp only [look] at h ⊢
      split at h
      · rename_i he
        subst he
        rw [if_pos rfl]
        exact ⟨hk, h⟩
      · rename_i he
        rw [if_neg he]
        exact look_filter p H b blk h
    · rename_i hk
      obtain ⟨h1, h2⟩ := look_filter p H b blk h
      refine ⟨h1, ?_⟩
      simp only [look]
      rw [if_neg (fun e => hk (by subst e; exact h1))]
      exact h2

theorem rest_heap (h : HeapRel w F X base σ nx H) : HeapRel w F X base (wo bs σ) nx (restH bs H) := by
  refine ⟨fun b blk hb => ?_, fun b b' l l' h1 h2 => h.inj b b' l l' (wo_some h1).2 (wo_some h2).2, fun b l hb => h.own b l (wo_some hb).2, h.fro⟩
  unfold restH forgetH at hb
  rw [look_mapB] at hb
  simp only [Option.map_eq_some_iff] at hb
  obtain ⟨blk0, h1, rfl⟩ := hb
  obtain ⟨h2, h3⟩ := look_filter (fun b => !bs.contains b) H b blk0 h1
  have h2' : bs.contains b = false := by simpa using h2
  have hs : ∀ l, σ b = some l → wo bs σ b = some l := fun l hl => wo_of b l hl h2'
  refine (h.blk b blk0 h3).forget _ (fun b hb => ⟨hb, rfl⟩) wo_of hs (fun h4 => ?_) (fun _ _ => rfl)
  unfold wo
  split
  · rfl
  · exact h4

def FZ (F : Nat → Prop) (bs : List Nat) (σ : Nat → Option Loc) : Nat → Prop := All F (wo bs σ)

variable {z : Bool}

def Young (X : Nat → Nat → Prop) (base : Nat) (bs : List Nat) (σ : Nat → Option Loc) : Prop := ∀ i l, wo bs σ i = some l → base ≤ l.blk

theorem out_idx {b : Nat} {l : Loc} (h1 : σ b = some l) (h2 : bs.contains b = true) : outs bs σ (bs.idxOf b) = some l := by
  unfold outs
  have hm : b ∈ bs := by simpa using h2
  have : bs[bs.idxOf b]? = some b := by
    rw [List.getElem?_eq_getElem (List.idxOf_lt_length_of_mem hm)]
    rw [List.getElem_idxOf]
  rw [this]
  exact h1

theorem finC_buf {z : Bool} {x y : V} (hy : finC z bs H x = some y) {v : Value} (hv : BufV σ v x) : BufV (outs bs σ) v y := by
  cases x with
  | bsl b i n =>
    simp only [finC] at hy
    split at hy
    · rename_i hb
      obtain rfl := Option.some.inj hy
      obtain ⟨h0, h | ⟨l, h1, h2⟩⟩ := hv
      · exact ⟨h0, .inl h⟩
      · exact ⟨h0, .inr ⟨l, out_idx h1 hb, h2⟩⟩
    · simp only [Option.map_eq_some_iff] at hy
      obtain ⟨d, _, rfl⟩ := hy
      trivial
  | d c d => obtain rfl := Option.some.inj hy; trivial
  | fs c k r => obtain rfl := Option.some.inj hy; trivial
  | ptr b i j =>
    simp only [finC] at hy
    split at hy
    · obtain rfl := Option.some.inj hy; trivial
    · simp only [Option.map_eq_some_iff] at hy
      obtain ⟨d, _, rfl⟩ := hy
      trivial
  | iface t u =>
    simp only [finC, Option.map_eq_some_iff] at hy
    obtain ⟨d, _, rfl⟩ := hy
    trivial
  | map b =>
    simp only [finC] at hy
    split at hy
    · obtain rfl := Option.some.inj hy; trivial
    · cases hy
  | _ => simp [finC] at hy
theorem finA_buf {z : Bool} {x y : V} (hy : finA z bs H x = some y) {v : Value} (hv : BufV σ v x) : BufV (outs bs σ) v y := by
  cases x with
  | agg cs =>
    simp only [finA, Option.map_eq_some_iff] at hy
    obtain ⟨d, _, rfl⟩ := hy
    trivial
  | fn f cs =>
    simp only [finA, Option.map_eq_some_iff] at hy
    obtain ⟨d, _, rfl⟩ := hy
    trivial
  | _ => exact finC_buf (by simpa only [finA] using hy) hv

theorem finC_sound (h : HeapRel w F X base σ nx H) (hy : Young X base bs σ) (v : Value) (x r : V) (hr : finC z bs H x = some r) (hR : RepV w F base σ v x) : RepV w (FZ F bs σ) base (outs bs σ) v r := by
  have hsub : ∀ b, F b → FZ F bs σ b ∧ w.heap[b]? = w.heap[b]? := fun b hb => ⟨.inl hb, rfl⟩
  have frozen : ∀ (x : V), x.newR = true → (∃ y, (viewD viewDepth (restH bs H) x) = some y ∧ r = .d (z && hNew (restH bs H)) y) → RepV w F base (wo bs σ) v x → RepV w (FZ F bs σ) base (outs bs σ) v r := by
    rintro x hx ⟨y, hyy, rfl⟩ hR
    have hH := rest_heap (bs := bs) h
    cases hn : z && hNew (restH bs H) with
    | false => exact .d _ _ _ (viewD_sound hH _ _ _ _ hyy hR)
    | true =>
      simp only [Bool.and_eq_true] at hn
      refine .d _ _ _ ((viewD_sound (hH.newF hn.2) _ _ _ _ hyy (hR.newF hx)).mono fun b hb => ⟨?_, rfl⟩)
      rcases hb with hb | ⟨i, l, hl, rfl⟩
      · exact ⟨.inl hb.1, hb.2⟩
      · exact ⟨.inr ⟨i, l, hl, rfl⟩, hy i l hl⟩
  have hFF : ∀ b, F b → F b ∧ w.heap[b]? = w.heap[b]? := fun b hb => ⟨hb, rfl⟩
  cases x with
  | d c y =>
    simp only [finC, Option.some.injEq] at hr
    subst hr
    cases hR with
    | d _ _ _ hd => exact .d _ _ _ (hd.mono (col_mono hsub c))
  | fs c k rows =>
    simp only [finC, Option.some.injEq] at hr
    subst hr
    cases hR with
    | fs _ _ _ _ _ hd => exact .fs _ _ _ _ _ (hd.mono (col_mono hsub c))
  | ptr b i j =>
    simp only [finC] at hr
    split at hr
    · rename_i hb
      obtain rfl := Option.some.inj hr
      cases hR with
      | ptr _ _ _ l hl => exact .ptr _ _ _ l (out_idx hl hb)
    · rename_i hb
      simp only [Option.map_eq_some_iff] at hr
      obtain ⟨y, hy, rfl⟩ := hr
      exact frozen (.ptr b i j) rfl ⟨y, hy, rfl⟩ (hR.keep0 hFF wo_of (by simpa [V.ref0] using hb))
  | bsl b i n =>
    simp only [finC] at hr
    split at hr
    · rename_i hb
      obtain rfl := Option.some.inj hr
      cases hR with
      | bsl0 => exact .bsl0 _ _ _
      | bsl _ _ _ cap l hl h1 h2 => exact .bsl _ _ _ cap l (out_idx hl hb) h1 h2
    · rename_i hb
      simp only [Option.map_eq_some_iff] at hr
      obtain ⟨y, hy, rfl⟩ := hr
      exact frozen (.bsl b i n) rfl ⟨y, hy, rfl⟩ (hR.keep0 hFF wo_of (by simpa [V.ref0] using hb))
  | iface t u =>
    simp only [finC, Option.map_eq_some_iff] at hr
    obtain ⟨y, hy, rfl⟩ := hr
    exact .d _ _ _ (viewD_sound (rest_heap (bs := bs) h) _ _ _ _ hy (hR.drop1 hFF wo_of))
  | map b =>
    simp only [finC] at hr
    split at hr
    · rename_i hb
      obtain rfl := Option.some.inj hr
      cases hR with
      | map _ l hl => exact .map _ l (out_idx hl hb)
    · cases hr
  | _ => simp [finC] at hr

theorem reps_map {f : V → Option V} {R R' : Value → V → Prop} (hf : ∀ v x r, f x = some r → R v x → R' v r) {cs : Array Value} {xs rs : List V} (hm : mapO f xs = some rs) (hsz : cs.size = xs.length) (h : ∀ (j : Nat) (v : Value) (x : V), cs[j]? = some v → xs[j]? = some x → R v x) :
    cs.size = rs.length ∧ ∀ (j : Nat) (v : Value) (x : V), cs[j]? = some v → rs[j]? = some x → R' v x := by
  obtain ⟨m1, m2⟩ := mapO_some hm
  refine ⟨by omega, fun j v x hv hx => ?_⟩
  have hj : j < xs.length := by rw [← m1]; exact (List.getElem?_eq_some_iff.1 hx).1
  obtain ⟨y, hy, hvd⟩ := m2 j _ (List.getElem?_eq_getElem hj)
  rw [hx] at hy
  obtain rfl := Option.some.inj hy
  exact hf v _ x hvd (h j v _ hv (List.getElem?_eq_getElem hj))

theorem finA_sound (h : HeapRel w F X base σ nx H) (hy : Young X base bs σ) (v : Value) (x r : V) (hr : finA z bs H x = some r) (hR : RepV w F base σ v x) : RepV w (FZ F bs σ) base (outs bs σ) v r := by
  have one : ∀ v x r, finC z bs H x = some r → RepV w F base σ v x → RepV w (FZ F bs σ) base (outs bs σ) v r := fun v x r h1 h2 => finC_sound h hy v x r h1 h2
  cases x with
  | agg xs =>
    simp only [finA, Option.map_eq_some_iff] at hr
    obtain ⟨rs, hm, rfl⟩ := hr
    cases hR with
    | agg cs _ h1 h2 h3 =>
      obtain ⟨g1, g2⟩ := reps_map one hm h1 h2
      exact .agg cs rs g1 g2 h3
  | fn f xs =>
    simp only [finA, Option.map_eq_some_iff] at hr
    obtain ⟨rs, hm, rfl⟩ := hr
    cases hR with
    | fn _ cs _ h1 h2 =>
      obtain ⟨g1, g2⟩ := reps_map one hm h1 h2
      exact .fn f cs rs g1 g2
  | _ => simp only [finA] at hr; exact one v _ r hr hR

theorem finV_sound (h : HeapRel w F X base σ nx H) (hy : Young X base bs σ) {v : Value} {x r : V} (hr : finV z bs H x = some r) (hR : RepV w F base σ v x) : RepV w (FZ F bs σ) base (outs bs σ) v r := by
  cases x with
  | tup xs =>
    simp only [finV, Option.map_eq_some_iff] at hr
    obtain ⟨rs, hm, rfl⟩ := hr
    cases hR with
    | tup cs _ h1 h2 =>
      obtain ⟨g1, g2⟩ := reps_map (finA_sound h hy) hm h1 h2
      exact .tup cs rs g1 g2
  | _ => simp only [finV] at hr; exact finA_sound h hy v _ r hr hR

theorem outs_some {i : Nat} {l : Loc} (hi : outs bs σ i = some l) : ∃ b, bs[i]? = some b ∧ σ b = some l := by
  unfold outs at hi
  split at hi
  · rename_i b hb; exact ⟨b, hb, hi⟩
  · cases hi

theorem finB_heap (h : HeapRel w F X base σ nx H) (hy : Young X base bs σ) (hbs : bs.Nodup) (hX : ∀ b k, X b k → bs[b]? = some b) {news : List Blk} (hm : mapO (finB z bs H) bs = some news) : HeapRel w (FZ F bs σ) X base (outs bs σ) news.length (indexed news) := by
  obtain ⟨m1, m2⟩ := mapO_some hm
  have hsub : ∀ b, F b → FZ F bs σ b ∧ w.heap[b]? = w.heap[b]? := fun b hb => ⟨.inl hb, rfl⟩
  refine ⟨fun i blk hi => ?_, fun i j l l' h1 h2 he => ?_, fun i l hi => ?_, fun b hb => ?_⟩
  · rw [look_indexed] at hi
    have hil : i < bs.length := by rw [← m1]; exact (List.getElem?_eq_some_iff.1 hi).1
    obtain ⟨y, hyy, hb⟩ := m2 i _ (List.getElem?_eq_getElem hil)
    rw [hi] at hyy
    obtain rfl := Option.some.inj hyy
    have hout : outs bs σ i = σ bs[i] := by unfold outs; rw [List.getElem?_eq_getElem hil]
    unfold finB at hb
    split at hb
    · rename_i c k rows hlk
      obtain rfl := Option.some.inj hb
      rcases h.blk _ _ hlk with ⟨g1, g2⟩ | ⟨_, _, _, _, hbad, _⟩ | ⟨l, cs, T, g1, g2, g3, g4, g5, g6, g7⟩
      · exact .inl ⟨g1, by rw [hout]; exact g2⟩
      · cases hbad
      · refine .inr <| .inr ⟨l, cs, T, by rw [hout]; exact g1, g2, g3, g4, g5, fun i row hrow => ⟨(g6 i row hrow).1, fun j x hx => ?_⟩, g7⟩
        obtain ⟨v, e1, e2, e3⟩ := (g6 i row hrow).2 j x hx
        refine ⟨v, e1, e2, ?_⟩
        simp only [Blk.row?, Option.map_eq_some_iff] at hrow
        obtain ⟨r, _, rfl⟩ := hrow
        simp only [List.getElem?_map, Option.map_eq_some_iff] at hx
        obtain ⟨d, _, rfl⟩ := hx
        refine e3.keep0 (p := fun _ => true) hsub (fun _ _ _ h => by cases h) ?_
        unfold mkd
        split <;> rfl
    · rename_i k rows hlk
      simp only [Option.map_eq_some_iff] at hb
      obtain ⟨rows', hrows, rfl⟩ := hb
      obtain ⟨p1, p2⟩ := mapO_some hrows
      rcases h.blk _ _ hlk with ⟨g1, g2⟩ | ⟨_, _, _, _, hbad, _⟩ | ⟨l, cs, T, g1, g2, g3, g4, g5, g6, g7⟩
      · exact .inl ⟨by simp only [Blk.n] at g1 ⊢; omega, by rw [hout]; exact g2⟩
      · cases hbad
      · refine .inr <| .inr ⟨l, cs, T, by rw [hout]; exact g1, g2, g3, by simp only [Blk.n] at g4 ⊢; omega, g5, fun i row hrow => ?_, rfl⟩
        simp only [Blk.row?] at hrow
        have hi' : i < rows.length := by rw [← p1]; exact (List.getElem?_eq_some_iff.1 hrow).1
        obtain ⟨row', hrow', hm'⟩ := p2 i _ (List.getElem?_eq_getElem hi')
        rw [hrow] at hrow'
        obtain rfl := Option.some.inj hrow'
        obtain ⟨q1, q2⟩ := mapO_some hm'
        obtain ⟨r1, r2⟩ := g6 i rows[i] (by simp [Blk.row?, hi'])
        refine ⟨by simp only [Blk.k] at r1 ⊢; omega, fun j x hx => ?_⟩
        have hj : j < rows[i].length := by rw [← q1]; exact (List.getElem?_eq_some_iff.1 hx).1
        obtain ⟨x', hx', hfx⟩ := q2 j _ (List.getElem?_eq_getElem hj)
        rw [hx] at hx'
        obtain rfl := Option.some.inj hx'
        obtain ⟨v, e1, e2, e3⟩ := r2 j _ (List.getElem?_eq_getElem hj)
        exact ⟨v, e1, e2, finC_sound h hy v _ x hfx e3⟩
    · rename_i es hlk
      simp only [Option.map_eq_some_iff] at hb
      obtain ⟨es', hes, rfl⟩ := hb
      obtain ⟨p1, p2⟩ := mapO_some hes
      rcases h.blk _ _ hlk with ⟨g1, _⟩ | ⟨l, xs, ck, ds, hds, g1, g2, g3, g4, g5⟩ | ⟨_, _, _, _, _, _, _, _, _, hbad⟩
      · refine .inl ⟨?_, by rw [hout]; assumption⟩
        have hk := keys_mapO hes
        simp only [Blk.n, nilBuf, hk] at g1 ⊢
        exact g1
      · obtain rfl : es = ds := by injection hds
        refine .inr (.inl ⟨l, xs, ck, es', rfl, by rw [hout]; exact g1, g2.ofO rfl hes (fun q hq y hy v hv => finA_buf hy hv), g3, g4, by rw [g5.1, p1], fun j e p he hp => ?_⟩)
        have hj : j < es.length := by rw [← p1]; exact (List.getElem?_eq_some_iff.1 hp).1
        obtain ⟨y, hy', hfy⟩ := p2 j _ (List.getElem?_eq_getElem hj)
        rw [hp] at hy'
        obtain rfl := Option.some.inj hy'
        simp only [Option.map_eq_some_iff] at hfy
        obtain ⟨u, hu, rfl⟩ := hfy
        obtain ⟨q1, q2, q3⟩ := g5.2 j e _ he (List.getElem?_eq_getElem hj)
        exact ⟨q1, q2.flat q1, finA_sound h hy _ _ u hu q3⟩
      · simp [Blk.entries] at hbad
    · cases hb
  · obtain ⟨b, hb, h3⟩ := outs_some h1
    obtain ⟨b', hb', h4⟩ := outs_some h2
    obtain rfl := h.inj b b' l l' h3 h4 he
    have hi := (List.getElem?_eq_some_iff.1 hb).1
    exact (List.getElem?_inj hi hbs).1 (hb.trans hb'.symm)
  · obtain ⟨b, hb, h3⟩ := outs_some hi
    obtain ⟨o1, o2, o3, o4⟩ := h.own b l h3
    refine ⟨by rw [m1]; exact (List.getElem?_eq_some_iff.1 hb).1, ?_, o3.imp id (fun hx => ?_), o4⟩
    · rintro (hF | ⟨b', l', hl', he⟩)
      · exact o2 hF
      · obtain ⟨h5, h6⟩ := wo_some hl'
        obtain rfl := h.inj b' b l' l h6 h3 he
        have : b' ∈ bs := List.mem_of_getElem? hb
        simp [this] at h5
    · have := (List.getElem?_inj (List.getElem?_eq_some_iff.1 hb).1 hbs).1 (hb.trans (hX b _ hx).symm)
      rw [this]
      exact hx
  · rcases hb with hb | ⟨i, l, hl, rfl⟩
    · exact h.fro b hb
    · exact (h.own i l (wo_some hl).2).2.2.2

def rvGet (tmps : Array Value) (rv : ResultVar) : Sem Value := match rv with
  | .tmp t => pure (tmps.getD t undef)
  | .cell b t => do loadVar t (← asAddr (tmps.getD b undef))

theorem results_eq (fn : Func) (tmps : Array Value) : results fn tmps = (do
    let vs ← fn.results.mapM (rvGet tmps)
    pure (if h : vs.size = 1 then vs[0] else .tuple vs)) := by
  unfold results
  congr 1

theorem results_sound {K : Cx} {n m0 : Nat} {σ0 : Nat → Option Loc} {w0 : World} {F0 : Nat → Prop} {s : S} {a : Act} (h : StRel K X base w0 F0 m0 σ0 n s a w F σ) {fn : Func} {es : List E} {vs : List V} (he : mapO (resE P) fn.results.toList = some es) (hv : mapO (ev K s) es = some vs) :
    ∃ v, (results fn a.tmps).run P w = .ok v w ∧ RepV w F base σ v (oneOr vs) := by
  have one : ∀ (rv : ResultVar) (e : E) (x : V), resE P rv = some e → ev K s e = some x → ∃ v, (rvGet a.tmps rv).run P w = .ok v w ∧ RepV w F base σ v x := by
    intro rv e x he hx
    cases rv with
    | tmp t =>
      simp only [resE, Option.some.injEq] at he
      subst he
      simp only [ev] at hx
      exact ⟨_, rfl, h.rho t x hx⟩
    | cell b t =>
      simp only [resE] at he
      cases hi : P.info? t with
      | none => simp [hi] at he
      | some i =>
        cases hd : P.underlying t with
        | none => simp [hi, hd] at he
        | some d =>
          simp only [hi, hd, Option.some.injEq] at he
          subst he
          simp only [ev] at hx
          cases hp : look s.rho b with
          | none => simp [hp] at hx
          | some p =>
            simp only [hp] at hx
            rw [evLd_eq] at hx
            cases hc : cellsAt s.heap p with
            | none => simp [hc] at hx
            | some xs =>
              simp only [hc, Option.bind_some] at hx
              obtain ⟨ba, of, hva, hcell⟩ := cellsAt_sound h.heap hc (h.rho b p hp)
              obtain ⟨v, h1, h2⟩ := loadVar_sound (P := P) hd hi hcell hx
              exact ⟨v, by simp [rvGet, hva, asAddr, h1], h2⟩
  have many : ∀ (l : List ResultVar) (es : List E) (vs : List V), mapO (resE P) l = some es → mapO (ev K s) es = some vs → ∃ us : List Value, (l.mapM (rvGet a.tmps)).run P w = .ok us w ∧ us.length = vs.length ∧ ∀ (j : Nat) (v : Value) (x : V), us[j]? = some v → vs[j]? = some x → RepV w F base σ v x := by
    intro l
    induction l with
    | nil =>
      intro es vs he hv
      simp only [mapO, Option.some.injEq] at he
      subst he
      simp only [mapO, Option.some.injEq] at hv
      subst hv
      exact ⟨[], by simp, rfl, fun j v x h => by simp at h⟩
    | cons rv l ih =>
      intro es vs he hv
      simp only [mapO] at he
      cases hr : resE P rv with
      | none => simp [hr] at he
      | some e =>
        cases hl : mapO (resE P) l with
        | none => simp [hr, hl] at he
        | some es' =>
          simp only [hr, hl, Option.some.injEq] at he
          subst he
          simp only [mapO] at hv
          cases hx : ev K s e with
          | none => simp [hx] at hv
          | some x =>
            cases hxs : mapO (ev K s) es' with
            | none => simp [hx, hxs] at hv
            | some xs =>
              simp only [hx, hxs, Option.some.injEq] at hv
              subst hv
              obtain ⟨v, h1, h2⟩ := one rv e x hr hx
              obtain ⟨us, h3, h4, h5⟩ := ih es' xs hl hxs
              refine ⟨v :: us, ?_, by simp [h4], fun j u y hu hy => ?_⟩
              · rw [List.mapM_cons, Sem.run_bind, h1]
                show Sem.run P (do let a ← List.mapM _ l; pure (v :: a)) w = _
                rw [Sem.run_bind, h3]
                rfl
              · cases j with
                | zero => simp only [List.getElem?_cons_zero, Option.some.injEq] at hu hy; subst hu; subst hy; exact h2
                | succ j => exact h5 j u y (by simpa using hu) (by simpa using hy)
  obtain ⟨us, h1, h2, h3⟩ := many _ es vs he hv
  refine ⟨if h : us.length = 1 then us[0] else .tuple us.toArray, ?_, ?_⟩
  · rw [results_eq, Sem.run_bind]
    rw [Array.mapM_eq_mapM_toList, ← bind_pure_comp, Sem.run_bind, h1]
    show Sem.run P (pure (if h : us.toArray.size = 1 then us.toArray[0] else .tuple us.toArray)) w = _
    by_cases hu : us.length = 1
    · rw [dif_pos hu, dif_pos (by simpa using hu)]; rfl
    · rw [dif_neg hu, dif_neg (by simpa using hu)]; rfl
  · match us, vs, h2, h3 with
    | [], [], _, h3 => exact .tup _ _ rfl fun j v x hv hx => h3 j v x (by simp at hv) hx
    | [u], [x], _, h3 => exact h3 0 u x rfl rfl
    | u1 :: u2 :: us, x1 :: x2 :: xs, h2, h3 =>
      simp only [List.length_cons, Nat.reduceEqDiff, oneOr]
      rw [dif_neg (by simp)]
      exact .tup _ _ (by simpa using h2) fun j v x hv hx => h3 j v x (by simpa using hv) hx

theorem look_args (l : List V) : ∀ (k t : Nat) (v : V), look ((l.zipIdx k).map fun (v, i) => (i, v)) t = some v → k ≤ t ∧ l[t - k]? = some v := by
  induction l with
  | nil => intro k t v h; simp [look] at h
  | cons x l ih =>
    intro k t v h
    simp only [List.zipIdx_cons, List.map_cons, look] at h
    split at h
    · rename_i he
      subst he
      exact ⟨Nat.le_refl _, by simpa using h⟩
    · obtain ⟨h1, h2⟩ := ih (k + 1) t v h
      refine ⟨by omega, ?_⟩
      have : t - k = (t - (k + 1)) + 1 := by omega
      rw [this, List.getElem?_cons_succ]
      exact h2

theorem run_sound (hm : P.follows .mixedOrders = true) {K : Cx} (hK : K.Sound P) {f : FuncId} {g : Fun} {args : List V} {blks : List Blk} {r : V} {news : List Blk} {mv : List Nat} (hok : funOk P f blks.length args.length g = true) (hr : runFun K g args blks = some (r, news, mv))
    {w : World} {F : Nat → Prop} {σ : Nat → Option Loc} {vals : Array Value} (hG : GlobRel w F K.glob) (hH : HeapRel w F (OwnB σ) w.heap.size σ blks.length (indexed blks)) (hargs : Reps w F w.heap.size σ vals args) :
    callable P f = true ∧ Calls P f vals w fun e w' => ∃ v F' σ', e = .returned v ∧ Frame (OwnB σ) w.heap.size w w' ∧ (∀ b, F b → F' b) ∧ (∀ b, F' b → F b ∨ w.heap.size ≤ b) ∧
      RepV w' F' w.heap.size σ' v r ∧ HeapRel w' F' (OwnB σ) w.heap.size σ' news.length (indexed news) ∧ ∀ i l, i < blks.length → σ i = some l → i ∉ mv → σ' i = some l := by
  unfold funOk at hok
  cases hf : P.funcs[f]? with
  | none => simp [hf] at hok
  | some fn =>
    cases hb : fn.body with
    | none => simp [hf, hb] at hok
    | some code =>
      simp only [hf, hb, Bool.and_eq_true, decide_eq_true_eq] at hok
      obtain ⟨⟨⟨hc, hres⟩, hn⟩, hname⟩ := hok
      refine ⟨by simp [callable, hf, hb, hname], ?_⟩
      refine calls_of_wp hf hb ?_
      have hst : StRel K (OwnB σ) w.heap.size w F blks.length σ fn.ntmps (startS args blks) { tmps := vals ++ Array.replicate (fn.ntmps - vals.size) undef, defers := [] } w F σ := by
        refine ⟨hH, hG, Nat.le_refl _, .refl _ _ _, fun b hb => .inl hb, ?_, rfl, fun t v hv => ?_, fun b blk h => ?_, fun _ _ _ h _ => h, Nat.le_refl _, fun b k hx => ?_, fun _ h => h⟩
        · have := hargs.1
          simp; omega
        · obtain ⟨_, hv'⟩ := look_args args 0 t v hv
          rw [Nat.sub_zero] at hv'
          have ht : t < vals.size := by rw [hargs.1]; exact (List.getElem?_eq_some_iff.1 hv').1
          have hget : (vals ++ Array.replicate (fn.ntmps - vals.size) undef).getD t undef = vals[t] := by
            rw [Array.getD_eq_getD_getElem?, Array.getElem?_append_left ht]
            simp [ht]
          show RepV w F w.heap.size σ ((vals ++ Array.replicate (fn.ntmps - vals.size) undef).getD t undef) v
          rw [hget]
          exact hargs.2 t _ v (by simp [ht]) hv'
        · have : (indexed blks).length = blks.length := by simp [indexed]
          simp only [startS] at h ⊢
          rw [look_indexed] at h
          exact (List.getElem?_eq_some_iff.1 h).1
        · obtain ⟨l, hl, _⟩ := hx
          exact (hH.own b l hl).1
      have fin : ∀ (s : S) (a : Act) (w' : World) (F' : Nat → Prop) (σ' : Nat → Option Loc) (vs : List V), StRel K (OwnB σ) w.heap.size w F blks.length σ fn.ntmps s a w' F' σ' → mapO (ev K s) g.res = some vs → finish blks.length g.own s (oneOr vs) = some (r, news, mv) →
          a.defers = [] ∧ ∃ v, (results fn a.tmps).run P w' = .ok v w' ∧ ∃ v' F' σ', Ending.returned v = .returned v' ∧ Frame (OwnB σ) w.heap.size w w' ∧ (∀ b, F b → F' b) ∧ (∀ b, F' b → F b ∨ w.heap.size ≤ b) ∧
            RepV w' F' w.heap.size σ' v' r ∧ HeapRel w' F' (OwnB σ) w.heap.size σ' news.length (indexed news) ∧ ∀ i l, i < blks.length → σ i = some l → i ∉ mv → σ' i = some l := by
        intro s a w' F' σ' vs hs hvs hfin
        obtain ⟨v, h1, h2⟩ := results_sound hs hres hvs
        unfold finish at hfin
        simp only at hfin
        generalize (if g.own = true then reachB s.heap 64 [] (List.range blks.length ++ (oneOr vs).refs) else List.range blks.length) = bs at hfin
        split at hfin
        case isFalse => cases hfin
        rename_i hc2
        simp only [Bool.and_eq_true, decide_eq_true_eq] at hc2
        obtain ⟨hnd, hpre⟩ := hc2
        cases h3 : finV (blks.length == 0) bs s.heap (oneOr vs) with
        | none => simp [h3] at hfin
        | some r' =>
          cases h4 : mapO (finB (blks.length == 0) bs s.heap) bs with
          | none => simp [h3, h4] at hfin
          | some news' =>
            simp only [h3, h4, Option.some.injEq, Prod.mk.injEq] at hfin
            obtain ⟨rfl, rfl, rfl⟩ := hfin
            have hpin : ∀ b, b < blks.length → bs[b]? = some b := fun b hb' => by
              have : (bs.take blks.length)[b]? = some b := by rw [hpre]; simp [hb']
              simpa [List.getElem?_take, hb'] using this
            have hX : ∀ b k, OwnB σ b k → bs[b]? = some b := fun b k hx => hpin b (hs.xm b k hx)
            have hy : Young (OwnB σ) w.heap.size bs σ' := by
              intro i l hl
              obtain ⟨hni, hl'⟩ := wo_some hl
              rcases (hs.heap.own i l hl').2.2.1 with h | h
              · exact h
              · have := List.mem_of_getElem? (hX i _ h)
                simp [this] at hni
            refine ⟨hs.dfr, v, h1, v, FZ F' bs σ', outs bs σ', rfl, hs.frame, fun b hb' => .inl (hs.sub b hb'), fun b hb' => ?_, finV_sound hs.heap hy h3 h2, finB_heap hs.heap hy hnd hX h4, fun i l hi hl hm' => ?_⟩
            · rcases hb' with hb' | ⟨i, l, hl, rfl⟩
              · exact hs.frz b hb'
              · exact .inr (hy i l hl)
            · unfold outs
              rw [hpin i hi]
              exact hs.stab i l hi hl hm'
      unfold runFun at hr
      cases hex : exec K g.body (startS args blks) with
      | none => simp [hex] at hr
      | some p =>
        obtain ⟨ex, s⟩ := p
        refine wp_mono (exec_sound hm hK g.body code _ _ _ _ _ _ hc hex hst) fun e a w' hp => ?_
        obtain ⟨rfl, F', σ', hs⟩ := hp
        cases ex with
        | nrm =>
          simp only [hex] at hr
          cases hvs : mapO (ev K s) g.res with
          | none => simp [hvs] at hr
          | some vs =>
            simp only [hvs] at hr
            exact fin s a w' F' σ' vs hs hvs hr
        | ret =>
          simp only [hex] at hr
          cases hvs : mapO (ev K s) g.res with
          | none => simp [hvs] at hr
          | some vs =>
            simp only [hvs] at hr
            exact fin s a w' F' σ' vs hs hvs hr
        | exit id => simp [hex] at hr
        | goto l => simp [hex] at hr

theorem pure_sound (hm : P.follows .mixedOrders = true) {K : Cx} (hK : K.Sound P) {f : FuncId} {g : Fun} {args : List V} {r : V} {news : List Blk} {mv : List Nat} (hok : funOk P f 0 args.length g = true) (hr : runFun K g args [] = some (r, news, mv)) :
    callable P f = true ∧ PureCall P K.glob f args r news := by
  have hcal : callable P f = true := by
    unfold funOk at hok
    cases hf : P.funcs[f]? with
    | none => simp [hf] at hok
    | some fn =>
      cases hb : fn.body with
      | none => simp [hf, hb] at hok
      | some code =>
        simp only [hf, hb, Bool.and_eq_true] at hok
        simp [callable, hf, hb, hok.2]
  refine ⟨hcal, fun w F vals hF hG hargs => ?_⟩
  have hX : ∀ b k, ¬ OwnB (fun _ => none) b k := by rintro b k ⟨l, h, _⟩; cases h
  have hH : HeapRel w F (OwnB fun _ => none) w.heap.size (fun _ => none) ([] : List Blk).length (indexed []) := ⟨fun b blk h => by simp [indexed, look] at h, fun b b' l l' h => (by cases h), fun b l h => (by cases h), hF⟩
  obtain ⟨_, h⟩ := run_sound hm hK hok hr hG hH hargs
  refine h.mono fun e w' ⟨v, F', σ', he, hfr, _, hF', hR, hHr, _⟩ => ⟨v, F', σ', he, ⟨hfr.os, hfr.tape, hfr.output, hfr.size, fun k hk => hfr.block k hk (fun b => hX b k)⟩, hF', hR, ⟨hHr.blk, hHr.inj, fun b l hb => ?_, hHr.fro⟩⟩
  obtain ⟨o1, o2, o3, o4⟩ := hHr.own b l hb
  exact ⟨o1, o2, o3.imp id (fun hx => hX b _ hx), o4⟩

theorem eff_sound (hm : P.follows .mixedOrders = true) {K : Cx} (hK : K.Sound P) {f : FuncId} {g : Fun} {args : List V} {blks : List Blk} {r : V} {news : List Blk} {mv : List Nat} (hok : funOk P f blks.length args.length g = true) (hr : runFun K g args blks = some (r, news, mv)) :
    callable P f = true ∧ EffCall P K.glob f args blks r news mv := by
  have hcal : callable P f = true := by
    unfold funOk at hok
    cases hf : P.funcs[f]? with
    | none => simp [hf] at hok
    | some fn =>
      cases hb : fn.body with
      | none => simp [hf, hb] at hok
      | some code =>
        simp only [hf, hb, Bool.and_eq_true] at hok
        simp [callable, hf, hb, hok.2]
  exact ⟨hcal, fun w F σ vals hG hH hargs => (run_sound hm hK hok hr hG hH hargs).2⟩

end Go.Vm
end

section
namespace Go.Vm

theorem iter_more {f : S → Option (Ex × S)} : ∀ {n : Nat} {s : S} {r : Ex × S}, iter f n s = some r → ∀ m, n ≤ m → iter f m s = some r
  | 0, s, r, h, m, _ => by simp [iter] at h
  | n + 1, s, r, h, 0, hm => by omega
  | n + 1, s, r, h, m + 1, hm => by
    simp only [iter] at h ⊢
    cases hf : f s with
    | none => simp [hf] at h
    | some p =>
      obtain ⟨e, s'⟩ := p
      cases e with
      | nrm => simp only [hf] at h ⊢; exact iter_more h m (by omega)
      | exit id => simpa [hf] using h
      | goto l => simpa [hf] using h
      | ret => simpa [hf] using h

theorem loopF_of {f : S → Option (Ex × S)} {n : Nat} {s : S} {r : Ex × S} (h : iter f n s = some r) : loopF f s = some r := by
  have hex : ∃ n, (iter f n s).isSome := ⟨n, by rw [h]; rfl⟩
  unfold loopF
  rw [dif_pos hex]
  have hc := hex.choose_spec
  obtain ⟨r', hr'⟩ := Option.isSome_iff_exists.1 hc
  have h1 := iter_more h (n + hex.choose) (by omega)
  have h2 := iter_more hr' (n + hex.choose) (by omega)
  rw [hr', ← h2, h1]

theorem jumps_more {f : Nat → Option (S → Option (Ex × S))} : ∀ {n : Nat} {q : Option (Ex × S)} {r : Ex × S}, jumps f n q = some r → ∀ m, n ≤ m → jumps f m q = some r
  | 0, q, r, h, m, _ => by simp [jumps] at h
  | n + 1, q, r, h, 0, hm => by omega
  | n + 1, q, r, h, m + 1, hm => by
    simp only [jumps] at h ⊢
    cases q with
    | none => simp at h
    | some p =>
      obtain ⟨e, s'⟩ := p
      cases e with
      | goto l =>
        simp only at h ⊢
        cases hl : f l with
        | none => simp [hl] at h
        | some g => simp only [hl] at h ⊢; exact jumps_more h m (by omega)
      | nrm => simpa using h
      | exit id => simpa using h
      | ret => simpa using h

theorem scopeF_of {f : Nat → Option (S → Option (Ex × S))} {n : Nat} {q : Option (Ex × S)} {r : Ex × S} (h : jumps f n q = some r) : scopeF f q = some r := by
  have hex : ∃ n, (jumps f n q).isSome := ⟨n, by rw [h]; rfl⟩
  unfold scopeF
  rw [dif_pos hex]
  have hc := hex.choose_spec
  obtain ⟨r', hr'⟩ := Option.isSome_iff_exists.1 hc
  have h1 := jumps_more h (n + hex.choose) (by omega)
  have h2 := jumps_more hr' (n + hex.choose) (by omega)
  rw [hr', ← h2, h1]

end Go.Vm
end

section
namespace Go.Vm
open Go.RowKit Go.Deep

variable {H : Type} {enc : TypeId × Value → H} {P : Program} {w : World} {spare : Nat → Bool} {held : Bool}

def TypedF (P : Program) (T : TypeId → List D → Prop) : List Field → List D → Prop
  | [], ds => ds = []
  | f :: fs, ds => ∃ a b, ds = a ++ b ∧ a.length = P.cellsOf f.type ∧ T f.type a ∧ TypedF P T fs b
def Typed (P : Program) : Nat → TypeId → List D → Prop
  | 0, _, _ => False
  | n + 1, t, ds => match P.underlying t with
    | some .bool => ∃ b, ds = [.bool b]
    | some (.int k) => ∃ m, ds = [.int k m] ∧ (Lit.int k m).wf = true
    | some .string => ∃ s, ds = [.str s] ∧ s.length ≤ maxLen
    | some (.slice e) => ∃ rows : List (List D), ds = [.sl (P.cellsOf e) rows] ∧ rows.length ≤ maxLen ∧ ∀ r ∈ rows, r.length = P.cellsOf e ∧ Typed P n e r
    | some (.struct fs) => TypedF P (Typed P n) fs.toList ds
    | _ => False

def There (w : World) (b : Nat) : Prop := b < w.heap.size

def RepL (w : World) (cs : List Value) (ds : List D) : Prop := ds.length = cs.length ∧ ∀ (j : Nat) (v : Value) (d : D), cs[j]? = some v → ds[j]? = some d → RepD w (There w) v d

theorem RepL.append {a b : List Value} {x y : List D} (h1 : RepL w a x) (h2 : RepL w b y) : RepL w (a ++ b) (x ++ y) := by
  refine ⟨by simp [h1.1, h2.1], fun j v d hv hd => ?_⟩
  by_cases hj : j < a.length
  · rw [List.getElem?_append_left hj] at hv
    rw [List.getElem?_append_left (by rw [h1.1]; exact hj)] at hd
    exact h1.2 j v d hv hd
  · rw [List.getElem?_append_right (by omega)] at hv
    rw [List.getElem?_append_right (by rw [h1.1]; omega), h1.1] at hd
    exact h2.2 _ v d hv hd

theorem RepL.one {v : Value} {d : D} (h : RepD w (There w) v d) : RepL w [v] [d] := by
  refine ⟨rfl, fun j u x hu hx => ?_⟩
  cases j with
  | zero => simp at hu hx; subst hu; subst hx; exact h
  | succ j => simp at hu

end Go.Vm
end

section
namespace Go.Vm
open Go.RowKit Go.Deep

variable {H : Type} {enc : TypeId × Value → H} {P : Program} {w : World} {spare : Nat → Bool} {held : Bool}

end Go.Vm
end

section
namespace Go.Vm
open Go.RowKit

variable {P : Program} {K : Cx} {n nn l : Nat} {X : Nat → Nat → Prop} {base : Nat} {w0 : World} {F0 : Nat → Prop} {m0 : Nat} {σ0 : Nat → Option Loc} {Q : Exit → Act → World → Prop}

end Go.Vm
end

section
namespace Go.Vm

def thn (x : Option (Ex × S)) (f : S → Option (Ex × S)) : Option (Ex × S) := match x with
  | some (.nrm, s) => f s
  | r => r
theorem thn_nrm (s : S) (f) : thn (some (.nrm, s)) f = f s := rfl
theorem thn_ret (s : S) (f) : thn (some (.ret, s)) f = some (.ret, s) := rfl
theorem thn_exit (n : Nat) (s : S) (f) : thn (some (.exit n, s)) f = some (.exit n, s) := rfl
def brn (x : Option V) (f g : S → Option (Ex × S)) (s : S) : Option (Ex × S) := match x with
  | some (.d _ (.bool b)) => if b then f s else g s
  | _ => none
theorem brn_true (c) (f g) (s : S) : brn (some (.d c (.bool true))) f g s = f s := rfl
theorem brn_false (c) (f g) (s : S) : brn (some (.d c (.bool false))) f g s = g s := rfl
def blk (id : Nat) (x : Option (Ex × S)) : Option (Ex × S) := match x with
  | some (.exit i, s') => if i = id then some (.nrm, s') else some (.exit i, s')
  | r => r
theorem blk_nrm (id) (s : S) : blk id (some (.nrm, s)) = some (.nrm, s) := rfl
theorem blk_ret (id) (s : S) : blk id (some (.ret, s)) = some (.ret, s) := rfl
theorem blk_exit (id i) (s : S) : blk id (some (.exit i, s)) = if i = id then some (.nrm, s) else some (.exit i, s) := rfl
def nrm (x : Option S) : Option (Ex × S) := x.map fun s => (.nrm, s)
theorem nrm_some (s : S) : nrm (some s) = some (.nrm, s) := rfl

theorem exec_skip (K s) : exec K .skip s = some (.nrm, s) := rfl
theorem exec_reg (K l s) : exec K (.reg l) s = nrm (evSegs K s l) := by
  simp only [exec, nrm]; cases evSegs K s l <;> rfl
theorem exec_seq (K a b s) : exec K (.seq a b) s = thn (exec K a s) (exec K b) := by
  simp only [exec, thn]; cases exec K a s with
  | none => rfl
  | some p => obtain ⟨e, s'⟩ := p; cases e <;> rfl
theorem exec_cond (K e a b s) : exec K (.cond e a b) s = brn (ev K s e) (exec K a) (exec K b) s := by
  simp only [exec, brn]
  rcases ev K s e with _ | v
  · rfl
  · cases v with
    | d c x => cases x <;> rfl
    | _ => rfl
theorem exec_block (K id c s) : exec K (.block id c) s = blk id (exec K c s) := by
  simp only [exec, blk]
  rcases exec K c s with _ | ⟨e, s'⟩
  · rfl
  · cases e <;> rfl
theorem exec_exit (K id s) : exec K (.exit id) s = some (.exit id, s) := rfl
theorem exec_ret (K s) : exec K .ret s = some (.ret, s) := rfl
theorem exec_tidy (K m l s) : exec K (.tidy m l) s = nrm (tidyS m l s) := by
  simp only [exec, nrm]; cases tidyS m l s <;> rfl
theorem exec_own (K t k s) : exec K (.own t k) s = match look s.rho t with
    | some (.fs _ k' []) => if k' = k then some (.nrm, ⟨put s.rho t (.bsl s.nx 0 0), (s.nx, .dat true k []) :: s.heap, s.nx + 1, s.mv⟩) else none
    | _ => none := rfl

def o1 {α β : Type} (f : α → Option β) (x : Option α) : Option β := x.bind f
theorem o1_some {α β : Type} (f : α → Option β) (a : α) : o1 f (some a) = f a := rfl
def o2 {α β γ : Type} (f : α → β → Option γ) (x : Option α) (y : Option β) : Option γ := x.bind fun a => y.bind fun b => f a b
theorem o2_some {α β γ : Type} (f : α → β → Option γ) (a : α) (b : β) : o2 f (some a) (some b) = f a b := rfl
def o4 (f : V → V → V → V → Option V) (x y z w : Option V) : Option V := x.bind fun a => y.bind fun b => z.bind fun c => w.bind fun d => f a b c d
noncomputable def segs (K : Cx) (r : List Seg) (s : S) : Option S := evSegs K s r
theorem segs_nil (K s) : segs K [] s = some s := rfl
theorem evSegs_cons (K s g r) : evSegs K s (g :: r) = o1 (segs K r) (evSeg K s g) := by
  simp only [evSegs, o1, segs]; cases evSeg K s g <;> rfl
theorem segs_cons (K s g r) : segs K (g :: r) s = o1 (segs K r) (evSeg K s g) := evSegs_cons K s g r

def segL (K : Cx) (s : S) (g : Seg) (p : S × List Blk) : Option S :=
  match evLets K p.1 g.lets with
    | some l => if evChk K p.1 g.chk then match g.wr with
        | none => some ⟨l ++ restrict p.1.rho g.keep, addBlks s.heap s.nx p.2, p.1.nx, s.mv⟩
        | some (d, wr) => match wonB K p.1 g.wg with
          | some true => match evWr K p.1 (addBlks s.heap s.nx p.2) wr with
            | some (H, v, q, nx) => match d with
              | some d => some ⟨(d, v) :: lose q (l ++ restrict p.1.rho g.keep), loseH q H, nx, q.ids ++ s.mv⟩
              | none => some ⟨lose q (l ++ restrict p.1.rho g.keep), loseH q H, nx, q.ids ++ s.mv⟩
            | none => none
          | some false => some ⟨l ++ restrict p.1.rho g.keep, addBlks s.heap s.nx p.2, p.1.nx, s.mv⟩
          | none => none
      else none
    | none => none

def segW (K : Cx) (s s1 : S) (news : List Blk) (keep : List Nat) (wr : Option (Option Nat × Wr)) (won : Option Bool) (chk : Bool) (l : Option (List (Nat × V))) : Option S :=
  match l with
  | some l => if chk then match wr with
      | none => some ⟨l ++ restrict s1.rho keep, addBlks s.heap s.nx news, s1.nx, s.mv⟩
      | some (d, wr) => match won with
        | some true => match evWr K s1 (addBlks s.heap s.nx news) wr with
          | some (H, v, q, nx) => match d with
            | some d => some ⟨(d, v) :: lose q (l ++ restrict s1.rho keep), loseH q H, nx, q.ids ++ s.mv⟩
            | none => some ⟨lose q (l ++ restrict s1.rho keep), loseH q H, nx, q.ids ++ s.mv⟩
          | none => none
        | some false => some ⟨l ++ restrict s1.rho keep, addBlks s.heap s.nx news, s1.nx, s.mv⟩
        | none => none
    else none
  | none => none

theorem evSeg_eq (K s mks lets chk wr keep cnt aux wg) : evSeg K s ⟨mks, lets, chk, wr, keep, cnt, aux, wg, []⟩ = o1 (segL K s ⟨[], lets, chk, wr, keep, cnt, [], wg, []⟩) (evMks K s mks) := by
  have h : ∀ mv, lateOk K s mv ⟨mks, lets, chk, wr, keep, cnt, aux, wg, []⟩ := fun mv e he => by simp at he
  have h2 : evSeg K s ⟨mks, lets, chk, wr, keep, cnt, aux, wg, []⟩ = evSeg0 K s ⟨mks, lets, chk, wr, keep, cnt, aux, wg, []⟩ := by
    unfold evSeg
    split
    · rename_i s' he; rw [if_pos (h _), he]
    · rename_i he; rw [he]
  rw [h2]
  simp only [evSeg0, o1, segL]; cases evMks K s mks <;> rfl
theorem segL_eq (K s mks lets chk wr keep cnt aux wg late s1 news) : segL K s ⟨mks, lets, chk, wr, keep, cnt, aux, wg, late⟩ (s1, news) = segW K s s1 news keep wr (wonB K s1 wg) (evChk K s1 chk) (evLets K s1 lets) := by
  simp only [segL, segW]
def segO (s : S) (d : Option Nat) (ρ : List (Nat × V)) (x : Option (List (Nat × Blk) × V × Lost × Nat)) : Option S := match x with
  | some (H, v, q, nx) => match d with
    | some d => some ⟨(d, v) :: lose q ρ, loseH q H, nx, q.ids ++ s.mv⟩
    | none => some ⟨lose q ρ, loseH q H, nx, q.ids ++ s.mv⟩
  | none => none
theorem segO_some (s d ρ H v q nx) : segO s (some d) ρ (some (H, v, q, nx)) = some ⟨(d, v) :: lose q ρ, loseH q H, nx, q.ids ++ s.mv⟩ := rfl
theorem segO_none (s ρ H v q nx) : segO s none ρ (some (H, v, q, nx)) = some ⟨lose q ρ, loseH q H, nx, q.ids ++ s.mv⟩ := rfl
theorem segW_none (K s s1 news keep won l) : segW K s s1 news keep none won true (some l) = some ⟨l ++ restrict s1.rho keep, addBlks s.heap s.nx news, s1.nx, s.mv⟩ := rfl
theorem segW_some (K s s1 news keep d wr l) : segW K s s1 news keep (some (d, wr)) (some true) true (some l) = segO s d (l ++ restrict s1.rho keep) (evWr K s1 (addBlks s.heap s.nx news) wr) := by
  simp only [segW, segO, if_true]
theorem evMks_nil (K s) : evMks K s [] = some (s, []) := rfl
def mksA (K : Cx) (s : S) (d : Nat) (r : List (Nat × Mk)) (p : V × List Blk) : Option (S × List Blk) :=
  match evMks K ⟨put s.rho d p.1, s.heap, s.nx + p.2.length, s.mv⟩ r with
  | some (s', more) => some (s', p.2 ++ more)
  | none => none
def mksB (news : List Blk) (p : S × List Blk) : Option (S × List Blk) := some (p.1, news ++ p.2)
theorem mksB_eq (news s' more) : mksB news (s', more) = some (s', news ++ more) := rfl
theorem evMks_cons (K s d m r) : evMks K s ((d, m) :: r) = o1 (mksA K s d r) (evMk K s m) := by
  simp only [evMks, o1, mksA]; cases evMk K s m <;> rfl
theorem mksA_eq (K s d r v news) : mksA K s d r (v, news) = o1 (mksB news) (evMks K ⟨put s.rho d v, s.heap, s.nx + news.length, s.mv⟩ r) := by
  simp only [mksA, o1]; cases evMks K ⟨put s.rho d v, s.heap, s.nx + news.length, s.mv⟩ r <;> rfl

theorem evLets_nil (K s) : evLets K s [] = some [] := rfl
def letC (d : Nat) (v : V) (l : List (Nat × V)) : Option (List (Nat × V)) := some ((d, v) :: l)
theorem letC_eq (d v l) : letC d v l = some ((d, v) :: l) := rfl
theorem evLets_cons (K s d e r) : evLets K s ((d, e) :: r) = o2 (letC d) (ev K s e) (evLets K s r) := by
  simp only [evLets, o2, letC]; cases ev K s e <;> cases evLets K s r <;> rfl
theorem evChk_nil (K s) : evChk K s [] = true := rfl
theorem evChk_cons (K s e r) : evChk K s (e :: r) = ((ev K s e).isSome && evChk K s r) := rfl
theorem wonB_nil (K s) : wonB K s [] = some true := rfl

theorem e_sl (K s t) : ev K s (.sl t) = look s.rho t := rfl
theorem e_int (K s k n) : ev K s (.int k n) = some (.int k n) := rfl
theorem e_bool (K s b) : ev K s (.bool b) = some (.bool b) := rfl
theorem e_nilsl (K s k) : ev K s (.nilsl k) = some (.fs true k []) := rfl
theorem e_nilp (K s) : ev K s .nilp = some (.d false .nilp) := rfl
theorem e_un (K s o a) : ev K s (.un o a) = o1 (evUn o) (ev K s a) := by
  simp only [ev, o1]; cases ev K s a <;> rfl
theorem e_bin (K s o a b) : ev K s (.bin o a b) = o2 (evBin o) (ev K s a) (ev K s b) := by
  simp only [ev, o2]; cases ev K s a <;> cases ev K s b <;> rfl
theorem e_eqs (K s n g ks a b) : ev K s (.eqs n g ks a b) = o2 (evEqs n g ks) (ev K s a) (ev K s b) := by
  simp only [ev, o2]; cases ev K s a <;> cases ev K s b <;> rfl
def andV (x y : Option V) : Option V := match x, y with
  | some (.d _ (.bool x)), some (.d _ (.bool y)) => some (.bool (x && y))
  | some (.d _ (.bool false)), _ => some (.bool false)
  | _, _ => none
theorem andV_some (c c' x y) : andV (some (.d c (.bool x))) (some (.d c' (.bool y))) = some (.bool (x && y)) := by cases x <;> rfl
theorem andV_false (c y) : andV (some (.d c (.bool false))) y = some (.bool false) := by
  unfold andV; split <;> simp_all
theorem e_and (K s a b) : ev K s (.and a b) = andV (ev K s a) (ev K s b) := rfl
def orV (x y : Option V) : Option V := match x, y with
  | some (.d _ (.bool x)), some (.d _ (.bool y)) => some (.bool (x || y))
  | some (.d _ (.bool true)), _ => some (.bool true)
  | _, _ => none
theorem orV_some (c c' x y) : orV (some (.d c (.bool x))) (some (.d c' (.bool y))) = some (.bool (x || y)) := by cases x <;> rfl
theorem e_or (K s a b) : ev K s (.or a b) = orV (ev K s a) (ev K s b) := rfl
theorem e_fa (K s o a) : ev K s (.fa o a) = o1 (evFa o) (ev K s a) := by
  simp only [ev, o1]; cases ev K s a <;> rfl
theorem e_ia (K s k a b) : ev K s (.ia k a b) = o2 (evIa s.heap k) (ev K s a) (ev K s b) := by
  simp only [ev, o2]; cases ev K s a <;> cases ev K s b <;> rfl
theorem e_ld (K s n g a) : ev K s (.ld n g a) = o1 (evLd s.heap n g) (ev K s a) := by
  simp only [ev, o1]; cases ev K s a <;> rfl
theorem e_len (K s b a) : ev K s (.len b a) = o1 (evLen b) (ev K s a) := by
  simp only [ev, o1]; cases ev K s a <;> rfl
def aggV : V → Option V
  | .tup vs => some (.agg vs)
  | _ => none
theorem aggV_tup (vs) : aggV (.tup vs) = some (.agg vs) := rfl
theorem e_agg (K s a) : ev K s (.agg a) = o1 aggV (ev K s a) := by
  simp only [ev, o1]; cases ev K s a with
  | none => rfl
  | some v => cases v <;> rfl
theorem e_set (K s o n a b) : ev K s (.set o n a b) = o2 (evSet o n) (ev K s a) (ev K s b) := by
  simp only [ev, o2]; cases ev K s a <;> cases ev K s b <;> rfl
def callV (K : Cx) (H : List (Nat × Blk)) (f : FuncId) : V → Option V
  | .tup vs => evCall K H f vs
  | _ => none
theorem callV_tup (K H f vs) : callV K H f (.tup vs) = evCall K H f vs := rfl
theorem e_call (K s f a) : ev K s (.call f a) = o1 (callV K s.heap f) (ev K s a) := by
  simp only [ev, o1]; cases ev K s a with
  | none => rfl
  | some v => cases v <;> rfl
theorem e_nil (K s) : ev K s .nil = some (.tup []) := rfl
def consV (v : V) : V → Option V
  | .tup vs => some (.tup (v :: vs))
  | _ => none
theorem consV_tup (v vs) : consV v (.tup vs) = some (.tup (v :: vs)) := rfl
theorem e_cons (K s a b) : ev K s (.cons a b) = o2 consV (ev K s a) (ev K s b) := by
  simp only [ev, o2]; cases ev K s a with
  | none => rfl
  | some v => cases ev K s b with
    | none => rfl
    | some u => cases u <;> rfl

def callR (own ps : Bool) (x : Option (V × List Blk)) : Option V := match x with
  | some (r, []) => if ps then some r.renew else if own && !r.new then none else some r
  | some (r, b :: bs) => if own then none else view (indexed (b :: bs)) r
  | _ => none
theorem callR_news (ps r b bs) : callR false ps (some (r, b :: bs)) = view (indexed (b :: bs)) r := rfl
theorem callR_some (own r) : callR own false (some (r, [])) = if own && !r.new then none else some r := rfl
def callA (K : Cx) (f : FuncId) (own ps : Bool) (ws : List V) : Option V := callR own ps (K.call f ws)
theorem callA_eq (K f own ps ws) : callA K f own ps ws = callR own ps (K.call f ws) := rfl
theorem passes_eq (C : Cx) (f vs) : passes C f vs = (vs.all V.new && !vs.all V.flatV && C.loc f) := rfl
theorem evCall_eq (K H f vs) : evCall K H f vs = o1 (callA K f (vs.any V.own) (passes K f vs)) (mapO (view H) vs) := by
  unfold evCall
  cases mapO (view H) vs with
  | none => rfl
  | some ws =>
    show _ = callR (vs.any V.own) (passes K f vs) (K.call f ws)
    cases hk : K.call f ws with
    | none => simp [hk, callR]
    | some p => obtain ⟨r, news⟩ := p; cases news <;> simp [hk, callR]
def mapC {β : Type} (b : β) (bs : List β) : Option (List β) := some (b :: bs)
theorem mapC_eq {β : Type} (b : β) (bs) : mapC b bs = some (b :: bs) := rfl
theorem mapO_nil {α β : Type} (f : α → Option β) : mapO f [] = some [] := rfl
theorem mapO_cons {α β : Type} (f : α → Option β) (a r) : mapO f (a :: r) = o2 mapC (f a) (mapO f r) := by
  simp only [mapO, o2, mapC]; cases f a <;> cases mapO f r <;> rfl

def mkBox (nx : Nat) (v : V) : Option (V × List Blk) := if v.laid then some (.ptr nx 0 0, [.mix v.cells.length [v.cells]]) else none
theorem evMk_box (K s e) : evMk K s (.box e) = o1 (mkBox s.nx) (ev K s e) := by
  simp only [evMk, o1, mkBox]; cases ev K s e <;> rfl
def mkMks (nx k : Nat) (z l c : V) : Option (V × List Blk) := match z, l, c with
  | .tup zs, .d _ (.int _ n), .d _ (.int _ c) => match mapO asD zs with
    | some ds => if 0 ≤ n ∧ n ≤ c ∧ c ≤ most ∧ ds.length = k ∧ 0 < k ∧ ds.all D.flat then some (.bsl nx 0 n.toNat, [.dat true k (List.replicate n.toNat ds)]) else none
    | none => none
  | _, _, _ => none
def o3 {β : Type} (f : V → V → V → Option β) (x y z : Option V) : Option β := x.bind fun a => y.bind fun b => z.bind fun c => f a b c
theorem o3_some {β : Type} (f : V → V → V → Option β) (a b c : V) : o3 f (some a) (some b) (some c) = f a b c := rfl
theorem evMk_mks (K s k z l c) : evMk K s (.mks k z l c) = o3 (mkMks s.nx k) (ev K s z) (ev K s l) (ev K s c) := by
  simp only [evMk, o3]
  cases ev K s z with
  | none => rfl
  | some z => cases ev K s l with
    | none => cases z <;> rfl
    | some l => cases ev K s c with
      | none =>
        cases z <;> try rfl
        cases l <;> try rfl
        rename_i d; cases d <;> rfl
      | some c =>
        cases z <;> try rfl
        cases l <;> try rfl
        rename_i d; cases d <;> try rfl
        cases c <;> try rfl
        rename_i d; cases d <;> rfl
def mkLits (nx k : Nat) : V → Option (V × List Blk)
  | .tup vs => if vs.all (fun v => v.laid && v.cells.length == k) && decide (0 < k) then some (.bsl nx 0 vs.length, [mkBlk k (vs.map V.cells)]) else none
  | _ => none
theorem mkLits_tup (nx k vs) : mkLits nx k (.tup vs) = if vs.all (fun v => v.laid && v.cells.length == k) && decide (0 < k) then some (.bsl nx 0 vs.length, [mkBlk k (vs.map V.cells)]) else none := rfl
theorem evMk_lits (K s k e) : evMk K s (.lits k e) = o1 (mkLits s.nx k) (ev K s e) := by
  simp only [evMk, o1]; cases ev K s e with
  | none => rfl
  | some v => cases v <;> rfl
def mkOR (nx : Nat) (own : Bool) (x : Option (V × List Blk)) : Option (V × List Blk) := match x with
  | some (r, news) => if news.all Blk.plain && (!own || (r.new2 && news.all Blk.new)) then some (r.shift nx, news) else none
  | none => none
theorem mkOR_some (nx own r news) : mkOR nx own (some (r, news)) = if news.all Blk.plain && (!own || (r.new2 && news.all Blk.new)) then some (r.shift nx, news) else none := rfl
def mkOA (K : Cx) (nx : Nat) (f : FuncId) (own : Bool) (ws : List V) : Option (V × List Blk) := mkOR nx own (K.call f ws)
theorem mkOA_eq (K nx f own ws) : mkOA K nx f own ws = mkOR nx own (K.call f ws) := rfl
def mkO (K : Cx) (s : S) (f : FuncId) : V → Option (V × List Blk)
  | .tup vs => o1 (mkOA K s.nx f (vs.any V.own)) (mapO (view s.heap) vs)
  | _ => none
theorem mkO_tup (K s f vs) : mkO K s f (.tup vs) = o1 (mkOA K s.nx f (vs.any V.own)) (mapO (view s.heap) vs) := rfl
theorem evMk_callo (K s f e) : evMk K s (.callo f e) = o1 (mkO K s f) (ev K s e) := by
  simp only [evMk, o1]; cases ev K s e with
  | none => rfl
  | some v =>
    cases v <;> try rfl
    rename_i vs
    simp only [Option.bind_some, mkO, o1]
    cases mapO (view s.heap) vs with
    | none => rfl
    | some ws => simp only [Option.bind_some, mkOA, mkOR]; cases K.call f ws <;> rfl

def wrStore (H : List (Nat × Blk)) (nx n : Nat) (a x : V) : Option (List (Nat × Blk) × V × Lost × Nat) := match a with
  | .ptr b i j => if x.laid && x.cells.length == n then match look H b with
        | some blk => match blk.set i j x.cells with
          | some blk' => some (put H b blk', .junk, .none, nx)
          | none => none
        | none => none
      else none
  | _ => none
def stB (H : List (Nat × Blk)) (nx b : Nat) (x : Option Blk) : Option (List (Nat × Blk) × V × Lost × Nat) := x.bind fun k => some (put H b k, .junk, .none, nx)
theorem stB_some (H nx b k) : stB H nx b (some k) = some (put H b k, .junk, .none, nx) := rfl
def stA (H : List (Nat × Blk)) (nx b i j : Nat) (cs : List V) (k : Blk) : Option (List (Nat × Blk) × V × Lost × Nat) := stB H nx b (k.set i j cs)
theorem stA_eq (H nx b i j cs k) : stA H nx b i j cs k = stB H nx b (k.set i j cs) := rfl
theorem wrStore_ptr (H nx n b i j x) : wrStore H nx n (.ptr b i j) x = if x.laid && x.cells.length == n then o1 (stA H nx b i j x.cells) (look H b) else none := by
  simp only [wrStore]
  split
  · cases look H b with
    | none => rfl
    | some k => simp only [o1, Option.bind_some, stA, stB]; cases k.set i j x.cells <;> rfl
  · rfl
theorem evWr_store (K s H n a v) : evWr K s H (.store n a v) = o2 (wrStore H s.nx n) (ev K s a) (ev K s v) := by
  simp only [evWr, o2]
  cases ev K s a with
  | none => rfl
  | some a => cases ev K s v with
    | none => cases a <;> rfl
    | some v => cases a <;> rfl
def wrApp (s : S) (H : List (Nat × Blk)) (k : Nat) (x : V) (rows : Rows) : Option (List (Nat × Blk) × V × Lost × Nat) := match x with
  | .bsl id i len => match look H id with
    | some blk => if i = 0 ∧ blk.n = len ∧ blk.k = k ∧ len + rows.n ≤ most then some (put H id (blk.app rows), .bsl id 0 (len + rows.n), .some id, s.nx) else none
    | none => none
  | .fs _ k' [] => if k' = k ∧ rows.n ≤ most then some ((s.nx, rows.blk k) :: H, .bsl s.nx 0 rows.n, .none, s.nx + 1) else none
  | _ => none
def apA (s : S) (H : List (Nat × Blk)) (k id i len : Nat) (rows : Rows) (blk : Blk) : Option (List (Nat × Blk) × V × Lost × Nat) :=
  if i = 0 ∧ blk.n = len ∧ blk.k = k ∧ len + rows.n ≤ most then some (put H id (blk.app rows), .bsl id 0 (len + rows.n), .some id, s.nx) else none
theorem wrApp_bsl (s H k id i len rows) : wrApp s H k (.bsl id i len) rows = o1 (apA s H k id i len rows) (look H id) := by
  simp only [wrApp, o1, apA]; cases look H id <;> rfl
theorem wrApp_fs (s H k c rows) (h : rows.n ≤ most) : wrApp s H k (.fs c k []) rows = some ((s.nx, rows.blk k) :: H, .bsl s.nx 0 rows.n, .none, s.nx + 1) := if_pos ⟨rfl, h⟩
theorem evWr_app (K s H k a b) : evWr K s H (.app k a b) = o2 (wrApp s H k) (ev K s a) (o1 (rowsOf H k) (ev K s b)) := by
  simp only [evWr, o2, o1]
  cases ev K s a with
  | none => rfl
  | some x => cases ev K s b with
    | none => cases x <;> rfl
    | some y =>
      simp only [Option.bind_some]
      cases rowsOf H k y <;> rfl
def wrEff (K : Cx) (nx : Nat) (H : List (Nat × Blk)) (f : FuncId) : V → Option (List (Nat × Blk) × V × Lost × Nat)
  | .tup vs => match calleeOf f vs with
    | some (g, ws) => evEff K nx H g ws (reachB H 64 [] (refsL ws))
    | none => none
  | _ => none
theorem wrEff_tup {K nx H f vs} (h : (f == 4294967295) = false) : wrEff K nx H f (.tup vs) = evEff K nx H f vs (reachB H 64 [] (refsL vs)) := by
  simp only [wrEff, calleeOf, dynF, h, Bool.false_eq_true, if_false]
theorem evWr_calle (K s H f e) : evWr K s H (.calle f e) = o1 (wrEff K s.nx H f) (ev K s e) := by
  simp only [evWr, o1]; cases ev K s e with
  | none => rfl
  | some v => cases v with
    | tup vs => rfl
    | _ => rfl

def effR (nx : Nat) (H : List (Nat × Blk)) (bs : List Nat) (p : V × List Blk × List Nat) : Option (List (Nat × Blk) × V × Lost × Nat) :=
  if bs.length ≤ p.2.1.length then some (putAll (loseM (p.2.2.map (backB bs nx)) H) (backB bs nx) 0 p.2.1, p.1.ren (backB bs nx), .many (p.2.2.map (backB bs nx)), nx + (p.2.1.length - bs.length)) else none
theorem effR_eq (nx H bs r b m) : effR nx H bs (r, b, m) = if bs.length ≤ b.length then some (putAll (loseM (m.map (backB bs nx)) H) (backB bs nx) 0 b, r.ren (backB bs nx), .many (m.map (backB bs nx)), nx + (b.length - bs.length)) else none := rfl
def effA (K : Cx) (nx : Nat) (H : List (Nat × Blk)) (f : FuncId) (vs : List V) (bs : List Nat) (blks : List Blk) : Option (List (Nat × Blk) × V × Lost × Nat) := o1 (effR nx H bs) (K.eff f (vs.map fun v => v.dim.ren bs.idxOf) blks)
theorem effA_eq (K nx H f vs bs blks) : effA K nx H f vs bs blks = o1 (effR nx H bs) (K.eff f (vs.map fun v => v.dim.ren bs.idxOf) blks) := rfl
theorem evEff_eq (K nx H f vs bs) : evEff K nx H f vs bs = if decide bs.Nodup && vs.all (V.within bs.contains) && closedB H bs then o1 (effA K nx H f vs bs) (handed H bs) else none := by
  unfold evEff
  split
  · cases handed H bs with
    | none => rfl
    | some blks =>
      simp only [o1_some, effA]
      cases K.eff f (vs.map fun v => v.dim.ren bs.idxOf) blks with
      | none => rfl
      | some p => obtain ⟨r, b, m⟩ := p; rfl
  · rfl
theorem backB_eq (bs nx i) : backB bs nx i = (bs[i]?).getD (nx + (i - bs.length)) := by
  unfold backB; cases bs[i]? <;> rfl
theorem look_nil {α : Type} (t) : look ([] : List (Nat × α)) t = none := rfl
def lookB {α : Type} (v : α) (r : List (Nat × α)) (t : Nat) : Bool → Option α
  | true => some v
  | false => look r t
theorem lookB_true {α : Type} (v : α) (r t) : lookB v r t true = some v := rfl
theorem lookB_false {α : Type} (v : α) (r t) : lookB v r t false = look r t := rfl
theorem look_cons {α : Type} (k v r t) : look ((k, v) :: r : List (Nat × α)) t = lookB v r t (k == t) := by
  simp only [look]
  by_cases h : k = t
  · simp [h, lookB]
  · have : (k == t) = false := by simpa using h
    simp [h, this, lookB]
def putB {α : Type} (k : Nat) (u : α) (r : List (Nat × α)) (t : Nat) (v : α) : Bool → List (Nat × α)
  | true => (t, v) :: r
  | false => (k, u) :: put r t v
theorem putB_true {α : Type} (k : Nat) (u : α) (r t v) : putB k u r t v true = (t, v) :: r := rfl
theorem putB_false {α : Type} (k : Nat) (u : α) (r t v) : putB k u r t v false = (k, u) :: put r t v := rfl
theorem put_nil {α : Type} (t v) : put ([] : List (Nat × α)) t v = [(t, v)] := rfl
theorem put_cons {α : Type} (k u r t v) : put ((k, u) :: r : List (Nat × α)) t v = putB k u r t v (k == t) := by
  simp only [put]
  by_cases h : k = t
  · simp [h, putB]
  · have : (k == t) = false := by simpa using h
    simp [h, this, putB]
def resC {α : Type} (l : List (Nat × α)) (t : Nat) (r : List Nat) (x : Option α) : List (Nat × α) := match x with
  | some v => (t, v) :: restrict l r
  | none => restrict l r
theorem resC_some {α : Type} (l : List (Nat × α)) (t r v) : resC l t r (some v) = (t, v) :: restrict l r := rfl
theorem restrict_nil {α : Type} (l : List (Nat × α)) : restrict l [] = [] := rfl
theorem restrict_cons {α : Type} (l : List (Nat × α)) (t r) : restrict l (t :: r) = resC l t r (look l t) := rfl

noncomputable def endF (K : Cx) (res : List E) (own : Bool) (m : Nat) (x : Option (Ex × S)) : Option (V × List Blk × List Nat) := match x with
  | some (.nrm, s) => o1 (finish m own s) ((mapO (ev K s) res).map oneOr)
  | some (.ret, s) => o1 (finish m own s) ((mapO (ev K s) res).map oneOr)
  | _ => none
theorem endF_ret (K res own m s) : endF K res own m (some (.ret, s)) = o1 (finish m own s) ((mapO (ev K s) res).map oneOr) := rfl
theorem runFun_eq (K body res own args blks) : runFun K ⟨body, res, own⟩ args blks = endF K res own blks.length (exec K body (startS args blks)) := by
  unfold runFun endF
  simp only
  cases exec K body (startS args blks) with
  | none => rfl
  | some p =>
    obtain ⟨e, s⟩ := p
    cases e <;> try rfl
    all_goals
      simp only [o1]
      cases mapO (ev K s) res <;> rfl

theorem loopF_unfold (f : S → Option (Ex × S)) (s : S) : loopF f s = match f s with
    | some (.nrm, s') => loopF f s'
    | r => r := by
  have key : ∀ r, loopF f s = some r → (match f s with | some (.nrm, s') => loopF f s' | r => r) = some r := by
    intro r h
    unfold loopF at h
    split at h
    · rename_i hex
      generalize hex.choose = n at h
      cases n with
      | zero => simp [iter] at h
      | succ n =>
        simp only [iter] at h
        cases hf : f s with
        | none => simp [hf] at h
        | some p =>
          obtain ⟨e, s'⟩ := p
          cases e with
          | nrm => simp only [hf] at h ⊢; exact loopF_of h
          | _ => simpa [hf] using h
    · cases h
  have back : ∀ r, (match f s with | some (.nrm, s') => loopF f s' | r => r) = some r → loopF f s = some r := by
    intro r h
    cases hf : f s with
    | none => simp [hf] at h
    | some p =>
      obtain ⟨e, s'⟩ := p
      cases e with
      | nrm =>
        simp only [hf] at h
        have h0 := h
        unfold loopF at h
        split at h
        · rename_i hex
          exact loopF_of (n := hex.choose + 1) (by simp only [iter, hf]; exact h)
        · cases h
      | exit id => exact loopF_of (n := 1) (by simpa [iter, hf] using h)
      | goto id => exact loopF_of (n := 1) (by simpa [iter, hf] using h)
      | ret => exact loopF_of (n := 1) (by simpa [iter, hf] using h)
  cases h1 : loopF f s with
  | some r => exact (key r h1).symm
  | none =>
    cases h2 : (match f s with | some (.nrm, s') => loopF f s' | r => r) with
    | none => rfl
    | some r => rw [back r h2] at h1; cases h1

noncomputable def lp (K : Cx) (m : Nat) (sl : List Nat) (body : C) (s : S) : Option (Ex × S) := match exec K body s with
  | some (.nrm, s') => exec K (.loop (.seq (.tidy m sl) body)) s'
  | r => r
noncomputable def lpT (K : Cx) (m : Nat) (sl : List Nat) (body : C) (x : Option (Ex × S)) : Option (Ex × S) := match x with
  | some (.nrm, s') => o1 (lp K m sl body) (tidyS m sl s')
  | r => r
theorem lpT_nrm (K m sl body s) : lpT K m sl body (some (.nrm, s)) = o1 (lp K m sl body) (tidyS m sl s) := rfl
theorem lpT_exit (K m sl body n s) : lpT K m sl body (some (.exit n, s)) = some (.exit n, s) := rfl
theorem lpT_ret (K m sl body s) : lpT K m sl body (some (.ret, s)) = some (.ret, s) := rfl
theorem exec_loop (K m sl body s) : exec K (.loop (.seq (.tidy m sl) body)) s = o1 (lp K m sl body) (tidyS m sl s) := by
  show loopF (exec K (.seq (.tidy m sl) body)) s = _
  rw [loopF_unfold, exec_seq, exec_tidy]
  cases tidyS m sl s with
  | none => rfl
  | some s' =>
    rw [nrm_some, thn_nrm, o1_some]
    rfl
theorem lp_eq0 (K m sl body s) : lp K m sl body s = lpT K m sl body (exec K body s) := by
  unfold lp lpT
  cases exec K body s with
  | none => rfl
  | some p =>
    obtain ⟨e, s'⟩ := p
    cases e <;> try rfl
    exact exec_loop K m sl body s'
theorem lp_un {K m sl body body' s} (h : body = body') : lp K m sl body s = lpT K m sl body (exec K body' s) := by
  subst h; exact lp_eq0 K m sl body s

end Go.Vm
end

section
namespace Go.Vm

def nth {α : Type} [Inhabited α] (l : List α) (n : Int) : α := l.getD n.toNat default

theorem nth_nat {α : Type} [Inhabited α] (l : List α) (i : Nat) : nth l (i : Int) = l.getD i default := by simp [nth]
theorem nth_get? {α : Type} [Inhabited α] {l : List α} {n : Int} (h : n.toNat < l.length) : l[n.toNat]? = some (nth l n) := by
  unfold nth; rw [List.getD_eq_getElem?_getD, List.getElem?_eq_getElem h]; rfl
theorem nth_getElem {α : Type} [Inhabited α] {l : List α} {n : Int} (h : n.toNat < l.length) : l[n.toNat] = nth l n := by
  have := nth_get? h
  rw [List.getElem?_eq_getElem h] at this
  exact Option.some.inj this
def tidyB (m : Nat) (H : List (Nat × Blk)) (mv : List Nat) (ρ : List (Nat × V)) (bs : List Nat) : Option S :=
  if decide bs.Nodup && decide (bs.take m = List.range m) && ρ.all (fun p => p.2.within bs.contains) && closedB H bs then
    some ⟨ρ.map fun p => (p.1, p.2.ren bs.idxOf), bs.zipIdx.filterMap fun p => (look H p.1).map fun k => (p.2, k.ren bs.idxOf), bs.length, (List.range m).filter mv.contains⟩
  else none
def tidyA (m : Nat) (H : List (Nat × Blk)) (mv : List Nat) (ρ : List (Nat × V)) : Option S := tidyB m H mv ρ (reachB H 64 [] (List.range m ++ refsL (ρ.map (·.2))))
theorem tidyS_a (m slots ρ H nx mv) : tidyS m slots ⟨ρ, H, nx, mv⟩ = tidyA m H mv (restrict ρ slots) := rfl
theorem tidyA_eq (m H mv ρ) : tidyA m H mv ρ = tidyB m H mv ρ (reachB H 64 [] (List.range m ++ refsL (ρ.map (·.2)))) := rfl
theorem tidyB_eq (m H mv ρ bs) : tidyB m H mv ρ bs = if decide bs.Nodup && decide (bs.take m = List.range m) && ρ.all (fun p => p.2.within bs.contains) && closedB H bs then
    some ⟨ρ.map fun p => (p.1, p.2.ren bs.idxOf), bs.zipIdx.filterMap fun p => (look H p.1).map fun k => (p.2, k.ren bs.idxOf), bs.length, (List.range m).filter mv.contains⟩
  else none := rfl
theorem reachB_nil (H n done) : reachB H n done [] = done := by cases n <;> rfl
def reachC (H : List (Nat × Blk)) (n : Nat) (done : List Nat) (b : Nat) (todo : List Nat) : Bool → List Nat
  | true => reachB H n done todo
  | false => reachB H n (done ++ [b]) (todo ++ (match look H b with | some k => k.refs | none => []))
def refsO : Option Blk → List Nat
  | some k => k.refs
  | none => []
theorem refsO_some (k) : refsO (some k) = k.refs := rfl
theorem reachB_cons (H n done b todo) : reachB H (n + 1) done (b :: todo) = reachC H n done b todo (done.contains b) := by
  simp only [reachB]; cases done.contains b <;> rfl
theorem reachC_true (H n done b todo) : reachC H n done b todo true = reachB H n done todo := rfl
theorem reachC_false (H n done b todo) : reachC H n done b todo false = reachB H n (done ++ [b]) (todo ++ refsO (look H b)) := by
  simp only [reachC, refsO]

theorem evIa_d (H k c rows c' kd) (n : Int) : evIa H k (.d c (.sl k rows)) (.d c' (.int kd n)) = if 0 ≤ n then (rows[n.toNat]?).map (fun row => .d c (.ptr row)) else none := by
  simp only [evIa]
  by_cases h : 0 ≤ n <;> simp [h]
  cases rows[n.toNat]? <;> rfl
theorem evIa_dm {α : Type} [Inhabited α] (H k c) (l : List α) (e : α → List D) (c' kd) (n : Int) (h0 : 0 ≤ n) (h : n < l.length) : evIa H k (.d c (.sl k (l.map e))) (.d c' (.int kd n)) = some (.d c (.ptr (e (nth l n)))) := by
  rw [evIa_d, if_pos h0, List.getElem?_map, nth_get? (by omega)]; rfl
def iaB (k b i len : Nat) (n : Int) (blk : Blk) : Option V := if blk.k = k ∧ 0 ≤ n ∧ n < len then some (.ptr b (i + n.toNat) 0) else none
theorem evIa_bsl (H k b i len c kd) (n : Int) : evIa H k (.bsl b i len) (.d c (.int kd n)) = o1 (iaB k b i len n) (look H b) := by
  simp only [evIa, o1, iaB]; cases look H b <;> rfl
theorem iaB_dat (k b i) (len : Nat) (n : Int) (c rows) (h0 : 0 ≤ n) (h : n < len) : iaB k b i len n (.dat c k rows) = some (.ptr b (i + n.toNat) 0) := if_pos ⟨rfl, h0, h⟩
def ldR (n : Nat) (g : Bool) (j : Nat) (row : List V) : Option V := part g n (row.drop j)
theorem ldR_eq (n g j row) : ldR n g j row = part g n (row.drop j) := rfl
def ldB (n : Nat) (g : Bool) (i j : Nat) (blk : Blk) : Option V := o1 (ldR n g j) (blk.row? i)
theorem ldB_eq (n g i j blk) : ldB n g i j blk = o1 (ldR n g j) (blk.row? i) := rfl
theorem evLd_ptr (H n g b i j) : evLd H n g (.ptr b i j) = o1 (ldB n g i j) (look H b) := by
  simp only [evLd, o1, ldB, ldR]
  cases look H b with
  | none => rfl
  | some blk =>
    show _ = o1 (ldR n g j) (blk.row? i)
    cases h : blk.row? i <;> simp [h, o1, ldR]
theorem evLd_d (H n g c cells) : evLd H n g (.d c (.ptr cells)) = part g n (cells.map (mkd c)) := rfl
theorem part_true (n cs) : part true n cs = if n ≤ cs.length then some (.agg (cs.take n)) else none := rfl
theorem part_one (v cs) : part false 1 (v :: cs) = some v := rfl
theorem row_mix (k rows i) : (Blk.mix k rows).row? i = rows[i]? := rfl
theorem set_mix0 (k row rows j cells) : (Blk.mix k (row :: rows)).set 0 j cells = if j + cells.length ≤ row.length then some (.mix k (splice j cells row :: rows)) else none := by
  simp [Blk.set]
def setD (c : Bool) (k : Nat) (rows : List (List D)) (row : List D) (i j : Nat) (cells : List V) (x : Option (List D)) : Option Blk := match x with
  | some ds => some (.dat (c && cells.all V.new1) k (rows.set i (splice j ds row)))
  | none => some (.mix k ((rows.map (·.map (mkd c))).set i (splice j cells (row.map (mkd c)))))
theorem set_datm {α : Type} [Inhabited α] (c k) (l : List α) (e : α → List D) (i j cells) (hi : i < l.length) : (Blk.dat c k (l.map e)).set i j cells = if j + cells.length ≤ (e (nth l i)).length then setD c k (l.map e) (e (nth l i)) i j cells (mapO asD cells) else none := by
  have : (l.map e)[i]? = some (e (nth l i)) := by
    rw [List.getElem?_map, List.getElem?_eq_getElem hi, nth_nat, List.getD_eq_getElem?_getD, List.getElem?_eq_getElem hi]; rfl
  simp only [Blk.set, this, setD]
  split
  · cases mapO asD cells <;> rfl
  · rfl
theorem wrap64 {x : Int} (h1 : -9223372036854775808 ≤ x) (h2 : x ≤ 9223372036854775807) : IntKind.i64.wrap x = x := by
  unfold IntKind.wrap
  have e1 : (2 : Int) ^ IntKind.i64.bits = 18446744073709551616 := by decide
  have e2 : (2 : Int) ^ (IntKind.i64.bits - 1) = 9223372036854775808 := by decide
  simp only [e1, e2]
  have : IntKind.i64.signed = true := rfl
  simp only [this, Bool.true_and, decide_eq_true_eq]
  split <;> omega

end Go.Vm
namespace Go.Vm
theorem eq_f {a b : Int} (h : ¬ a = b) : (a == b) = false := by simpa using h
theorem rows_d {α : Type} (H k c) (l : List α) (e : α → List D) : rowsOf H k (.d c (.sl k (l.map e))) = some (.dat (c || flatRows (l.map e)) (l.map e)) := by simp [rowsOf]
theorem flatRows_nil : flatRows [] = true := rfl
theorem flatRows_cons (r rows) : flatRows (r :: rows) = (r.all D.flat && flatRows rows) := rfl
theorem flatRows_map {α : Type} (l : List α) (e : α → List D) (h : ∀ x, (e x).all D.flat = true) : flatRows (l.map e) = true := by
  simp only [flatRows, List.all_map, List.all_eq_true, Function.comp]
  exact fun x _ => by simpa using h x
theorem apA_dat (s H k id len rs c rows) (h : rows.length = len) (h2 : len + rs.n ≤ most) : apA s H k id 0 len rs (.dat c k rows) = some (put H id ((Blk.dat c k rows).app rs), .bsl id 0 (len + rs.n), .some id, s.nx) := if_pos ⟨rfl, h, rfl, h2⟩
theorem ile_T {a b : Int} (h : a ≤ b) : (a ≤ b) = True := by simpa using h
theorem ilt_T {a b : Int} (h : a < b) : (a < b) = True := by simpa using h
theorem ilt_F {a b : Int} (h : ¬ a < b) : (a < b) = False := by simpa using h
theorem nle_T {a b : Nat} (h : a ≤ b) : (a ≤ b) = True := by simpa using h
theorem nlt_T {a b : Nat} (h : a < b) : (a < b) = True := by simpa using h
theorem take_all {α : Type} {l : List α} {n : Nat} (h : l.length ≤ n) : l.take n = l := List.take_of_length_le h
theorem most_eq : most = 1099511627776 := rfl
theorem range0 : List.range 0 = [] := rfl
theorem range2 : List.range 2 = [0, 1] := rfl
end Go.Vm
end

section
namespace Go.Vm
end Go.Vm
end

section
namespace Go.Vm

def rwB (k i len : Nat) : Blk → Option Rows
  | .dat c k' rows => if k' = k ∧ i + len ≤ rows.length then some (.dat (c || flatRows rows) ((rows.drop i).take len)) else none
  | .mix k' rows => if k' = k ∧ i + len ≤ rows.length then some (.mix ((rows.drop i).take len)) else none
  | .map _ => none
theorem rows_bsl (H k b i len) : rowsOf H k (.bsl b i len) = o1 (rwB k i len) (look H b) := by
  simp only [rowsOf, o1]
  cases look H b with
  | none => rfl
  | some blk => cases blk <;> rfl
theorem rwB_dat (k i len c rows) : rwB k i len (.dat c k rows) = if i + len ≤ rows.length then some (.dat (c || flatRows rows) ((rows.drop i).take len)) else none := by simp [rwB]
end Go.Vm
end

section
namespace Go.Vm

theorem LN : type_of% (And.intro (And.intro (And.intro @List.length_map.{0,0} (And.intro @List.length_append.{0} @List.length_take.{0})) (And.intro @List.length_drop.{0} (And.intro @List.length_replicate.{0} @List.length_set.{0}))) (And.intro (And.intro @List.length_cons.{0} (And.intro @List.length_nil.{0} @Rows.n.eq_1)) (And.intro (And.intro @Rows.n.eq_2 @most_eq) (And.intro @Int.toNat_natCast @Nat.zero_add)))) :=
  (And.intro (And.intro (And.intro @List.length_map.{0,0} (And.intro @List.length_append.{0} @List.length_take.{0})) (And.intro @List.length_drop.{0} (And.intro @List.length_replicate.{0} @List.length_set.{0}))) (And.intro (And.intro @List.length_cons.{0} (And.intro @List.length_nil.{0} @Rows.n.eq_1)) (And.intro (And.intro @Rows.n.eq_2 @most_eq) (And.intro @Int.toNat_natCast @Nat.zero_add))))

end Go.Vm
end

section
namespace Go.Vm

mutual
def D.eqb : D → D → Bool
  | .int k n, .int k' n' => decide (k = k') && decide (n = n')
  | .bool b, .bool b' => b == b'
  | .str s, .str s' => decide (s = s')
  | .sl k rows, .sl k' rows' => decide (k = k') && dRows rows rows'
  | .ptr cs, .ptr cs' => dRow cs cs'
  | .nilp, .nilp => true
  | .nilif, .nilif => true
  | .nilfn, .nilfn => true
  | .nilm, .nilm => true
  | .nils k, .nils k' => decide (k = k')
  | .emps k, .emps k' => decide (k = k')
  | .iface t cs, .iface t' cs' => decide (t = t') && dRow cs cs'
  | _, _ => false
def dRow : List D → List D → Bool
  | [], [] => true
  | a :: r, b :: s => a.eqb b && dRow r s
  | _, _ => false
def dRows : List (List D) → List (List D) → Bool
  | [], [] => true
  | a :: r, b :: s => dRow a b && dRows r s
  | _, _ => false
end
mutual
theorem D.eqb_ok : ∀ {x y : D}, x.eqb y = true → x = y := by
  intro x y h
  cases x <;> cases y <;> simp only [D.eqb, Bool.and_eq_true, decide_eq_true_eq, beq_iff_eq, reduceCtorEq, Bool.false_eq_true] at h <;> try rfl
  · obtain ⟨rfl, rfl⟩ := h; rfl
  · subst h; rfl
  · subst h; rfl
  · obtain ⟨rfl, h⟩ := h; rw [dRows_ok h]
  · rw [dRow_ok h]
  · obtain ⟨rfl, h⟩ := h; rw [dRow_ok h]
  · subst h; rfl
  · subst h; rfl
theorem dRow_ok : ∀ {x y : List D}, dRow x y = true → x = y := by
  intro x y h
  cases x with
  | nil => cases y with
    | nil => rfl
    | cons b s => simp [dRow] at h
  | cons a r => cases y with
    | nil => simp [dRow] at h
    | cons b s =>
      simp only [dRow, Bool.and_eq_true] at h
      rw [D.eqb_ok h.1, dRow_ok h.2]
theorem dRows_ok : ∀ {x y : List (List D)}, dRows x y = true → x = y := by
  intro x y h
  cases x with
  | nil => cases y with
    | nil => rfl
    | cons b s => simp [dRows] at h
  | cons a r => cases y with
    | nil => simp [dRows] at h
    | cons b s =>
      simp only [dRows, Bool.and_eq_true] at h
      rw [dRow_ok h.1, dRows_ok h.2]
end

def V.eqb1 : V → V → Bool
  | .d c x, .d c' x' => c == c' && x.eqb x'
  | .fs c k r, .fs c' k' r' => c == c' && decide (k = k') && dRows r r'
  | _, _ => false
def vRow : List V → List V → Bool
  | [], [] => true
  | a :: r, b :: s => a.eqb1 b && vRow r s
  | _, _ => false
def V.eqb : V → V → Bool
  | .agg cs, .agg cs' => vRow cs cs'
  | v, u => v.eqb1 u
theorem V.eqb1_ok {v u : V} (h : v.eqb1 u = true) : v = u ∧ v.own1 = false := by
  cases v <;> cases u <;> simp only [V.eqb1, Bool.and_eq_true, decide_eq_true_eq, beq_iff_eq, Bool.false_eq_true] at h
  · obtain ⟨rfl, h⟩ := h; rw [D.eqb_ok h]; exact ⟨rfl, rfl⟩
  · obtain ⟨⟨rfl, rfl⟩, h⟩ := h; rw [dRows_ok h]; exact ⟨rfl, rfl⟩
theorem vRow_ok : ∀ {x y : List V}, vRow x y = true → x = y ∧ x.any V.own1 = false := by
  intro x
  induction x with
  | nil => intro y h; cases y with
    | nil => exact ⟨rfl, rfl⟩
    | cons b s => simp [vRow] at h
  | cons a r ih => intro y h; cases y with
    | nil => simp [vRow] at h
    | cons b s =>
      simp only [vRow, Bool.and_eq_true] at h
      obtain ⟨h1, h2⟩ := V.eqb1_ok h.1
      obtain ⟨h3, h4⟩ := ih h.2
      rw [← h1, ← h3]
      exact ⟨rfl, by simp [h2, h4]⟩
theorem V.eqb_ok {v u : V} (h : v.eqb u = true) : v = u ∧ v.own = false := by
  cases v with
  | agg cs => cases u with
    | agg cs' =>
      simp only [V.eqb] at h
      obtain ⟨h1, h2⟩ := vRow_ok h
      exact ⟨by rw [h1], h2⟩
    | _ => simp [V.eqb, V.eqb1] at h
  | d c x => exact V.eqb1_ok (v := .d c x) (by cases u <;> exact h)
  | fs c k r => exact V.eqb1_ok (v := .fs c k r) (by cases u <;> exact h)
  | _ => cases u <;> simp [V.eqb, V.eqb1] at h

def lateB (mv : List Nat) : V → V → Bool
  | .ptr b i j, .ptr b' i' j' => b == b' && i == i' && j == j' && !mv.contains b
  | .bsl b i j, .bsl b' i' j' => b == b' && i == i' && j == j' && !mv.contains b
  | .map b, .map b' => b == b' && !mv.contains b
  | v, u => v.eqb u
theorem lateB_ok {mv : List Nat} {v u : V} (h : lateB mv v u = true) : v = u ∧ lateV mv v := by
  have other : v.eqb u = true → v = u ∧ lateV mv v := fun h => by
    obtain ⟨h1, h2⟩ := V.eqb_ok h
    refine ⟨h1, ?_⟩
    cases v with
    | ptr b i j => simp [V.own, V.own1] at h2
    | bsl b i j => simp [V.own, V.own1] at h2
    | map b => simp [V.own, V.own1] at h2
    | _ => exact h2
  unfold lateB at h
  split at h
  · simp only [Bool.and_eq_true, beq_iff_eq, Bool.not_eq_true'] at h
    obtain ⟨⟨⟨rfl, rfl⟩, rfl⟩, h⟩ := h
    exact ⟨rfl, h⟩
  · simp only [Bool.and_eq_true, beq_iff_eq, Bool.not_eq_true'] at h
    obtain ⟨⟨⟨rfl, rfl⟩, rfl⟩, h⟩ := h
    exact ⟨rfl, h⟩
  · simp only [Bool.and_eq_true, beq_iff_eq, Bool.not_eq_true'] at h
    obtain ⟨rfl, h⟩ := h
    exact ⟨rfl, h⟩
  · exact other h

def lateC (X : Cx) (s : S) (mv : List Nat) (g : Seg) : Bool := g.late.isEmpty || match evMks X s g.mks with
  | none => true
  | some (s1, _) => g.late.all fun e => match ev X (clean mv (lateH X s g mv) s1) e, ev X s1 e with
    | some v, some u => lateB mv v u
    | _, _ => false
theorem lateC_ok {X : Cx} {s : S} {mv : List Nat} {g : Seg} (h : lateC X s mv g = true) : lateOk X s mv g := by
  intro e he s1 news hm
  unfold lateC at h
  rw [hm] at h
  simp only [Bool.or_eq_true, List.isEmpty_iff, List.all_eq_true] at h
  rcases h with h | h
  · rw [h] at he; simp at he
  · have := h e he
    cases h1 : ev X (clean mv (lateH X s g mv) s1) e with
    | none => rw [h1] at this; simp at this
    | some v => cases h2 : ev X s1 e with
      | none => rw [h1, h2] at this; simp at this
      | some u =>
        rw [h1, h2] at this
        obtain ⟨rfl, h3⟩ := lateB_ok this
        exact ⟨v, rfl, rfl, h3⟩

def evSegC (X : Cx) (s : S) (g : Seg) : Option S := match evSeg0 X s g with
  | some s' => if lateC X s s'.mv g then some s' else none
  | none => none
theorem evSegC_ok {X : Cx} {g : Seg} {s s' : S} (h : evSegC X s g = some s') : evSeg X s g = some s' := by
  unfold evSegC at h
  unfold evSeg
  cases h0 : evSeg0 X s g with
  | none => rw [h0] at h; cases h
  | some s1 =>
    rw [h0] at h
    simp only at h ⊢
    by_cases hl : lateC X s s1.mv g = true
    · rw [if_pos hl] at h
      rw [if_pos (lateC_ok hl)]
      exact h
    · rw [if_neg hl] at h; cases h
def evSegsC (X : Cx) (s : S) : List Seg → Option S
  | [] => some s
  | g :: r => match evSegC X s g with
    | some s' => evSegsC X s' r
    | none => none
theorem evSegsC_ok {X : Cx} : ∀ {l : List Seg} {s s' : S}, evSegsC X s l = some s' → evSegs X s l = some s' := by
  intro l
  induction l with
  | nil => intro s s' h; exact h
  | cons g l ih =>
    intro s s' h
    simp only [evSegsC] at h
    simp only [evSegs]
    cases h0 : evSegC X s g with
    | none => rw [h0] at h; cases h
    | some s1 => rw [h0] at h; rw [evSegC_ok h0]; exact ih h
def evSegGC (C : Cx) (s : S) (p : Pre) (g : Seg) : Option S := match p.sg with
  | none => evSegC C s g
  | some (t, b) => match look s.rho t with
    | some (.d _ (.bool x)) => if x = b then evSegC C s g else some (skipS s (keepG g))
    | _ => none
theorem evSegGC_ok {X : Cx} {p : Pre} {g : Seg} {s s' : S} (h : evSegGC X s p g = some s') : evSegG X s p g = some s' := by
  unfold evSegGC at h
  unfold evSegG
  split at h
  · rename_i e; rw [e]; exact evSegC_ok h
  · rename_i t b e
    rw [e]
    simp only
    split at h
    · rename_i c x hl
      rw [hl]
      simp only
      split at h
      · rename_i hx; rw [if_pos hx]; exact evSegC_ok h
      · rename_i hx; rw [if_neg hx]; exact h
    · cases h
def evSegsGC (m : Nat) (C : Cx) (s : S) : List (Pre × Seg) → Option S
  | [] => some s
  | (p, g) :: r => match evSegGC C (frzL m p.fz s) p g with
    | some s' => evSegsGC m C s' r
    | none => none
theorem evSegsGC_ok {X : Cx} {m : Nat} : ∀ {l : List (Pre × Seg)} {s s' : S}, evSegsGC m X s l = some s' → evSegsG m X s l = some s' := by
  intro l
  induction l with
  | nil => intro s s' h; exact h
  | cons q l ih =>
    intro s s' h
    obtain ⟨p, g⟩ := q
    simp only [evSegsGC] at h
    simp only [evSegsG]
    cases h0 : evSegGC X (frzL m p.fz s) p g with
    | none => rw [h0] at h; cases h
    | some s1 => rw [h0] at h; rw [evSegGC_ok h0]; exact ih h

def execC (N : Nat) (X : Cx) : C → S → Option (Ex × S)
  | .skip, s => some (.nrm, s)
  | .regg m l, s => match evSegsGC m X s l with
    | some s' => some (.nrm, s')
    | none => none
  | .ownc t j k, s => some (.nrm, owncS t j k s)
  | .reg l, s => match evSegsC X s l with
    | some s' => some (.nrm, s')
    | none => none
  | .seq a b, s => match execC N X a s with
    | some (.nrm, s') => execC N X b s'
    | r => r
  | .cond e a b, s => match ev X s e with
    | some (.d _ (.bool x)) => if x then execC N X a s else execC N X b s
    | _ => none
  | .block id c, s => match execC N X c s with
    | some (.exit i, s') => if i = id then some (.nrm, s') else some (.exit i, s')
    | r => r
  | .loop c, s => iter (execC N X c) N s
  | .exit id, s => some (.exit id, s)
  | .scope c ls, s => jumps (fun l => labelled N X ls l) N (execC N X c s)
  | .lnil, _ => none
  | .lcons _ _ _, _ => none
  | .label _, s => some (.nrm, s)
  | .goto l, s => some (.goto l, s)
  | .ret, s => some (.ret, s)
  | .tidy m slots, s => match tidyS m slots s with
    | some s' => some (.nrm, s')
    | none => none
  | .own t k, s => match look s.rho t with
    | some (.fs _ k' []) => if k' = k then some (.nrm, ⟨put s.rho t (.bsl s.nx 0 0), (s.nx, .dat true k []) :: s.heap, s.nx + 1, s.mv⟩) else none
    | _ => none
  | .frz m t j, s => some (.nrm, frzS m t j s)
  | .stuck, _ => none
  where
  labelled (N : Nat) (X : Cx) : C → Nat → Option (S → Option (Ex × S))
    | .lcons l c ls, l' => if l = l' then some (execC N X c) else labelled N X ls l'
    | _, _ => none

theorem iter_le {f g : S → Option (Ex × S)} (h : ∀ s r, f s = some r → g s = some r) : ∀ (n : Nat) (s : S) (r : Ex × S), iter f n s = some r → iter g n s = some r := by
  intro n
  induction n with
  | zero => intro s r h; cases h
  | succ n ih =>
    intro s r hr
    simp only [iter] at hr ⊢
    cases hf : f s with
    | none => rw [hf] at hr; cases hr
    | some q =>
      rw [h s q hf]
      rw [hf] at hr
      obtain ⟨e, s'⟩ := q
      cases e with
      | nrm => exact ih s' r hr
      | _ => exact hr
theorem jumps_le {f g : Nat → Option (S → Option (Ex × S))} (h : ∀ l k, f l = some k → ∃ k', g l = some k' ∧ ∀ s r, k s = some r → k' s = some r) : ∀ (n : Nat) (q q' : Option (Ex × S)) (r : Ex × S), (∀ x, q = some x → q' = some x) → jumps f n q = some r → jumps g n q' = some r := by
  intro n
  induction n with
  | zero => intro q q' r _ h; cases h
  | succ n ih =>
    intro q q' r hq hr
    cases q with
    | none => simp [jumps] at hr
    | some x =>
      rw [hq x rfl]
      obtain ⟨e, s⟩ := x
      cases e with
      | goto l =>
        simp only [jumps] at hr ⊢
        cases hl : f l with
        | none => rw [hl] at hr; cases hr
        | some k =>
          obtain ⟨k', h1, h2⟩ := h l k hl
          rw [hl] at hr
          rw [h1]
          exact ih _ _ r (fun x hx => h2 s x hx) hr
      | _ => exact hr

theorem execC_ok (N : Nat) (X : Cx) : ∀ c : C, (∀ s r, execC N X c s = some r → exec X c s = some r) ∧ ∀ l k, execC.labelled N X c l = some k → ∃ k', exec.labelled X c l = some k' ∧ ∀ s r, k s = some r → k' s = some r := by
  intro c
  induction c with
  | skip => exact ⟨fun s r h => h, fun l k h => by simp [execC.labelled] at h⟩
  | reg l =>
    refine ⟨fun s r h => ?_, fun l k h => by simp [execC.labelled] at h⟩
    simp only [execC] at h
    simp only [exec]
    cases hs : evSegsC X s l with
    | none => rw [hs] at h; cases h
    | some s' => rw [hs] at h; rw [evSegsC_ok hs]; exact h
  | seq a b iha ihb =>
    refine ⟨fun s r h => ?_, fun l k h => by simp [execC.labelled] at h⟩
    simp only [execC] at h
    simp only [exec]
    cases hs : execC N X a s with
    | none => rw [hs] at h; cases h
    | some q =>
      rw [hs] at h
      rw [iha.1 s q hs]
      obtain ⟨e, s'⟩ := q
      cases e with
      | nrm => exact ihb.1 s' r h
      | _ => exact h
  | cond e a b iha ihb =>
    refine ⟨fun s r h => ?_, fun l k h => by simp [execC.labelled] at h⟩
    simp only [execC] at h
    simp only [exec]
    split at h
    · rename_i x hx
      rw [hx]
      simp only
      cases x with
      | true => exact iha.1 s r h
      | false => exact ihb.1 s r h
    · cases h
  | block id c ih =>
    refine ⟨fun s r h => ?_, fun l k h => by simp [execC.labelled] at h⟩
    simp only [execC] at h
    simp only [exec]
    cases hs : execC N X c s with
    | none => rw [hs] at h; cases h
    | some q =>
      rw [hs] at h
      rw [ih.1 s q hs]
      exact h
  | loop c ih =>
    refine ⟨fun s r h => ?_, fun l k h => by simp [execC.labelled] at h⟩
    simp only [execC] at h
    simp only [exec]
    exact loopF_of (iter_le ih.1 N s r h)
  | exit id => exact ⟨fun s r h => h, fun l k h => by simp [execC.labelled] at h⟩
  | scope c ls ihc ihl =>
    refine ⟨fun s r h => ?_, fun l k h => by simp [execC.labelled] at h⟩
    simp only [execC] at h
    simp only [exec]
    exact scopeF_of (jumps_le ihl.2 N _ _ r (fun x hx => ihc.1 s x hx) h)
  | lnil => exact ⟨fun s r h => by simp [execC] at h, fun l k h => by simp [execC.labelled] at h⟩
  | lcons l c ls ihc ihl =>
    refine ⟨fun s r h => by simp [execC] at h, fun l' k h => ?_⟩
    simp only [execC.labelled] at h
    simp only [exec.labelled]
    by_cases e : l = l'
    · rw [if_pos e] at h ⊢
      obtain rfl := Option.some.inj h
      exact ⟨_, rfl, ihc.1⟩
    · rw [if_neg e] at h ⊢
      exact ihl.2 l' k h
  | label l => exact ⟨fun s r h => h, fun l k h => by simp [execC.labelled] at h⟩
  | goto l => exact ⟨fun s r h => h, fun l k h => by simp [execC.labelled] at h⟩
  | ret => exact ⟨fun s r h => h, fun l k h => by simp [execC.labelled] at h⟩
  | tidy m slots => exact ⟨fun s r h => h, fun l k h => by simp [execC.labelled] at h⟩
  | own t k => exact ⟨fun s r h => h, fun l k h => by simp [execC.labelled] at h⟩
  | stuck => exact ⟨fun s r h => by simp [execC] at h, fun l k h => by simp [execC.labelled] at h⟩
  | frz m t j => exact ⟨fun s r h => h, fun l k h => by simp [execC.labelled] at h⟩
  | ownc t j k => exact ⟨fun s r h => h, fun l k h => by simp [execC.labelled] at h⟩
  | regg m l =>
    refine ⟨fun s r h => ?_, fun l k h => by simp [execC.labelled] at h⟩
    simp only [execC] at h
    simp only [exec]
    cases h0 : evSegsGC m X s l with
    | none => rw [h0] at h; cases h
    | some s1 => rw [h0] at h; rw [evSegsGC_ok h0]; exact h

def runFunC (N : Nat) (K : Cx) (g : Fun) (args : List V) (blks : List Blk) : Option (V × List Blk × List Nat) :=
  match execC N K g.body (startS args blks) with
  | some (.nrm, s) => match mapO (ev K s) g.res with
    | some vs => finish blks.length g.own s (oneOr vs)
    | none => none
  | some (.ret, s) => match mapO (ev K s) g.res with
    | some vs => finish blks.length g.own s (oneOr vs)
    | none => none
  | _ => none
theorem runFunC_ok {N : Nat} {K : Cx} {g : Fun} {args : List V} {blks : List Blk} {r : V × List Blk × List Nat} (h : runFunC N K g args blks = some r) : runFun K g args blks = some r := by
  unfold runFunC at h
  unfold runFun
  cases hs : execC N K g.body (startS args blks) with
  | none => rw [hs] at h; cases h
  | some q =>
    rw [hs] at h
    rw [(execC_ok N K g.body).1 _ _ hs]
    exact h

structure Row where
  f : FuncId
  m : Nat
  n : Nat
  g : Fun
def findR : List Row → FuncId → Option Row
  | [], _ => none
  | r :: l, f => if r.f = f then some r else findR l f

def cxC (N : Nat) (T : List Row) (G : Nat → Option (List D)) (loc : Bool) : Nat → Cx
  | 0 => ⟨fun _ _ => none, fun _ _ _ => none, G, fun _ => loc⟩
  | n + 1 => ⟨fun f vs => match findR T f with
      | some r => if r.m = 0 ∧ r.n = vs.length then match runFunC N (cxC N T G loc n) r.g vs [] with
        | some (v, blks, _) => some (v, blks)
        | none => none
        else none
      | none => none,
    fun f vs bs => match findR T f with
      | some r => if r.m = bs.length ∧ r.n = vs.length then runFunC N (cxC N T G loc n) r.g vs bs else none
      | none => none, G, fun _ => loc⟩

theorem findR_mem {T : List Row} {f : FuncId} {r : Row} (h : findR T f = some r) : r ∈ T ∧ r.f = f := by
  induction T with
  | nil => cases h
  | cons q T ih =>
    simp only [findR] at h
    split at h
    · rename_i e
      obtain rfl := Option.some.inj h
      exact ⟨List.mem_cons_self .., e⟩
    · exact ⟨List.mem_cons_of_mem _ (ih h).1, (ih h).2⟩

variable {P : Program}
def cxK (K0 : Cx) (N : Nat) (T : List Row) : Nat → Cx
  | 0 => K0
  | n + 1 => ⟨fun f vs => match findR T f with
      | some r => if r.m = 0 ∧ r.n = vs.length then match runFunC N (cxK K0 N T n) r.g vs [] with
        | some (v, blks, _) => some (v, blks)
        | none => none
        else none
      | none => K0.call f vs,
    fun f vs bs => match findR T f with
      | some r => if r.m = bs.length ∧ r.n = vs.length then runFunC N (cxK K0 N T n) r.g vs bs else none
      | none => K0.eff f vs bs, K0.glob, K0.loc⟩

theorem cxK_glob (K0 : Cx) (N : Nat) (T : List Row) (n : Nat) : (cxK K0 N T n).glob = K0.glob := by cases n <;> rfl
theorem cxK_sound (hm : P.follows .mixedOrders = true) {K0 : Cx} (h0 : K0.Sound P) {N : Nat} {T : List Row} (hT : ∀ r ∈ T, funOk P r.f r.m r.n r.g = true) (hl : ∀ r ∈ T, K0.loc r.f = true → K0.glob = fun _ => none) : ∀ n, (cxK K0 N T n).Sound P := by
  intro n
  induction n with
  | zero => exact h0
  | succ n ih =>
    have call : ∀ f args r news, (cxK K0 N T (n + 1)).call f args = some (r, news) → callable P f = true ∧ PureCall P K0.glob f args r news := by
      intro f args r news h
      simp only [cxK] at h
      split at h
      · rename_i q hq
        obtain ⟨h1, rfl⟩ := findR_mem hq
        split at h
        · rename_i hc
          split at h
          · rename_i v blks mv hr
            simp only [Option.some.injEq, Prod.mk.injEq] at h
            obtain ⟨rfl, rfl⟩ := h
            have ok := hT q h1
            rw [hc.1, hc.2] at ok
            have := pure_sound hm ih ok (runFunC_ok hr)
            rw [cxK_glob] at this
            exact this
          · cases h
        · cases h
      · exact h0.pure f args r news h
    refine ⟨fun f args r news h => ?_, fun f args r news hl' h => ?_, fun f args blks r blks' mv h => ?_⟩
    · have := call f args r news h
      rw [← cxK_glob K0 N T (n + 1)] at this
      exact this
    · have hl2 : K0.loc f = true := hl'
      have h2 := h
      simp only [cxK] at h2
      split at h2
      · rename_i q hq
        obtain ⟨h1, rfl⟩ := findR_mem hq
        have e := hl q h1 hl2
        have := (call q.f args r news h).2
        rw [e] at this
        exact this
      · exact h0.loc f args r news hl2 h2
    · have h2 := h
      simp only [cxK] at h2
      split at h2
      · rename_i q hq
        obtain ⟨h1, rfl⟩ := findR_mem hq
        split at h2
        · rename_i hc
          have ok := hT q h1
          rw [hc.1, hc.2] at ok
          have := eff_sound hm ih ok (runFunC_ok h2)
          rw [cxK_glob] at this
          exact this
        · cases h2
      · exact h0.eff f args blks r blks' mv h2

end Go.Vm
end

section
namespace Go.Vm

theorem exec_regg (K m l s) : exec K (.regg m l) s = nrm (evSegsG m K s l) := by
  simp only [exec, nrm]; cases evSegsG m K s l <;> rfl
noncomputable def segsG (K : Cx) (m : Nat) (r : List (Pre × Seg)) (s : S) : Option S := evSegsG m K s r
theorem evSegsG_nil (m K s) : evSegsG m K s [] = some s := by simp only [evSegsG]
theorem segsG_nil (K m s) : segsG K m [] s = some s := evSegsG_nil m K s
theorem evSegsG_cons (m K s fz sg g r) : evSegsG m K s ((⟨fz, sg⟩, g) :: r) = o1 (segsG K m r) (evSegG K (frzL m fz s) ⟨fz, sg⟩ g) := by
  simp only [evSegsG, o1, segsG]; cases evSegG K (frzL m fz s) ⟨fz, sg⟩ g <;> rfl
theorem segsG_cons (K m fz sg g r s) : segsG K m ((⟨fz, sg⟩, g) :: r) s = o1 (segsG K m r) (evSegG K (frzL m fz s) ⟨fz, sg⟩ g) := evSegsG_cons m K s fz sg g r
theorem evSegG_none (K s fz g) : evSegG K s ⟨fz, none⟩ g = evSeg K s g := rfl
noncomputable def sgC (K : Cx) (s : S) (g : Seg) (b : Bool) : Option V → Option S
  | some (.d _ (.bool x)) => if x = b then evSeg K s g else some (skipS s (keepG g))
  | _ => none
theorem sgC_eq (K s g b c x) : sgC K s g b (some (.d c (.bool x))) = if x = b then evSeg K s g else some (skipS s (keepG g)) := rfl
theorem evSegG_some (K s fz t b g) : evSegG K s ⟨fz, some (t, b)⟩ g = sgC K s g b (look s.rho t) := by
  simp only [evSegG, sgC]
  cases look s.rho t with
  | none => rfl
  | some v => cases v <;> try rfl
theorem frzL_nil (m s) : frzL m [] s = s := rfl
theorem frzL_cons (m t l s) : frzL m (t :: l) s = frzL m l (frzV m t s) := rfl
def frzD (m t : Nat) (s : S) (b n : Nat) : Option Blk → S
  | some (.dat c k rows) => if n = rows.length ∧ 0 < n ∧ m ≤ b then ⟨put (forgetR (· == b) s.rho) t (.d c (.sl k rows)), put (forgetH (· == b) s.heap) b (.dat true k []), s.nx, s.mv⟩ else s
  | _ => s
theorem frzD_dat (m t s b n c k rows) (h : n = rows.length ∧ 0 < n ∧ m ≤ b) : frzD m t s b n (some (.dat c k rows)) = ⟨put (forgetR (· == b) s.rho) t (.d c (.sl k rows)), put (forgetH (· == b) s.heap) b (.dat true k []), s.nx, s.mv⟩ := if_pos h
theorem frzD_one (m t s b c k r) (h : m ≤ b) : frzD m t s b 1 (some (.dat c k [r])) = ⟨put (forgetR (· == b) s.rho) t (.d c (.sl k [r])), put (forgetH (· == b) s.heap) b (.dat true k []), s.nx, s.mv⟩ := if_pos ⟨rfl, Nat.one_pos, h⟩
theorem frzD_snoc (m t s b n c k rows r) (h : n = rows.length) (h2 : m ≤ b) : frzD m t s b (n + 1) (some (.dat c k (rows ++ [r]))) = ⟨put (forgetR (· == b) s.rho) t (.d c (.sl k (rows ++ [r]))), put (forgetH (· == b) s.heap) b (.dat true k []), s.nx, s.mv⟩ := if_pos ⟨by rw [List.length_append, h]; rfl, Nat.succ_pos _, h2⟩
def frzA (m t : Nat) (s : S) : Option V → S
  | some (.bsl b 0 n) => frzD m t s b n (look s.heap b)
  | none => s
  | _ => frzV m t s
theorem frzA_none (m t s) : frzA m t s none = s := rfl
theorem frzA_bsl (m t s b n) : frzA m t s (some (.bsl b 0 n)) = frzD m t s b n (look s.heap b) := rfl
theorem frzV_eq (m t s) : frzV m t s = frzA m t s (look s.rho t) := by
  unfold frzA
  split
  · rename_i b n h
    unfold frzV frzD
    rw [h]
    cases hb : look s.heap b with
    | none => simp only [hb]
    | some k => cases k <;> simp only [hb]
  · rename_i h
    unfold frzV
    rw [h]
  · rfl
theorem skipS_eq (ρ H n mv keep) : skipS ⟨ρ, H, n, mv⟩ keep = ⟨restrict ρ keep, H, n, mv⟩ := rfl
theorem evSeg_lateC {K s g s'} (h : evSeg0 K s g = some s') (hl : lateC K s s'.mv g = true) : evSeg K s g = some s' := by
  unfold evSeg
  rw [h]
  exact if_pos (lateC_ok hl)
theorem evSeg0_eq (K s mks lets chk wr keep cnt aux wg late) : evSeg0 K s ⟨mks, lets, chk, wr, keep, cnt, aux, wg, late⟩ = o1 (segL K s ⟨[], lets, chk, wr, keep, cnt, [], wg, []⟩) (evMks K s mks) := by
  simp only [evSeg0, o1, segL]; cases evMks K s mks <;> rfl
end Go.Vm
end

section
namespace Go.Vm
open Go.RowKit

section
variable {P : Program} {w : World}

def Same (w : World) (v v' : Value) : Prop := v'.ownBlock = v.ownBlock ∨ ∃ g, v'.ownBlock = some g ∧ w.heap.size ≤ g

theorem append_ownX (t ty e : TypeId) (i : TypeInfo) (ht : P.underlying t = some (.slice e)) (hi : P.info? e = some i) (hz : i.zero = some (.int .u8 0)) (hsize : i.size = 1) (hby : i.bytes = 1)
    (v : Value) (n : Nat) (xs : List Value) (hown : w.ownsRowF 0 e 1 v n xs)
    (a : Addr) (m c : Nat) (news : List Value) (hl : news.length = m) (hnews : ∀ j u, news[j]? = some u → w.cell? (a.add j) = some u) (h1 : ∀ u ∈ news, u.oneCell' = true) (h63 : n + m ≤ maxLen) (hbytes : n + m ≤ 140737488355328) :
    ∃ v' w', (Builtin.append_ #[t, t] ty #[v, .slice (some a) m c]).run P w = .ok v' w' ∧ w'.ownsRowF 0 e 1 v' (n + m) (xs ++ news) ∧ w.grownBy w' v.ownBlock ∧ (v' = .slice none 0 0 ↔ v = .slice none 0 0 ∧ m = 0) ∧ Same w v v' := by
  obtain ⟨v', w', r1, r2, r3, r4⟩ := run_append_ownF (P := P) w 0 t ty e i (.int .u8 0) 1 1 ht hi hz hsize hby rfl (by decide) v n xs hown a m c news (by omega) hnews h1 h63 (by omega) (Nat.zero_le _)
  refine ⟨v', w', r1, r2, r3, r4, ?_⟩
  rcases hown.2 with ⟨rfl, rfl⟩ | ⟨g, cap, cur, fz, rfl, hbg, hg, hfz, hnc, hcm, hcs, htake⟩
  · obtain ⟨v2, w2, q1, q2, q3, q4⟩ := run_append_ownF (P := P) w w.heap.size t ty e i (.int .u8 0) 1 1 ht hi hz hsize hby rfl (by decide) (.slice none 0 0) 0 xs ⟨hown.1, .inl ⟨rfl, rfl⟩⟩ a m c news (by omega) hnews h1 h63 (by omega) (Nat.le_refl _)
    rw [r1] at q1
    obtain ⟨rfl, rfl⟩ : v' = v2 ∧ w' = w2 := by injection q1 with e1 e2; exact ⟨e1, e2⟩
    cases ho : v'.ownBlock with
    | none => exact .inl (by rw [ho]; rfl)
    | some g => exact .inr ⟨g, ho, (q2.lt g ho).1⟩
  · by_cases hroom : n + m ≤ cap
    · have hr := run_append_roomF (P := P) w t ty e i ht hi g n cap cur fz hg (by rw [hsize]; exact hfz) a m c news (by rw [hsize]; omega) hnews h1 hroom (by rw [hsize]; omega)
      rw [r1] at hr
      obtain ⟨rfl, _⟩ : v' = .slice (some ⟨g, 0, none⟩) (n + m) cap ∧ True := by injection hr with e1 e2; exact ⟨e1, trivial⟩
      exact .inl rfl
    · have holds : ∀ j u, xs[j]? = some u → w.cell? ((⟨g, 0, none⟩ : Addr).add j) = some u := hown.cells (g := g) rfl
      have hsmall : n + m ≤ 9223372036854775807 := by simp only [maxLen] at h63; omega
      have hr := run_append_grow (P := P) w t ty e i (.int .u8 0) ht hi hz ⟨g, 0, none⟩ n cap xs (by rw [hsize]; exact hown.1) holds a m c news (by rw [hsize]; omega) hnews (by omega) (by omega) (growslice_fits (by omega) (by rw [hby]; omega))
      rw [r1] at hr
      obtain ⟨rfl, _⟩ : v' = .slice (some ⟨w.heap.size, 0, none⟩) (n + m) (grownCap w (n + m) cap e) ∧ True := by injection hr with e1 e2; exact ⟨e1, trivial⟩
      exact .inr ⟨w.heap.size, rfl, Nat.le_refl _⟩

theorem append_own_strX (t u ty e : TypeId) (i : TypeInfo) (ht : P.underlying t = some (.slice e)) (hu : P.underlying u = some .string) (hi : P.info? e = some i) (hz : i.zero = some (.int .u8 0)) (hsize : i.size = 1) (hby : i.bytes = 1)
    (v : Value) (n : Nat) (xs : List Value) (hown : w.ownsRowF 0 e 1 v n xs) (s : ByteArray) (h63 : n + s.size ≤ maxLen) (hbytes : n + s.size ≤ 140737488355328) :
    ∃ v' w', (Builtin.append_ #[t, u] ty #[v, .string s]).run P w = .ok v' w' ∧ w'.ownsRowF 0 e 1 v' (n + s.size) (xs ++ Lib.strCells s) ∧ w.grownBy w' v.ownBlock ∧ (v' = .slice none 0 0 ↔ v = .slice none 0 0 ∧ s.size = 0) ∧ Same w v v' := by
  obtain ⟨v', w', r1, r2, r3, r4⟩ := Lib.run_append_own_stringF (P := P) w 0 t u ty e i ht hu hi hz hsize hby v n xs hown s h63 hbytes (Nat.zero_le _)
  refine ⟨v', w', r1, r2, r3, r4, ?_⟩
  rcases hown.2 with ⟨rfl, rfl⟩ | ⟨g, cap, cur, fz, rfl, hbg, hg, hfz, hnc, hcm, hcs, htake⟩
  · obtain ⟨v2, w2, q1, q2, q3, q4⟩ := Lib.run_append_own_stringF (P := P) w w.heap.size t u ty e i ht hu hi hz hsize hby (.slice none 0 0) 0 xs ⟨hown.1, .inl ⟨rfl, rfl⟩⟩ s h63 hbytes (Nat.le_refl _)
    rw [r1] at q1
    obtain ⟨rfl, rfl⟩ : v' = v2 ∧ w' = w2 := by injection q1 with e1 e2; exact ⟨e1, e2⟩
    cases ho : v'.ownBlock with
    | none => exact .inl (by rw [ho]; rfl)
    | some g => exact .inr ⟨g, ho, (q2.lt g ho).1⟩
  · by_cases hroom : n + s.size ≤ cap
    · have hr := Lib.run_append_room_stringF (P := P) w t u ty e i ht hu hi hsize g n cap cur fz hg (by omega) s hroom (by omega)
      rw [r1] at hr
      obtain ⟨rfl, _⟩ : v' = .slice (some ⟨g, 0, none⟩) (n + s.size) cap ∧ True := by injection hr with e1 e2; exact ⟨e1, trivial⟩
      exact .inl rfl
    · have holds : ∀ j u, xs[j]? = some u → w.cell? ((⟨g, 0, none⟩ : Addr).add j) = some u := hown.cells (g := g) rfl
      have hsmall : n + s.size ≤ 9223372036854775807 := by simp only [maxLen] at h63; omega
      have hr := Lib.run_append_grow_string (P := P) w t u ty e i (.int .u8 0) ht hu hi hz ⟨g, 0, none⟩ n cap xs (by rw [hsize]; exact hown.1) holds s (by omega) (by omega) (growslice_fits (by omega) (by rw [hby]; omega))
      rw [r1] at hr
      obtain ⟨rfl, _⟩ : v' = .slice (some ⟨w.heap.size, 0, none⟩) (n + s.size) (grownCap w (n + s.size) cap e) ∧ True := by injection hr with e1 e2; exact ⟨e1, trivial⟩
      exact .inr ⟨w.heap.size, rfl, Nat.le_refl _⟩

theorem wp_append_ownX {ops : Array Oper} {rest : List Oper} {o : Oper} {a : Act} {Q : Exit → Act → World → Prop} (hgd : o.guard = none) (s x : Operand) (t : TypeId)
    (ho : o.op = .call { callee := .builtin .append, args := #[s, x], argTypes := #[t, t] })
    (e : TypeId) (i : TypeInfo) (ht : P.underlying t = some (.slice e)) (hi : P.info? e = some i) (hz : i.zero = some (.int .u8 0)) (hsize : i.size = 1) (hby : i.bytes = 1)
    (v : Value) (n : Nat) (xs : List Value) (hs : a.eval s = v) (hown : w.ownsRowF 0 e 1 v n xs)
    (ad : Addr) (m c : Nat) (news : List Value) (hx : a.eval x = .slice (some ad) m c) (hl : news.length = m) (hnews : ∀ j u, news[j]? = some u → w.cell? (ad.add j) = some u) (h1 : ∀ u ∈ news, u.oneCell' = true) (h63 : n + m ≤ maxLen) (hbytes : n + m ≤ 140737488355328)
    (h : ∀ v' w', w'.ownsRowF 0 e 1 v' (n + m) (xs ++ news) → w.grownBy w' v.ownBlock → (v' = .slice none 0 0 ↔ v = .slice none 0 0 ∧ m = 0) → Same w v v' → wpList P ops Q rest (a.put o.dst v') w') : wpList P ops Q (o :: rest) a w := by
  refine wpList_plain hgd fun K hK => ?_
  obtain ⟨v', w', hr, h2, h3, h4, h5⟩ := append_ownX (P := P) (w := w) t o.type e i ht hi hz hsize hby v n xs hown ad m c news hl hnews h1 h63 hbytes
  unfold Oper.wp execOp
  simp only [ho, resolve, invoke, builtin, Sem.run_bind, Sem.run_pure, Result.andThen_ok, List.map_toArray, List.map_cons, List.map_nil, hs, hx, hr]
  exact hK _ _ (h v' w' h2 h3 h4 h5)
theorem wp_append_own_strX {ops : Array Oper} {rest : List Oper} {o : Oper} {a : Act} {Q : Exit → Act → World → Prop} (hgd : o.guard = none) (sl x : Operand) (t u : TypeId)
    (ho : o.op = .call { callee := .builtin .append, args := #[sl, x], argTypes := #[t, u] })
    (e : TypeId) (i : TypeInfo) (ht : P.underlying t = some (.slice e)) (hu : P.underlying u = some .string) (hi : P.info? e = some i) (hz : i.zero = some (.int .u8 0)) (hsize : i.size = 1) (hby : i.bytes = 1)
    (v : Value) (n : Nat) (xs : List Value) (hs : a.eval sl = v) (hown : w.ownsRowF 0 e 1 v n xs) (s : ByteArray) (hx : a.eval x = .string s) (h63 : n + s.size ≤ maxLen) (hbytes : n + s.size ≤ 140737488355328)
    (h : ∀ v' w', w'.ownsRowF 0 e 1 v' (n + s.size) (xs ++ Lib.strCells s) → w.grownBy w' v.ownBlock → (v' = .slice none 0 0 ↔ v = .slice none 0 0 ∧ s.size = 0) → Same w v v' → wpList P ops Q rest (a.put o.dst v') w') : wpList P ops Q (o :: rest) a w := by
  refine wpList_plain hgd fun K hK => ?_
  obtain ⟨v', w', hr, h2, h3, h4, h5⟩ := append_own_strX (P := P) (w := w) t u o.type e i ht hu hi hz hsize hby v n xs hown s h63 hbytes
  unfold Oper.wp execOp
  simp only [ho, resolve, invoke, builtin, Sem.run_bind, Sem.run_pure, Result.andThen_ok, List.map_toArray, List.map_cons, List.map_nil, hs, hx, hr]
  exact hK _ _ (h v' w' h2 h3 h4 h5)
end

end Go.Vm
end

section
set_option linter.unusedVariables false
namespace Go.Vm
open Go.RowKit Go.Shelf Go.Proofs

section
variable {P : Program} {ρ : Ren}

structure BAt (T e : TypeId) (w : World) (b : Nat) (p v : Value) (bs : List Value) : Prop where
  hp : p = .pointer none ∨ p = .pointer (some ⟨b, 0, none⟩)
  hb : w.heap[b]? = some (.cells #[p, v] T (0, 0))
  own : w.ownsRowF 0 e 1 v bs.length bs
  ne : v.ownBlock ≠ some b
theorem BAt.isB {T e : TypeId} {w : World} {b : Nat} {p v : Value} {bs : List Value} (h : BAt T e w b p v bs) : Lib.IsBuilderF T e 0 b bs w := by
  rcases h.hp with rfl | rfl
  · exact .inl ⟨Nat.zero_le _, v, h.hb, h.own, h.ne⟩
  · exact .inr ⟨Nat.zero_le _, v, h.hb, h.own, h.ne⟩
theorem BAt.lt {T e : TypeId} {w : World} {b : Nat} {p v : Value} {bs : List Value} (h : BAt T e w b p v bs) : b < w.heap.size := by
  rcases Nat.lt_or_ge b w.heap.size with h' | h'
  · exact h'
  · have := h.hb; simp [Array.getElem?_eq_none h'] at this

structure Kept (w w' : World) (b : Nat) (v v' : Value) : Prop where
  os : w'.os = w.os
  tape : w'.tape = w.tape
  output : w'.output = w.output
  size : w.heap.size ≤ w'.heap.size
  blk : ∀ k, k < w.heap.size → k ≠ b → some k ≠ v.ownBlock → w'.heap[k]? = w.heap[k]?
  same : Same w v v'

def SizeEq (w1 w : World) : Prop := w1.heap.size = w.heap.size
theorem SizeEq.eq {w1 w : World} (h : SizeEq w1 w) : w1.heap.size = w.heap.size := h

theorem bld_put {T e : TypeId} {w w1 w2 : World} {b : Nat} {v v' : Value} {bs' : List Value} (hTe : T ≠ e) (hsz : w1.heap.size = w.heap.size ∨ w1.heap.size = w.heap.size + 1) (hos : w1.os = w.os ∧ w1.tape = w.tape ∧ w1.output = w.output) (hold : ∀ k, k < w.heap.size → k ≠ b → w1.heap[k]? = w.heap[k]?)
    (hb2 : w2.heap[b]? = some (.cells #[.pointer (some ⟨b, 0, none⟩), v] T (0, 0))) (hgrow : w1.grownBy w2 v.ownBlock) (hown : w2.ownsRowF 0 e 1 v' bs'.length bs') (hs : Same w1 v v') (hv : ∀ g, v.ownBlock = some g → g < w.heap.size) :
    BAt T e (w2.setCell ⟨b, 1, none⟩ v') b (.pointer (some ⟨b, 0, none⟩)) v' bs' ∧ Kept w (w2.setCell ⟨b, 1, none⟩ v') b v v' := by
  have hne := Lib.ownBlock_neF hown hb2 hTe
  refine ⟨⟨.inr rfl, ?_, ?_, hne⟩, ⟨hgrow.os.trans hos.1, hgrow.tape.trans hos.2.1, hgrow.output.trans hos.2.2, by have := hgrow.size; simp; omega, fun k hk h1 h2 => ?_, ?_⟩⟩
  · simp [World.setCell, Array.getElem?_modify, hb2]
  · exact hown.kept (row := some b) ⟨rfl, rfl, rfl, by simp [World.setCell], fun k _ hk => Below.heap_setCell _ _ _ _ (fun e => hk (by simp [e]))⟩ (Or.inr hne)
  · rw [Below.heap_setCell _ _ _ _ h1, hgrow.block k (by omega) h2, hold k hk h1]
  · rcases hs with h | ⟨g, h1, h2⟩
    · exact .inl h
    · exact .inr ⟨g, h1, by omega⟩

end
end Go.Vm
end

section
set_option linter.unusedVariables false
namespace Go.Vm
open Go.RowKit Go.Shelf Go.Proofs

section
variable {P : Program} {ρ : Ren}

theorem freeze_other (w : World) (a : Addr) (n k : Nat) (h : k ≠ a.block) : (w.freeze a n).heap[k]? = w.heap[k]? := by
  unfold World.freeze
  split
  · rfl
  · simp [Array.getElem?_modify, h.symm]

set_option maxHeartbeats 2000000 in
set_option maxRecDepth 100000 in
theorem bld_String_nil (L : Lays.n169 P ρ) (X : Builder.Extra P ρ) {w : World} {b : Nat} {p : Value} (h : BAt (ρ.t 72) (ρ.t 5) w b p (.slice none 0 0) []) :
    Calls P (ρ.f 169) #[.pointer (some ⟨b, 0, none⟩)] w fun e w' => e = .returned (.string ⟨#[]⟩) ∧ w' = w.drew := by
  have hUS := Any.unsafeString_none L X
  have c1 : w.drew.cell? ⟨b, 1, none⟩ = some (.slice none 0 0) := by
    have : w.drew.heap[b]? = some (.cells #[p, .slice none 0 0] (ρ.t 72) (0, 0)) := h.hb
    rw [Lib.cell_of_heap this]; rfl
  have hSD : (Builtin.unsafeSliceData_ #[(ρ.t 37)] (ρ.t 127) #[.slice none 0 0]).run P w.drew = .ok (.pointer none) w.drew := rfl
  have mixed := L.mixed
  have t72 := L.t72; have a72 := L.a72; have z72 := L.z72; have v72 := L.v72; have u72 := run_underlying L.t72
  have t70 := L.t70; have a70 := L.a70; have z70 := L.z70; have v70 := L.v70; have u70 := run_underlying L.t70
  have t37 := L.t37; have a37 := L.a37; have z37 := L.z37; have v37 := L.v37; have u37 := run_underlying L.t37
  have t127 := L.t127; have a127 := L.a127; have z127 := L.z127; have v127 := L.v127; have u127 := run_underlying L.t127
  have t3 := L.t3; have a3 := L.a3; have z3 := L.z3; have v3 := L.v3; have u3 := run_underlying L.t3
  have t9 := L.t9; have a9 := L.a9; have z9 := L.z9; have v9 := L.v9; have u9 := run_underlying L.t9
  have t5 := X.t5; have a5 := X.a5; have z5 := X.z5; have v5 := X.v5; have u5 := run_underlying X.t5
  go_enter L.f169, Body.n169_ntmps ρ
  go_wp2
  go_region_o
  all_goals (go_wp2; go_ret; exact ⟨rfl, rfl⟩)

set_option maxHeartbeats 2000000 in
set_option maxRecDepth 100000 in
theorem bld_String_some (L : Lays.n169 P ρ) (X : Builder.Extra P ρ) {w : World} {b g cap : Nat} {p : Value} {l : List UInt8} (h0 : l ≠ []) (h : BAt (ρ.t 72) (ρ.t 5) w b p (.slice (some ⟨g, 0, none⟩) l.length cap) (Lib.byteCells l)) :
    Calls P (ρ.f 169) #[.pointer (some ⟨b, 0, none⟩)] w fun e w' => e = .returned (.string ⟨l.toArray⟩) ∧ w' = w.drew.freeze ⟨g, 0, none⟩ l.length := by
  have hl0 : l.length ≠ 0 := by simpa using h0
  have hbk := h.hb
  have hown := h.own
  rw [Lib.byteCells_length] at hown
  obtain ⟨cur, fz, hg, hfz, hnc, hcm, hcs, htake⟩ : ∃ cur fz, w.heap[g]? = some (.cells cur (ρ.t 5) fz) ∧ fz.2 ≤ l.length * 1 ∧ l.length ≤ cap ∧ cap ≤ maxLen ∧ cur.size = cap * 1 ∧ cur.toList.take (l.length * 1) = Lib.byteCells l := by
    rcases hown.2 with ⟨_, hz⟩ | ⟨g', cap', cur, fz, hv, hB, r⟩
    · exact absurd hz hl0
    · injection hv with e1 e2 e3
      injection e1 with e1
      injection e1 with e1 _
      subst e1; subst e3
      exact ⟨cur, fz, r⟩
  have c1 : w.drew.cell? ⟨b, 1, none⟩ = some (.slice (some ⟨g, 0, none⟩) l.length cap) := by
    have : w.drew.heap[b]? = some (.cells #[p, .slice (some ⟨g, 0, none⟩) l.length cap] (ρ.t 72) (0, 0)) := hbk
    rw [Lib.cell_of_heap this]; rfl
  have hSD : (Builtin.unsafeSliceData_ #[(ρ.t 37)] (ρ.t 127) #[.slice (some ⟨g, 0, none⟩) l.length cap]).run P w.drew = .ok (.pointer (some ⟨g, 0, none⟩)) w.drew :=
    Lib.run_unsafeSliceData_row _ _ _ _ _ _ (by omega)
  have hUS : (Builtin.unsafeString_ #[(ρ.t 127), (ρ.t 3)] (ρ.t 9) #[.pointer (some ⟨g, 0, none⟩), .int .i64 l.length]).run P w.drew = .ok (.string ⟨l.toArray⟩) (w.drew.freeze ⟨g, 0, none⟩ l.length) := by
    refine Lib.run_unsafeString_row w.drew (ρ.t 127) (ρ.t 3) (ρ.t 9) (ρ.t 5) L.t127 X.cellsByte g cur.size (by have hg' : w.drew.heap[g]? = some (.cells cur (ρ.t 5) fz) := hg; simp [World.shape?, hg']) l h0 (by omega) (by unfold maxLen at hcm; omega) ?_
    intro j x hx
    have := hown.cells (g := g) rfl j (.int .u8 x.toNat) (by simp [Lib.byteCells, hx])
    exact this
  have mixed := L.mixed
  have t72 := L.t72; have a72 := L.a72; have z72 := L.z72; have v72 := L.v72; have u72 := run_underlying L.t72
  have t70 := L.t70; have a70 := L.a70; have z70 := L.z70; have v70 := L.v70; have u70 := run_underlying L.t70
  have t37 := L.t37; have a37 := L.a37; have z37 := L.z37; have v37 := L.v37; have u37 := run_underlying L.t37
  have t127 := L.t127; have a127 := L.a127; have z127 := L.z127; have v127 := L.v127; have u127 := run_underlying L.t127
  have t3 := L.t3; have a3 := L.a3; have z3 := L.z3; have v3 := L.v3; have u3 := run_underlying L.t3
  have t9 := L.t9; have a9 := L.a9; have z9 := L.z9; have v9 := L.v9; have u9 := run_underlying L.t9
  have t5 := X.t5; have a5 := X.a5; have z5 := X.z5; have v5 := X.v5; have u5 := run_underlying X.t5
  go_enter L.f169, Body.n169_ntmps ρ
  go_wp2
  go_region_o
  all_goals (go_wp2; go_ret; exact ⟨rfl, rfl⟩)

end
end Go.Vm
end

section
set_option linter.unusedVariables false
namespace Go.Vm
open Go.RowKit Go.Shelf Go.Proofs

@[reducible] def bldB (T b n : Nat) : Blk := .map [(.nils T, .bsl b 0 n)]
@[reducible] def bufB (e : Nat) (bytes : List UInt8) : Blk := .map [(.emps e, .d false .nilp), (.str bytes, .d false .nilp)]

section
variable {P : Program} {ρ : Ren} {w w' : World} {F : Nat → Prop} {σ : Nat → Option Loc}

theorem bCells_len (l : List UInt8) : (bCells l).length = l.length := by simp [bCells]

theorem bld_open {T e : Nat} {bytes : List UInt8} (hH : HeapRel w F (OwnB σ) w.heap.size σ 2 (indexed [bldB T 1 bytes.length, bufB e bytes])) :
    ∃ l0 p v, σ 0 = some l0 ∧ l0.k = 0 ∧ BAt T e w l0.blk p v (bCells bytes) ∧ (bytes = [] → v = .slice none 0 0) ∧ ∀ g, v.ownBlock = some g → ∃ l, σ 1 = some l ∧ l.blk = g := by
  have h0 := hH.blk 0 (bldB T 1 bytes.length) rfl
  have h1 := hH.blk 1 (bufB e bytes) rfl
  rcases h0 with ⟨hn, _⟩ | ⟨l0, es, ck, ds, hds, hs0, hm, hk, _, _⟩ | ⟨_, _, _, _, _, _, _, _, _, he⟩
  · simp [Blk.n, nilBuf, nilKeys] at hn
  · obtain rfl : [(D.nils T, V.bsl 1 0 bytes.length)] = ds := by injection hds
    rcases hm with ⟨_, _, ht⟩ | ⟨T', p, v, x, hx, hw, hp, hv⟩ | ⟨T', cur, fz, bs, hx, _⟩
    · simp [tagged] at ht
    · simp only [List.cons.injEq, Prod.mk.injEq, D.nils.injEq, and_true] at hx
      obtain ⟨rfl, rfl⟩ := hx
      obtain ⟨_, hv⟩ := hv
      refine ⟨l0, p, v, hs0, hk, ?_⟩
      rcases hv with ⟨hb, rfl⟩ | ⟨l, hl, hpos, rfl⟩
      · obtain rfl : bytes = [] := List.eq_nil_of_length_eq_zero hb
        exact ⟨⟨hp, hw, World.ownsRowF_nil _ _ _ _, by simp [Value.ownBlock]⟩, fun _ => rfl, fun g hg => by simp [Value.ownBlock] at hg⟩
      · rcases h1 with ⟨_, hn⟩ | ⟨l1, es1, ck1, ds1, hds1, hs1, hm1, hk1, _, _⟩ | ⟨_, _, _, _, _, _, _, _, _, he⟩
        · rw [hl] at hn; cases hn
        · obtain rfl : [(D.emps e, V.d false .nilp), (.str bytes, .d false .nilp)] = ds1 := by injection hds1
          rw [hl] at hs1
          obtain rfl := Option.some.inj hs1
          rcases hm1 with ⟨_, _, ht⟩ | ⟨T', p', v', x', hx, _⟩ | ⟨T', cur, fz, bs, hx, hg, f1, f2, f3, f4, f5⟩
          · simp [tagged] at ht
          · simp at hx
          · simp only [List.map_cons, List.map_nil, List.cons.injEq, D.emps.injEq, D.str.injEq, and_true] at hx
            obtain ⟨rfl, rfl⟩ := hx
            refine ⟨⟨hp, hw, ⟨by simp, .inr ⟨l.blk, l.ext, cur, fz, by rw [bCells_len], Nat.zero_le _, hg, by rw [bCells_len]; omega, by rw [bCells_len]; exact f2, f4, by omega, ?_⟩⟩, ?_⟩, fun h => ?_, fun g hg => ⟨l, hl, ?_⟩⟩
            · rw [bCells_len, Nat.mul_one]; exact f5
            · intro h
              simp only [Value.ownBlock, Option.some.injEq] at h
              have := hH.inj 0 1 l0 l hs0 hl h.symm
              cases this
            · rw [h] at hpos; simp at hpos
            · simpa [Value.ownBlock] using hg
        · simp [Blk.entries] at he
    · simp at hx
  · simp [Blk.entries] at he

theorem bld_close {T e : Nat} {l0 : Loc} {p' v v' : Value} {bytes' : List UInt8} {H : List (Nat × Blk)} (hH : HeapRel w F (OwnB σ) w.heap.size σ 2 H) (hs0 : σ 0 = some l0) (hk0 : l0.k = 0) (hv : ∀ g, v.ownBlock = some g → ∃ l, σ 1 = some l ∧ l.blk = g)
    (hb : BAt T e w' l0.blk p' v' (bCells bytes')) (hK : Kept w w' l0.blk v v') (hnil : bytes' = [] → v' = .slice none 0 0) :
    ∃ σ', Frame (OwnB σ) w.heap.size w w' ∧ HeapRel w' F (OwnB σ) w.heap.size σ' 2 (indexed [bldB T 1 bytes'.length, bufB e bytes']) ∧ ∀ i l, i < 2 → σ i = some l → i ∉ [1] → σ' i = some l := by
  have hF : ∀ b, F b → b < w'.heap.size := fun b hf => Nat.lt_of_lt_of_le (hH.fro b hf) hK.size
  have hframe : Frame (OwnB σ) w.heap.size w w' := ⟨hK.os, hK.tape, hK.output, hK.size, fun k hk hX => hK.blk k hk (fun h => hX 0 ⟨l0, hs0, h.symm⟩) (fun h => by
    obtain ⟨l, h1, h2⟩ := hv k h.symm
    exact hX 1 ⟨l, h1, h2⟩)⟩
  obtain ⟨o1, o2, o3, o4⟩ := hH.own 0 l0 hs0
  have hlt0 := hb.lt
  rcases hb.own.2 with ⟨rfl, hz⟩ | ⟨g, cap, cur, fz, rfl, _, hg, f1, f2, f3, f4, f5⟩
  · -- no buffer
    have hz' : bytes' = [] := by rw [bCells_len] at hz; exact List.eq_nil_of_length_eq_zero hz
    subst hz'
    refine ⟨fun i => if i = 0 then some l0 else none, hframe, ⟨fun i blk hi => ?_, fun i j l l' h1 h2 _ => ?_, fun i l h => ?_, hF⟩, fun i l hi hl hm => ?_⟩
    · have : (i = 0 ∧ blk = bldB T 1 0) ∨ (i = 1 ∧ blk = bufB e []) := by
        simp only [indexed, List.zipIdx_cons, List.zipIdx_nil, List.map_cons, List.map_nil, look, List.length_nil] at hi
        split at hi
        · rename_i h; exact .inl ⟨h.symm, (Option.some.inj hi).symm⟩
        · split at hi
          · rename_i h; exact .inr ⟨by omega, (Option.some.inj hi).symm⟩
          · cases hi
      rcases this with ⟨rfl, rfl⟩ | ⟨rfl, rfl⟩
      · exact .inr (.inl ⟨l0, #[⟨.slice none 0 0, .slice none 0 0, 0⟩], 0, _, rfl, rfl, .inr (.inl ⟨T, p', .slice none 0 0, _, rfl, hb.hb, hb.hp, rfl, .inl ⟨rfl, rfl⟩⟩), hk0, trivial, rfl, fun i e p he hp => by
          match i, he, hp with
          | 0, he, hp =>
            simp at he hp
            subst he; subst hp
            exact ⟨rfl, .nils T, .bsl0 none 1 0⟩
          | i + 1, he, hp => simp at he⟩)
      · exact .inl ⟨rfl, rfl⟩
    · split at h1
      · split at h2
        · omega
        · cases h2
      · cases h1
    · split at h
      · rename_i h0
        subst h0
        obtain rfl := Option.some.inj h
        exact ⟨by omega, o2, o3, hlt0⟩
      · cases h
    · have : i = 0 := by simp at hm; omega
      subst this
      show some l0 = some l
      rw [← hs0]; exact hl
  · have hgne : g ≠ l0.blk := fun h => hb.ne (by simp [Value.ownBlock, h])
    have hpos : 0 < bytes'.length := by
      rcases Nat.eq_zero_or_pos bytes'.length with h | h
      · have := hnil (List.eq_nil_of_length_eq_zero h)
        simp at this
      · exact h
    have hgl : g < w'.heap.size := by
      rcases Nat.lt_or_ge g w'.heap.size with h' | h'
      · exact h'
      · simp [Array.getElem?_eq_none h'] at hg
    rw [bCells_len, Nat.mul_one] at f1 f5
    rw [bCells_len] at f2
    -- where the buffer is
    have gown : ¬ F g ∧ (w.heap.size ≤ g ∨ OwnB σ 1 g) := by
      rcases hK.same with h | ⟨g', h1, h2⟩
      · obtain ⟨l, h1, h2⟩ := hv g (by rw [← h]; rfl)
        obtain ⟨q1, q2, q3, q4⟩ := hH.own 1 l h1
        rw [h2] at q2
        exact ⟨q2, .inr ⟨l, h1, h2⟩⟩
      · simp only [Value.ownBlock, Option.some.injEq] at h1
        subst h1
        exact ⟨fun hf => by have := hH.fro _ hf; omega, .inl h2⟩
    let l1 : Loc := ⟨g, 0, cap⟩
    refine ⟨fun i => if i = 0 then some l0 else if i = 1 then some l1 else none, hframe, ⟨fun i blk hi => ?_, fun i j l l' h1 h2 he => ?_, fun i l h => ?_, hF⟩, fun i l hi hl hm => ?_⟩
    · have : (i = 0 ∧ blk = bldB T 1 bytes'.length) ∨ (i = 1 ∧ blk = bufB e bytes') := by
        simp only [indexed, List.zipIdx_cons, List.zipIdx_nil, List.map_cons, List.map_nil, look] at hi
        split at hi
        · rename_i h; exact .inl ⟨h.symm, (Option.some.inj hi).symm⟩
        · split at hi
          · rename_i h; exact .inr ⟨by omega, (Option.some.inj hi).symm⟩
          · cases hi
      rcases this with ⟨rfl, rfl⟩ | ⟨rfl, rfl⟩
      · refine .inr (.inl ⟨l0, #[⟨.slice none 0 0, .slice (some ⟨g, 0, none⟩) bytes'.length cap, 0⟩], 0, _, rfl, rfl, .inr (.inl ⟨T, p', _, _, rfl, hb.hb, hb.hp, rfl, .inr ⟨l1, rfl, hpos, by rw [bCells_len]⟩⟩), hk0, trivial, rfl, fun i e p he hp => ?_⟩)
        match i, he, hp with
        | 0, he, hp =>
          simp at he hp
          subst he; subst hp
          exact ⟨rfl, .nils T, by
            have := RepV.bsl (w := w') (F := F) (base := w.heap.size) (σ := fun i => if i = 0 then some l0 else if i = 1 then some l1 else none) 1 0 bytes'.length cap l1 rfl f2 (by simp [l1])
            simpa [l1] using this⟩
        | i + 1, he, hp => simp at he
      · refine .inr (.inl ⟨l1, #[⟨.slice (some ⟨0, 0, none⟩) 0 0, .pointer none, 0⟩, ⟨.string ⟨bytes'.toArray⟩, .pointer none, 0⟩], 0, _, rfl, rfl, .inr (.inr ⟨e, cur, fz, bytes', rfl, hg, f1, f2, by simpa using f4, f3, f5⟩), rfl, trivial, rfl, fun i e' p he hp => ?_⟩)
        match i, he, hp with
        | 0, he, hp =>
          simp at he hp
          subst he; subst hp
          exact ⟨rfl, .emps _ _ e, .d _ _ _ .nilp⟩
        | 1, he, hp =>
          simp at he hp
          subst he; subst hp
          exact ⟨rfl, .str ⟨bytes'.toArray⟩, .d _ _ _ .nilp⟩
        | i + 2, he, hp => simp at he
    · have two : ∀ {i : Nat} {l : Loc}, (if i = 0 then some l0 else if i = 1 then some l1 else none) = some l → (i = 0 ∧ l = l0) ∨ (i = 1 ∧ l = l1) := by
        intro i l h
        split at h
        · rename_i h0; exact .inl ⟨h0, (Option.some.inj h).symm⟩
        · split at h
          · rename_i h0; exact .inr ⟨h0, (Option.some.inj h).symm⟩
          · cases h
      rcases two h1 with ⟨rfl, rfl⟩ | ⟨rfl, rfl⟩ <;> rcases two h2 with ⟨rfl, rfl⟩ | ⟨rfl, rfl⟩
      · rfl
      · exact absurd he.symm hgne
      · exact absurd he hgne
      · rfl
    · split at h
      · rename_i h0
        subst h0
        obtain rfl := Option.some.inj h
        exact ⟨by omega, o2, o3, hlt0⟩
      · split at h
        · rename_i h0
          subst h0
          obtain rfl := Option.some.inj h
          exact ⟨by omega, gown.1, gown.2, hgl⟩
        · cases h
    · have : i = 0 := by simp at hm; omega
      subst this
      show some l0 = some l
      rw [← hs0]; exact hl

theorem ptr0_inv {base : Nat} {v : Value} {l0 : Loc} (hs0 : σ 0 = some l0) (h : RepV w F base σ v (.ptr 0 0 0)) : v = .pointer (some ⟨l0.blk, 0, none⟩) := by
  cases h with
  | ptr _ _ _ l hl =>
    rw [hs0] at hl
    obtain rfl := Option.some.inj hl
    simp

variable {G : Nat → Option (List D)}

def WbOk (P : Program) (f : FuncId) (T e : TypeId) : Prop := ∀ {w : World} {b : Nat} {p v : Value} {bs : List Value}, BAt T e w b p v bs → ∀ (c : Int), bs.length + 1 ≤ 140737488355328 →
    Calls P f #[.pointer (some ⟨b, 0, none⟩), .int .u8 c] w fun x w' => x = .returned .nilIface ∧ ∃ v', BAt T e w' b (.pointer (some ⟨b, 0, none⟩)) v' (bs ++ [.int .u8 c]) ∧ Kept w w' b v v'
def WsOk (P : Program) (f : FuncId) (T e : TypeId) : Prop := ∀ {w : World} {b : Nat} {p v : Value} {bs : List Value}, BAt T e w b p v bs → ∀ (s : ByteArray), bs.length + s.size ≤ 140737488355328 →
    Calls P f #[.pointer (some ⟨b, 0, none⟩), .string s] w fun x w' => x = .returned (.tuple #[.int .i64 s.size, .nilIface]) ∧ ∃ v', BAt T e w' b (.pointer (some ⟨b, 0, none⟩)) v' (bs ++ Lib.strCells s) ∧ Kept w w' b v v' ∧ (v = .slice none 0 0 → s.size = 0 → v' = .slice none 0 0)

theorem eff_WriteByte {f T e : Nat} (hW : WbOk P f T e) (bytes : List UInt8) (c : UInt8) (hlen : bytes.length + 1 ≤ 140737488355328) :
    EffCall P G f [.ptr 0 0 0, .d false (.int .u8 c.toNat)] [bldB T 1 bytes.length, bufB e bytes] (.d false .nilif) [bldB T 1 (bytes ++ [c]).length, bufB e (bytes ++ [c])] [1] := by
  intro w F σ vals hG hH hR
  obtain ⟨l0, p, v, hs0, hk0, hB, hn0, hv⟩ := bld_open hH
  obtain ⟨hsz, hval⟩ := hR
  obtain ⟨l⟩ := vals
  match l, hsz, hval with
  | [v0, v1], hsz, hval =>
    have e0 := ptr0_inv hs0 (hval 0 v0 (.ptr 0 0 0) rfl rfl)
    have e1 := (hval 1 v1 (.d false (.int .u8 c.toNat)) rfl rfl).int_inv
    subst e0; subst e1
    refine (hW hB c.toNat (by rw [bCells_len]; exact hlen)).mono ?_
    rintro x w' ⟨rfl, v', hB', hK⟩
    have hB'' : BAt T e w' l0.blk (.pointer (some ⟨l0.blk, 0, none⟩)) v' (bCells (bytes ++ [c])) := by
      have : bCells (bytes ++ [c]) = bCells bytes ++ [.int .u8 c.toNat] := by simp [bCells]
      rw [this]; exact hB'
    obtain ⟨σ', h1, h2, h3⟩ := bld_close hH hs0 hk0 hv hB'' hK (fun h => by simp at h)
    exact ⟨.nilIface, F, σ', rfl, h1, fun _ h => h, fun _ h => .inl h, .d _ _ _ .nilif, h2, h3⟩
  | [], hsz, _ => simp at hsz
  | [_], hsz, _ => simp at hsz
  | _ :: _ :: _ :: _, hsz, _ => simp at hsz

theorem eff_WriteString {f T e : Nat} (hW : WsOk P f T e) (bytes s : List UInt8) (hlen : bytes.length + s.length ≤ 140737488355328) :
    EffCall P G f [.ptr 0 0 0, .d false (.str s)] [bldB T 1 bytes.length, bufB e bytes] (.tup [.d false (.int .i64 s.length), .d false .nilif]) [bldB T 1 (bytes ++ s).length, bufB e (bytes ++ s)] [1] := by
  intro w F σ vals hG hH hR
  obtain ⟨l0, p, v, hs0, hk0, hB, hn0, hv⟩ := bld_open hH
  obtain ⟨hsz, hval⟩ := hR
  obtain ⟨l⟩ := vals
  match l, hsz, hval with
  | [v0, v1], hsz, hval =>
    have e0 := ptr0_inv hs0 (hval 0 v0 (.ptr 0 0 0) rfl rfl)
    obtain ⟨t, e1, e2⟩ := (hval 1 v1 (.d false (.str s)) rfl rfl).str_inv
    subst e0; subst e1; subst e2
    have hst : t.size = t.data.toList.length := rfl
    refine (hW hB t (by rw [bCells_len, hst]; exact hlen)).mono ?_
    rintro x w' ⟨rfl, v', hB', hK, hnil⟩
    have hB'' : BAt T e w' l0.blk (.pointer (some ⟨l0.blk, 0, none⟩)) v' (bCells (bytes ++ t.data.toList)) := by
      have : bCells (bytes ++ t.data.toList) = bCells bytes ++ Lib.strCells t := by simp [bCells, Lib.strCells]
      rw [this]; exact hB'
    obtain ⟨σ', h1, h2, h3⟩ := bld_close hH hs0 hk0 hv hB'' hK (fun h => by
      rw [List.append_eq_nil_iff] at h
      exact hnil (hn0 h.1) (by rw [hst, h.2]; rfl))
    refine ⟨_, F, σ', rfl, h1, fun _ h => h, fun _ h => .inl h, .tup _ _ rfl (fun j u x hu hx => ?_), h2, h3⟩
    match j, hu, hx with
    | 0, hu, hx => simp at hu hx; subst hu; subst hx; rw [hst]; exact .d _ _ _ (.int _ _)
    | 1, hu, hx => simp at hu hx; subst hu; subst hx; exact .d _ _ _ .nilif
    | j + 2, hu, hx => simp at hu
  | [], hsz, _ => simp at hsz
  | [_], hsz, _ => simp at hsz
  | _ :: _ :: _ :: _, hsz, _ => simp at hsz

theorem eff_Len (L : Lays.n170 P ρ) (bytes : List UInt8) :
    EffCall P G (ρ.f 170) [.ptr 0 0 0] [bldB (ρ.t 72) 1 bytes.length, bufB (ρ.t 5) bytes] (.d false (.int .i64 bytes.length)) [bldB (ρ.t 72) 1 bytes.length, bufB (ρ.t 5) bytes] [] := by
  intro w F σ vals hG hH hR
  obtain ⟨l0, p, v, hs0, hk0, hB, hn0, hv⟩ := bld_open hH
  obtain ⟨hsz, hval⟩ := hR
  obtain ⟨l⟩ := vals
  match l, hsz, hval with
  | [v0], hsz, hval =>
    have e0 := ptr0_inv hs0 (hval 0 v0 (.ptr 0 0 0) rfl rfl)
    subst e0
    refine (Any.Builder_Len_f L 0 l0.blk (bCells bytes) w hB.isB).mono ?_
    rintro e w' ⟨rfl, rfl⟩
    exact ⟨_, F, σ, rfl, .refl _ _ _, fun _ h => h, fun _ h => .inl h, by rw [bCells_len]; exact .d _ _ _ (.int _ _), hH, fun _ _ _ h _ => h⟩
  | [], hsz, _ => simp at hsz
  | _ :: _ :: _, hsz, _ => simp at hsz

theorem eff_String (L : Lays.n169 P ρ) (X : Builder.Extra P ρ) (bytes : List UInt8) :
    EffCall P G (ρ.f 169) [.ptr 0 0 0] [bldB (ρ.t 72) 1 bytes.length, bufB (ρ.t 5) bytes] (.d false (.str bytes)) [bldB (ρ.t 72) 1 bytes.length, bufB (ρ.t 5) bytes] [1] := by
  intro w F σ vals hG hH hR
  obtain ⟨l0, p, v, hs0, hk0, hB, hn0, hv⟩ := bld_open hH
  obtain ⟨hsz, hval⟩ := hR
  obtain ⟨l⟩ := vals
  match l, hsz, hval with
  | [v0], hsz, hval =>
    have e0 := ptr0_inv hs0 (hval 0 v0 (.ptr 0 0 0) rfl rfl)
    subst e0
    by_cases h0 : bytes = []
    · subst h0
      have := hn0 rfl
      subst this
      refine (bld_String_nil L X hB).mono ?_
      rintro e w' ⟨rfl, rfl⟩
      have hB' : BAt (ρ.t 72) (ρ.t 5) w.drew l0.blk p (.slice none 0 0) (bCells []) := ⟨hB.hp, hB.hb, hB.own, hB.ne⟩
      have hK : Kept w w.drew l0.blk (.slice none 0 0) (.slice none 0 0) := ⟨rfl, rfl, rfl, Nat.le_refl _, fun _ _ _ _ => rfl, .inl rfl⟩
      obtain ⟨σ', h1, h2, h3⟩ := bld_close hH hs0 hk0 hv hB' hK (fun _ => rfl)
      exact ⟨_, F, σ', rfl, h1, fun _ h => h, fun _ h => .inl h, .d _ _ _ (.str ⟨#[]⟩), h2, h3⟩
    · obtain ⟨g, cap, rfl⟩ : ∃ g cap, v = .slice (some ⟨g, 0, none⟩) bytes.length cap := by
        rcases hB.own.2 with ⟨_, hz⟩ | ⟨g, cap, cur, fz, hv, _⟩
        · rw [bCells_len] at hz; exact absurd (List.eq_nil_of_length_eq_zero hz) h0
        · rw [bCells_len] at hv; exact ⟨g, cap, hv⟩
      refine (bld_String_some L X h0 hB).mono ?_
      rintro e w' ⟨rfl, rfl⟩
      have hlen : (bCells bytes).length = bytes.length := bCells_len _
      have hA : Lib.BuilderAtF (ρ.t 72) (ρ.t 5) 0 l0.blk p (bCells bytes) w.drew := ⟨Nat.zero_le _, _, hB.hb, hB.own, hB.ne⟩
      have c1 : w.drew.cell? ⟨l0.blk, 1, none⟩ = some (.slice (some ⟨g, 0, none⟩) (bCells bytes).length cap) := by
        have : w.drew.heap[l0.blk]? = some (.cells #[p, .slice (some ⟨g, 0, none⟩) bytes.length cap] (ρ.t 72) (0, 0)) := hB.hb
        rw [Lib.cell_of_heap this, hlen]; rfl
      have hne : g ≠ l0.blk := fun h => hB.ne (by simp [Value.ownBlock, h])
      have hF' := hA.froze (g := g) (cap := cap) c1
      rw [hlen] at hF'
      have hbk : (w.drew.freeze ⟨g, 0, none⟩ bytes.length).heap[l0.blk]? = some (.cells #[p, .slice (some ⟨g, 0, none⟩) bytes.length cap] (ρ.t 72) (0, 0)) := by
        rw [freeze_other _ _ _ _ (fun h => hne h.symm)]; exact hB.hb
      have hB' : BAt (ρ.t 72) (ρ.t 5) (w.drew.freeze ⟨g, 0, none⟩ bytes.length) l0.blk p (.slice (some ⟨g, 0, none⟩) bytes.length cap) (bCells bytes) := by
        obtain ⟨_, v2, hb2, hown2, hne2⟩ := hF'
        rw [hbk] at hb2
        have : v2 = .slice (some ⟨g, 0, none⟩) bytes.length cap := by
          injection hb2 with e1
          injection e1 with e2
          have e2' := congrArg Array.toList e2
          simp at e2'
          exact e2'.symm
        subst this
        exact ⟨hB.hp, hbk, hown2, hne2⟩
      have hsz' : (w.drew.freeze ⟨g, 0, none⟩ bytes.length).heap.size = w.heap.size := by
        unfold World.freeze
        split
        · rfl
        · show (w.heap.modify _ _).size = _
          simp only [Array.size_modify]
      have hos : (w.drew.freeze ⟨g, 0, none⟩ bytes.length).os = w.os ∧ (w.drew.freeze ⟨g, 0, none⟩ bytes.length).tape = w.tape ∧ (w.drew.freeze ⟨g, 0, none⟩ bytes.length).output = w.output := by
        unfold World.freeze
        split <;> exact ⟨rfl, rfl, rfl⟩
      have hK : Kept w (w.drew.freeze ⟨g, 0, none⟩ bytes.length) l0.blk (.slice (some ⟨g, 0, none⟩) bytes.length cap) (.slice (some ⟨g, 0, none⟩) bytes.length cap) :=
        ⟨hos.1, hos.2.1, hos.2.2, by rw [hsz']; exact Nat.le_refl _, fun k _ _ hk => by rw [freeze_other _ _ _ _ (fun h => hk (by simp [Value.ownBlock, h]))]; rfl, .inl rfl⟩
      obtain ⟨σ', h1, h2, h3⟩ := bld_close hH hs0 hk0 hv hB' hK (fun h => absurd h h0)
      exact ⟨_, F, σ', rfl, h1, fun _ h => h, fun _ h => .inl h, .d _ _ _ (.str ⟨bytes.toArray⟩), h2, h3⟩
  | [], hsz, _ => simp at hsz
  | _ :: _ :: _, hsz, _ => simp at hsz

end
end Go.Vm
end

section
namespace Go.Vm
open Go.RowKit Go.Shelf Go.Proofs Go.Lib

@[reducible] def piecesD (s sep : List UInt8) : List (List D) := (Lib.split s sep).map fun x => [.str x]

section
variable {P : Program} {ρ : Ren} {G : Nat → Option (List D)}

theorem glob_int {w : World} {F : Nat → Prop} {g : Nat} {k : IntKind} {m : Int} (hG : GlobRel w F G) (h : G g = some [.int k m]) : w.cell? ⟨g, 0, none⟩ = some (.int k m) := by
  have := hG g _ h
  rw [if_neg (by simp [isHandle])] at this
  obtain ⟨hp, _⟩ := this
  cases hp with
  | ptr b o cells f h1 h2 h3 =>
    have a := h2 0 _ rfl
    have b := h3 0 _ rfl
    generalize f 0 = v at a b
    cases b
    exact a

theorem pure_Split (L : Lays.n146 P ρ) (hi9 : (P.info? (ρ.t 9)).map (fun i => (i.zero, i.size, i.bytes)) = some (some (.string ByteArray.empty), 1, 16)) (s sep : List UInt8) (m : Int) (hs : s.length < 4294967281) (h1 : 1 ≤ sep.length) (hm : G (ρ.g 1) = some [.int .i64 m]) {c1 c2 : Bool} :
    PureCall P G (ρ.f 146) [.d c1 (.str s), .d c2 (.str sep)] (.d true (.sl 1 (piecesD s sep))) [] := by
  intro w F vals hF hG hR
  obtain ⟨l⟩ := vals
  obtain ⟨hsz, hr⟩ := hR
  match l, hsz with
  | [a, b], _ =>
    obtain ⟨x, rfl, rfl⟩ := (hr 0 a _ rfl rfl).str_inv
    obtain ⟨y, rfl, rfl⟩ := (hr 1 b _ rfl rfl).str_inv
    have hsx : x.size < 4294967281 := by rw [Lib.size_eq]; exact hs
    have hsy : 1 ≤ y.size := by rw [Lib.size_eq]; exact h1
    refine (Any.strings_Split L hi9 x y m w hsx (glob_int hG hm) hsy).mono ?_
    rintro e w' ⟨rfl, rfl⟩
    have hpl : (Lib.splitB y 0 (Lib.countB x y) x).map (·.data.toList) = Lib.split x.data.toList y.data.toList := Lib.splitB_data y 0 _ x
    have hlen := Lib.splitB_all y hsy 0 _ x rfl
    have hb : Below w.heap.size w (w.alloc (.cells ((Lib.splitB y 0 (Lib.countB x y) x).map Value.string).toArray (ρ.t 9))) := (Below.refl _ w).alloc (Nat.le_refl _) _
    refine ⟨_, fun b => F b ∨ b = w.heap.size, fun _ => none, rfl, hb, fun b hb => hb.imp id (fun e => by omega), .d _ _ _ ?_, ⟨fun b blk h => by simp [indexed, look] at h, fun b b' l l' h => (by cases h), fun b l h => (by cases h), fun b hb' => ?_⟩⟩
    · refine .sl _ _ _ _ _ _ (fun i j => .string ((Lib.splitB y 0 (Lib.countB x y) x).getD i ByteArray.empty)) ?_ (Nat.le_refl _) ⟨.inr rfl, Nat.le_refl _⟩ ?_ ?_ ?_
      · show ((Lib.split x.data.toList y.data.toList).map fun x => [D.str x]).length = _
        rw [← hpl, List.length_map, List.length_map, hlen]
      · intro r hr
        obtain ⟨q, _, rfl⟩ := List.mem_map.1 hr
        rfl
      · intro i j r d hi hj
        have hi' : ((Lib.split x.data.toList y.data.toList).map fun x => [D.str x])[i]? = some r := hi
        rw [← hpl] at hi'
        simp only [List.getElem?_map, Option.map_eq_some_iff] at hi'
        obtain ⟨q, ⟨z, hz, rfl⟩, rfl⟩ := hi'
        obtain rfl : j = 0 := by
          match j, hj with
          | 0, _ => rfl
          | j + 1, hj => simp at hj
        have hh : (w.alloc (.cells ((Lib.splitB y 0 (Lib.countB x y) x).map Value.string).toArray (ρ.t 9))).heap[w.heap.size]? = some (.cells ((Lib.splitB y 0 (Lib.countB x y) x).map Value.string).toArray (ρ.t 9)) := by
          show (w.heap.push _)[w.heap.size]? = _
          simp
        unfold World.cell?
        simp only [Nat.mul_one, Nat.add_zero, Nat.zero_add]
        rw [hh]
        simp [hz, List.getD_eq_getElem?_getD]
      · intro i j r d hi hj
        have hi' : ((Lib.split x.data.toList y.data.toList).map fun x => [D.str x])[i]? = some r := hi
        rw [← hpl] at hi'
        simp only [List.getElem?_map, Option.map_eq_some_iff] at hi'
        obtain ⟨q, ⟨z, hz, rfl⟩, rfl⟩ := hi'
        obtain rfl : j = 0 := by
          match j, hj with
          | 0, _ => rfl
          | j + 1, hj => simp at hj
        simp only [List.getElem?_cons_zero, Option.some.injEq] at hj
        subst hj
        rw [List.getD_eq_getElem?_getD, hz]
        exact .str z
    · rcases hb' with h | rfl
      · exact Nat.lt_of_lt_of_le (hF b h) hb.size
      · simp
end
end Go.Vm
end

section
namespace Go.Vm

structure Sp where
  α : Type
  f : FuncId
  ok : α → Prop
  args : α → List V
  res : α → V × List Blk
  inj : ∀ a b, ok a → ok b → args a = args b → res a = res b

structure Se where
  α : Type
  f : FuncId
  ok : α → Prop
  args : α → List V
  blks : α → List Blk
  res : α → V × List Blk × List Nat
  inj : ∀ a b, ok a → ok b → args a = args b → blks a = blks b → res a = res b

open Classical in
noncomputable def callOf : List Sp → FuncId → List V → Option (V × List Blk)
  | [], _, _ => none
  | s :: L, f, vs => if s.f = f then (if h : ∃ a, s.ok a ∧ s.args a = vs then some (s.res h.choose) else none) else callOf L f vs
open Classical in
noncomputable def effOf : List Se → FuncId → List V → List Blk → Option (V × List Blk × List Nat)
  | [], _, _, _ => none
  | s :: L, f, vs, bs => if s.f = f then (if h : ∃ a, s.ok a ∧ s.args a = vs ∧ s.blks a = bs then some (s.res h.choose) else none) else effOf L f vs bs

noncomputable def cx (G : Nat → Option (List D)) (L : List Sp) (E : List Se) : Cx := ⟨callOf L, effOf E, G, fun _ => false⟩

def Has (L : List Sp) (s : Sp) : Prop := ∀ a, s.ok a → callOf L s.f (s.args a) = some (s.res a)
def HasE (L : List Se) (s : Se) : Prop := ∀ a, s.ok a → effOf L s.f (s.args a) (s.blks a) = some (s.res a)

theorem has_head (s : Sp) (L : List Sp) : Has (s :: L) s := by
  intro a ha
  have h : ∃ b, s.ok b ∧ s.args b = s.args a := ⟨a, ha, rfl⟩
  simp only [callOf, if_true]
  rw [dif_pos h]
  exact congrArg some (s.inj _ _ h.choose_spec.1 ha h.choose_spec.2)
theorem has_tail {s t : Sp} {L : List Sp} (h : Has L s) (hne : t.f ≠ s.f) : Has (t :: L) s := by
  intro a ha
  simp only [callOf]
  rw [if_neg hne]
  exact h a ha
theorem hasE_head (s : Se) (L : List Se) : HasE (s :: L) s := by
  intro a ha
  have h : ∃ b, s.ok b ∧ s.args b = s.args a ∧ s.blks b = s.blks a := ⟨a, ha, rfl, rfl⟩
  simp only [effOf, if_true]
  rw [dif_pos h]
  exact congrArg some (s.inj _ _ h.choose_spec.1 ha h.choose_spec.2.1 h.choose_spec.2.2)

variable {P : Program} {G : Nat → Option (List D)}

def Sp.Holds (P : Program) (G : Nat → Option (List D)) (s : Sp) : Prop := ∀ a, s.ok a → callable P s.f = true ∧ PureCall P G s.f (s.args a) (s.res a).1 (s.res a).2
def Se.Holds (P : Program) (G : Nat → Option (List D)) (s : Se) : Prop := ∀ a, s.ok a → callable P s.f = true ∧ EffCall P G s.f (s.args a) (s.blks a) (s.res a).1 (s.res a).2.1 (s.res a).2.2

theorem callOf_from : ∀ (L : List Sp) (f : FuncId) (vs : List V) (p : V × List Blk), callOf L f vs = some p → ∃ s ∈ L, s.f = f ∧ ∃ a, s.ok a ∧ s.args a = vs ∧ s.res a = p
  | [], f, vs, p, h => by cases h
  | s :: L, f, vs, p, h => by
    simp only [callOf] at h
    split at h
    · rename_i hf
      split at h
      · rename_i hx
        obtain ⟨h1, h2⟩ := hx.choose_spec
        exact ⟨s, by simp, hf, _, h1, h2, Option.some.inj h⟩
      · cases h
    · obtain ⟨t, ht, r⟩ := callOf_from L f vs p h
      exact ⟨t, List.mem_cons_of_mem _ ht, r⟩
theorem effOf_from : ∀ (L : List Se) (f : FuncId) (vs : List V) (bs : List Blk) (p : V × List Blk × List Nat), effOf L f vs bs = some p → ∃ s ∈ L, s.f = f ∧ ∃ a, s.ok a ∧ s.args a = vs ∧ s.blks a = bs ∧ s.res a = p
  | [], f, vs, bs, p, h => by cases h
  | s :: L, f, vs, bs, p, h => by
    simp only [effOf] at h
    split at h
    · rename_i hf
      split at h
      · rename_i hx
        obtain ⟨h1, h2, h3⟩ := hx.choose_spec
        exact ⟨s, by simp, hf, _, h1, h2, h3, Option.some.inj h⟩
      · cases h
    · obtain ⟨t, ht, r⟩ := effOf_from L f vs bs p h
      exact ⟨t, List.mem_cons_of_mem _ ht, r⟩

theorem cx_sound {L : List Sp} {E : List Se} (h1 : ∀ s ∈ L, s.Holds P G) (h2 : ∀ s ∈ E, s.Holds P G) : (cx G L E).Sound P := by
  refine ⟨fun f args r news h => ?_, fun f args r news hl _ => absurd hl (by simp [cx]), fun f args blks r blks' mv h => ?_⟩
  · obtain ⟨s, hs, rfl, a, ha, rfl, hr⟩ := callOf_from L f args (r, news) h
    have := h1 s hs a ha
    rw [hr] at this
    exact this
  · obtain ⟨s, hs, rfl, a, ha, rfl, rfl, hr⟩ := effOf_from E f args blks (r, blks', mv) h
    have := h2 s hs a ha
    rw [hr] at this
    exact this

theorem holds_of {L : List Sp} {E : List Se} (hm : P.follows .mixedOrders = true) (hK : (cx G L E).Sound P) {s : Sp} {g : Fun} (hok : ∀ a, s.ok a → funOk P s.f 0 (s.args a).length g = true)
    (hev : ∀ a, s.ok a → ∃ mv, runFun (cx G L E) g (s.args a) [] = some ((s.res a).1, (s.res a).2, mv)) : s.Holds P G := by
  intro a ha
  obtain ⟨mv, h⟩ := hev a ha
  exact pure_sound hm hK (hok a ha) h
theorem holdsE_of {L : List Sp} {E : List Se} (hm : P.follows .mixedOrders = true) (hK : (cx G L E).Sound P) {s : Se} {g : Fun} (hok : ∀ a, s.ok a → funOk P s.f (s.blks a).length (s.args a).length g = true)
    (hev : ∀ a, s.ok a → runFun (cx G L E) g (s.args a) (s.blks a) = some (s.res a)) : s.Holds P G := by
  intro a ha
  exact eff_sound hm hK (hok a ha) (hev a ha)

structure Known (P : Program) (G : Nat → Option (List D)) (L : List Sp) (E : List Se) : Prop where
  one : ∀ s ∈ L, s.Holds P G
  eff : ∀ s ∈ E, s.Holds P G
theorem Known.sound {L : List Sp} {E : List Se} (h : Known P G L E) : (cx G L E).Sound P := cx_sound h.one h.eff
theorem Known.nil : Known P G [] [] := ⟨fun s h => by simp at h, fun s h => by simp at h⟩
theorem Known.add {L : List Sp} {E : List Se} (h : Known P G L E) (hm : P.follows .mixedOrders = true) {s : Sp} {g : Fun} (hok : ∀ a, s.ok a → funOk P s.f 0 (s.args a).length g = true)
    (hev : ∀ a, s.ok a → ∃ mv, runFun (cx G L E) g (s.args a) [] = some ((s.res a).1, (s.res a).2, mv)) : Known P G (s :: L) E := by
  refine ⟨fun t ht => ?_, h.eff⟩
  rcases List.mem_cons.1 ht with rfl | ht
  · exact holds_of hm h.sound hok hev
  · exact h.one t ht
theorem Known.put {L : List Sp} {E : List Se} (h : Known P G L E) {s : Sp} (hs : s.Holds P G) : Known P G (s :: L) E := by
  refine ⟨fun t ht => ?_, h.eff⟩
  rcases List.mem_cons.1 ht with rfl | ht
  · exact hs
  · exact h.one t ht
theorem Known.putE {L : List Sp} {E : List Se} (h : Known P G L E) {s : Se} (hs : s.Holds P G) : Known P G L (s :: E) := by
  refine ⟨h.one, fun t ht => ?_⟩
  rcases List.mem_cons.1 ht with rfl | ht
  · exact hs
  · exact h.eff t ht
end Go.Vm
end

section
namespace Go.Vm
open Go.Proofs Go.RowKit Go.Shelf

attribute [local go_sem] Oper.semAt_some

inductive Ty where
  | mk (k : Int) (name : List UInt8) (args : List Ty)
mutual
def Ty.d : Ty → List D
  | .mk k n l => [.int .i64 k, .str n, .sl 3 (dL l)]
def dL : List Ty → List (List D)
  | [] => []
  | t :: r => t.d :: dL r
end
mutual
def Ty.vars : Ty → List (List UInt8)
  | .mk k n l => if k = 2 then [n] else varsL l
def varsL : List Ty → List (List UInt8)
  | [] => []
  | t :: r => t.vars ++ varsL r
end

mutual
def Ty.fit : Ty → Prop
  | .mk _ _ l => l.length ≤ most ∧ fitL l
def fitL : List Ty → Prop
  | [] => True
  | t :: r => t.fit ∧ fitL r
end
theorem fitL_get : ∀ (l : List Ty) (i : Nat) (t : Ty), fitL l → l[i]? = some t → t.fit
  | [], i, t, _, h => by simp at h
  | u :: r, 0, t, hf, h => by simp at h; subst h; exact hf.1
  | u :: r, i + 1, t, hf, h => by simp at h; exact fitL_get r i t hf.2 h

theorem dL_len : ∀ l : List Ty, (dL l).length = l.length
  | [] => rfl
  | t :: r => by simp [dL, dL_len r]
theorem dL_get : ∀ (l : List Ty) (i : Nat) (t : Ty), l[i]? = some t → (dL l)[i]? = some t.d
  | [], i, t, h => by simp at h
  | u :: r, 0, t, h => by simp at h; simp [dL, h]
  | u :: r, i + 1, t, h => by simp at h; simp [dL, dL_get r i t h]
theorem varsL_take : ∀ (l : List Ty) (i : Nat) (t : Ty), l[i]? = some t → varsL (l.take (i + 1)) = varsL (l.take i) ++ t.vars
  | [], i, t, h => by simp at h
  | u :: r, 0, t, h => by simp at h; simp [varsL, h]
  | u :: r, i + 1, t, h => by simp at h; simp [varsL, varsL_take r i t h]

theorem varsL_append : ∀ (a b : List Ty), varsL (a ++ b) = varsL a ++ varsL b
  | [], b => rfl
  | t :: a, b => by simp [varsL, varsL_append a b]
theorem varsL_len_take (l : List Ty) (i : Nat) : (varsL (l.take i)).length ≤ (varsL l).length := by
  have := congrArg (fun x => (varsL x).length) (List.take_append_drop i l)
  simp only [varsL_append, List.length_append] at this
  omega

theorem rows_open {W : World} {F : Nat → Prop} {v : Value} {ls : List Ty} (h : RepD W F v (.sl 3 (dL ls))) : ∃ a cap, v = .slice a ls.length cap ∧ ls.length ≤ cap ∧
    ∀ (j : Nat) (t : Ty), ls[j]? = some t → ∃ (b o : Nat) (g : Nat → Value), a = some ⟨b, o, none⟩ ∧ F b ∧ ∀ (c : Nat) (d : D), t.d[c]? = some d → W.cell? ⟨b, o + (j * 3 + c), none⟩ = some (g c) ∧ RepD W F (g c) d := by
  generalize hd : D.sl 3 (dL ls) = dd at h
  cases h with
  | sl0 a cap k =>
    simp only [D.sl.injEq] at hd
    have : ls = [] := by
      have := congrArg List.length hd.2
      rw [dL_len] at this
      exact List.length_eq_zero_iff.1 this
    subst this
    exact ⟨a, cap, rfl, Nat.zero_le _, fun j t h => by simp at h⟩
  | sl b o len cap k rows g h1 h2 h3 h4 h5 h6 =>
    simp only [D.sl.injEq] at hd
    obtain ⟨rfl, rfl⟩ := hd
    rw [dL_len] at h1
    subst h1
    exact ⟨_, cap, rfl, h2, fun j t ht => ⟨b, o, g j, rfl, h3, fun c d hd => ⟨h5 j c _ d (dL_get ls j t ht) hd, h6 j c _ d (dL_get ls j t ht) hd⟩⟩⟩
  | _ => cases hd

set_option maxRecDepth 100000 in
set_option maxHeartbeats 2000000 in
theorem each_in (l n₀ N : Nat) (F : Nat → Prop) (hFn : ∀ b, F b → b < n₀) (J : List (List UInt8) → World → Prop) (hJ : ∀ s A B, J s A → World.grownBy A B none → J s B)
    (Jx : List (List UInt8) → World → Prop) (hY : ∀ m pre x W, J pre W → pre.length < N → YieldAt Fence.wide m Tryd.prog l #[.string ⟨x.toArray⟩] W fun e W' => (e = .returned (.bool true) ∧ J (pre ++ [x]) W' ∧ Below n₀ W W') ∨ (e = .returned (.bool false) ∧ Jx (pre ++ [x]) W')) :
    ∀ (sz : Nat) (T : Ty) (n : Nat) (pre : List (List UInt8)) (W : World) (v0 v1 v2 : Value), SizeOf.sizeOf T < sz → T.fit → n₀ ≤ W.heap.size → (∀ (j : Nat) (v : Value) (d : D), #[v0, v1, v2][j]? = some v → T.d[j]? = some d → RepD W F v d) → J pre W → pre.length + T.vars.length ≤ N →
      CallsIn Fence.wide n Tryd.prog 24 #[.agg #[v0, v1, v2], .func (.yield l) #[] #[]] W fun e W' => (e = .returned (.bool true) ∧ J (pre ++ T.vars) W' ∧ Below n₀ W W') ∨ (e = .returned (.bool false) ∧ ∃ q, Jx (pre ++ q) W') := by
  intro sz
  induction sz with
  | zero => intro T n pre W v0 v1 v2 h; omega
  | succ sz ih =>
    rintro ⟨k, nm, ls⟩ n pre W v0 v1 v2 hsz ⟨hln, hfl⟩ hle hrep h0 hN
    have hmost : most = 1099511627776 := rfl
    have r0 := hrep 0 v0 _ rfl rfl
    have r1 := hrep 1 v1 _ rfl rfl
    have r2 := hrep 2 v2 _ rfl rfl
    cases r0 with
    | int =>
      generalize hd1 : D.str nm = d1 at r1
      cases r1 with
      | str s =>
        simp only [D.str.injEq] at hd1
        subst hd1
        refine callsIn_of_wp Tryd.func24 rfl trivial ?_ rfl
        simp only [Tryd.ntmps24, List.size_toArray, List.length_cons, List.length_nil, Nat.reduceAdd, Nat.reduceSub, Array.replicate_succ, Array.replicate_zero, List.push_toArray, List.append_toArray, List.nil_append, List.cons_append]
        by_cases hk : k = 2
        · subst hk
          simp only [Ty.vars, if_true, List.length_cons, List.length_nil] at hN ⊢
          obtain ⟨fn, tmps, assign, body, hy, hR⟩ := hY (n - 1) pre s.data.toList (W.alloc (.cells #[.int .i64 2, .string s, v2] 24)) (hJ _ _ _ h0 (World.grownBy_alloc W _ none)) (by omega)
          simp only [Array.toArray_toList] at hy hR
          gi_wp2
          refine ⟨fun h => (by cases h), hR.mono ?_⟩
          rintro e W2 (⟨rfl, hj, hb⟩ | ⟨rfl, hx⟩)
          · gi_wp2
            go_ret
            exact .inl ⟨rfl, hj, ((Below.refl n₀ W).alloc hle _).trans hb⟩
          · gi_wp2
            go_ret
            exact .inr ⟨rfl, _, hx⟩
        · simp only [Ty.vars, if_neg hk] at hN ⊢
          obtain ⟨a, cap, rfl, hcap, hel⟩ := rows_open r2
          have hkb : (k == 2) = false := by simpa using hk
          gi_wp2
          gi_loopw [17] (fun i wr => ∃ j : Nat, j ≤ ls.length ∧ i = .int .i64 j ∧ J (pre ++ varsL (ls.take j)) wr ∧ Below n₀ W wr)
            (fun i _ => ls.length - (intOf i).toNat)
          case atStart => exact ⟨0, Nat.zero_le _, rfl, by simpa [varsL] using hJ _ _ _ h0 (World.grownBy_alloc W _ none), (Below.refl n₀ W).alloc hle _⟩
          case round =>
            obtain ⟨j, hj, rfl, hJs, hbw⟩ := hrel
            by_cases hlt : j < ls.length
            · obtain ⟨b, o, g, rfl, hFb, hg⟩ := hel j ls[j] (List.getElem?_eq_getElem hlt)
              cases hT : ls[j] with
              | mk k' n' l' =>
                rw [hT] at hg
                obtain ⟨c0, q0⟩ := hg 0 _ rfl
                obtain ⟨c1, q1⟩ := hg 1 _ rfl
                obtain ⟨c2, q2⟩ := hg 2 _ rfl
                have hbn := hFn b hFb
                replace c0 := (hbw.cell (p := ⟨b, o + (j * 3 + 0), none⟩) hbn).trans c0
                replace c1 := (hbw.cell (p := ⟨b, o + (j * 3 + 1), none⟩) hbn).trans c1
                replace c2 := (hbw.cell (p := ⟨b, o + (j * 3 + 2), none⟩) hbn).trans c2
                simp only [← Nat.add_assoc, Nat.add_zero] at c0 c1 c2
                obtain ⟨s', e1⟩ : ∃ s', g 1 = .string s' := by
                  generalize hd1 : D.str n' = d1 at q1
                  generalize g 1 = x1 at q1
                  cases q1 with
                  | str s' => exact ⟨s', rfl⟩
                  | _ => cases hd1
                have e0 : g 0 = .int .i64 k' := by
                  generalize g 0 = x0 at q0
                  cases q0; rfl
                obtain ⟨a2, cap2, e2, _⟩ := rows_open q2
                rw [e0] at c0 q0
                rw [e1] at c1 q1
                rw [e2] at c2 q2
                have hT' : ls[j]? = some (.mk k' n' l') := by rw [List.getElem?_eq_getElem hlt, hT]
                have hvt := varsL_take ls j _ hT'
                have hvl : (varsL (ls.take j)).length + (Ty.mk k' n' l').vars.length ≤ (varsL ls).length := by
                  have := varsL_len_take ls (j + 1)
                  rw [hvt, List.length_append] at this
                  exact this
                gi_wp2
                refine ⟨trivial, fun h => (by cases h), (ih (.mk k' n' l') (n - 1) (pre ++ varsL (ls.take j)) _ _ _ _ ?size (fitL_get ls j _ hfl hT') (by have := hbw.size; simp; omega) (fun i v d hv hd => ?rep) (hJ _ _ _ hJs (World.grownBy_alloc wr _ none)) (by rw [List.length_append]; omega)).mono ?_⟩
                case size =>
                  have h1 := List.sizeOf_lt_of_mem (List.mem_of_getElem? hT')
                  simp only [Ty.mk.sizeOf_spec] at hsz h1 ⊢
                  omega
                case rep =>
                  have mono : ∀ {v d}, RepD W F v d → RepD (wr.alloc (.cells #[.int .i64 k', .string s', .slice a2 l'.length cap2] 24)) F v d := fun h => h.mono fun y hy => ⟨hy, by
                    have hy' := hFn y hy
                    have hws := hbw.size
                    exact (Below.heap_alloc wr _ y (by omega)).trans (hbw.block y hy')⟩
                  match i, hv, hd with
                  | 0, hv, hd => simp [Ty.d] at hv hd; subst hv; subst hd; exact mono q0
                  | 1, hv, hd => simp [Ty.d] at hv hd; subst hv; subst hd; exact mono q1
                  | 2, hv, hd => simp [Ty.d] at hv hd; subst hv; subst hd; exact mono q2
                  | i + 3, hv, hd => simp at hv
                rintro e W3 (⟨rfl, hJ3, hb3⟩ | ⟨rfl, q, hx3⟩)
                case inr =>
                  gi_wp2
                  go_ret
                  exact .inr ⟨rfl, varsL (ls.take j) ++ q, by simpa [List.append_assoc] using hx3⟩
                gi_wp2
                go_roundw
                case rel =>
                  exact ⟨j + 1, by omega, by simp, by rw [hvt, ← List.append_assoc]; exact hJ3, (hbw.alloc (Nat.le_trans hle hbw.size) _).trans hb3⟩
                case measure =>
                  simp [intOf]; omega
            · obtain rfl : j = ls.length := by omega
              gi_wp2
              go_ret
              refine .inl ⟨rfl, ?_, hbw⟩
              simpa using hJs
      | _ => cases hd1

end Go.Vm
end

section
namespace Go.Vm
open Go.Proofs Go.RowKit Go.Shelf

attribute [local go_sem] Oper.semAt_some

set_option maxRecDepth 100000 in
set_option maxHeartbeats 1000000 in
theorem vars_in (n : Nat) (v0 v1 v2 : Value) (w : World) (hs : ∃ (k : Int) (s : ByteArray) (a : Option Addr) (len cap : Nat), v0 = .int .i64 k ∧ v1 = .string s ∧ v2 = .slice a len cap) :
    CallsIn Fence.wide n Tryd.prog 13 #[.agg #[v0, v1, v2]] w fun e w' => e = .returned (.func (.func 23) #[] #[.pointer (some ⟨w.heap.size, 0, none⟩)]) ∧ w' = w.alloc (.cells #[v0, v1, v2] 24) := by
  obtain ⟨k, s, a, len, cap, rfl, rfl, rfl⟩ := hs
  refine callsIn_of_wp Tryd.func13 rfl trivial ?_ rfl
  simp only [Tryd.ntmps13, List.size_toArray, List.length_cons, List.length_nil, Nat.reduceAdd, Nat.reduceSub, Array.replicate_succ, Array.replicate_zero, List.push_toArray, List.append_toArray, List.nil_append, List.cons_append]
  gi_wp2
  go_ret
  exact ⟨rfl, rfl⟩

theorem abides_none {β : Type} {B : Nat} {I : β → World → Prop} (h : AbidesFrom B I) : ∀ s A B', I s A → World.grownBy A B' none → I s B' :=
  fun s A B' hs hg => h s A B' none hs hg (fun r e => by cases e)

set_option maxRecDepth 100000 in
set_option maxHeartbeats 1000000 in
theorem vars1_in (n l n₀ N : Nat) (F : Nat → Prop) (hFn : ∀ b, F b → b < n₀) (J Jx : List (List UInt8) → World → Prop) (hJ : ∀ s A B, J s A → World.grownBy A B none → J s B)
    (hY : ∀ m pre x W, J pre W → pre.length < N → YieldAt Fence.wide m Tryd.prog l #[.string ⟨x.toArray⟩] W fun e W' => (e = .returned (.bool true) ∧ J (pre ++ [x]) W' ∧ Below n₀ W W') ∨ (e = .returned (.bool false) ∧ Jx (pre ++ [x]) W'))
    (T : Ty) (W : World) (v0 v1 v2 : Value) (Bt : Nat) (hf : T.fit) (hle : n₀ ≤ W.heap.size) (hrep : ∀ (j : Nat) (v : Value) (d : D), #[v0, v1, v2][j]? = some v → T.d[j]? = some d → RepD W F v d) (h0 : J [] W) (hN : T.vars.length ≤ N)
    (hB : ∀ (i : Nat) (v : Value), #[v0, v1, v2][i]? = some v → W.cell? ⟨Bt, i, none⟩ = some v) :
    CallsIn Fence.wide n Tryd.prog 23 #[.func (.yield l) #[] #[], .pointer (some ⟨Bt, 0, none⟩)] W fun e W' => (∃ v, e = .returned v) ∧ ((∃ ys, ys = T.vars ∧ J ys W') ∨ (∃ pre, True ∧ Jx pre W')) := by
  obtain ⟨k, nm, ls⟩ := T
  have r0 := hrep 0 v0 _ rfl rfl
  have r1 := hrep 1 v1 _ rfl rfl
  have r2 := hrep 2 v2 _ rfl rfl
  have c0 := hB 0 v0 rfl
  have c1 := hB 1 v1 rfl
  have c2 := hB 2 v2 rfl
  have he := each_in l n₀ N F hFn J hJ Jx hY (SizeOf.sizeOf (Ty.mk k nm ls) + 1) (.mk k nm ls) (n - 1) [] W v0 v1 v2 (Nat.lt_succ_self _) hf hle hrep h0 (by simpa using hN)
  cases r0 with
  | int =>
    generalize hd1 : D.str nm = d1 at r1
    cases r1 with
    | str s =>
      obtain ⟨a, cap, rfl, _⟩ := rows_open r2
      refine callsIn_of_wp Tryd.func23 rfl trivial ?_ rfl
      simp only [Tryd.ntmps23, List.size_toArray, List.length_cons, List.length_nil, Nat.reduceAdd, Nat.reduceSub, Array.replicate_succ, Array.replicate_zero, List.push_toArray, List.append_toArray, List.nil_append, List.cons_append]
      gi_wp2
      refine ⟨trivial, fun h => (by cases h), he.mono ?_⟩
      rintro e W3 (⟨rfl, hJ3, _⟩ | ⟨rfl, q, hx⟩)
      · gi_wp2
        go_end0
        exact ⟨⟨_, rfl⟩, .inl ⟨_, rfl, by simpa using hJ3⟩⟩
      · gi_wp2
        go_end0
        exact ⟨⟨_, rfl⟩, .inr ⟨_, trivial, hx⟩⟩
    | _ => cases hd1

theorem vars_stops (n n₀ : Nat) (F : Nat → Prop) (hFn : ∀ b, F b → b < n₀) (T : Ty) (w : World) (v0 v1 v2 : Value) (Bt : Nat) (hf : T.fit) (hle : n₀ ≤ w.heap.size) (hBt : Bt < w.heap.size)
    (hrep : ∀ (j : Nat) (v : Value) (d : D), #[v0, v1, v2][j]? = some v → T.d[j]? = some d → RepD w F v d) (hB : ∀ (i : Nat) (v : Value), #[v0, v1, v2][i]? = some v → w.cell? ⟨Bt, i, none⟩ = some v) :
    SeqStopsK Fence.wide n Tryd.prog 23 #[.pointer (some ⟨Bt, 0, none⟩)] (fun x : List UInt8 => #[Value.string ⟨x.toArray⟩]) (Below n₀) (fun ys => ys = T.vars) (fun _ => True) T.vars.length w := by
  intro l J Jx W hW hJ hJx hY h0
  refine vars1_in n l n₀ T.vars.length F hFn J Jx (abides_none hJ) (fun m pre x W1 h1 h2 => ?_) T W v0 v1 v2 Bt hf (Nat.le_trans hle hW.size) (fun j v d hv hd => (hrep j v d hv hd).mono fun y hy => ⟨hy, ?_⟩) h0 (Nat.le_refl _) (fun i v hv => ?_)
  · obtain ⟨fn, tmps, assign, body, hy, hR⟩ := hY pre x W1 h1 h2
    exact ⟨fn, tmps, assign, body, hy, ⟨hR.1, fun c cs _ => hR.2 c cs (fun d h => by cases h)⟩⟩
  · exact hW.block y (Nat.lt_of_lt_of_le (hFn y hy) hle)
  · exact (hW.cell (p := ⟨Bt, i, none⟩) hBt).trans (hB i v hv)

end Go.Vm
end

section
namespace Go.Vm
open Go.Proofs Go.RowKit Go.Shelf

attribute [local go_sem] Oper.semAt_some

@[reducible] def Ty.v : Ty → V
  | .mk k n l => .agg [.d false (.int .i64 k), .d false (.str n), .d false (.sl 3 (dL l))]

theorem Ty.open {w : World} {F : Nat → Prop} {base : Nat} {σ : Nat → Option Loc} {v : Value} {T : Ty} (h : RepV w F base σ v T.v) :
    ∃ v0 v1 v2, v = .agg #[v0, v1, v2] ∧ (∀ (j : Nat) (x : Value) (d : D), #[v0, v1, v2][j]? = some x → T.d[j]? = some d → RepD w F x d) ∧ ∃ (k : Int) (s : ByteArray) (a : Option Addr) (len cap : Nat), v0 = .int .i64 k ∧ v1 = .string s ∧ v2 = .slice a len cap := by
  obtain ⟨k, nm, ls⟩ := T
  cases h with
  | agg cs _ h1 h2 h3 =>
    obtain ⟨l⟩ := cs
    match l, h1 with
    | [a, b, c], _ =>
      have ra := h2 0 a _ rfl rfl
      have rb := h2 1 b _ rfl rfl
      have rc := h2 2 c _ rfl rfl
      have e0 := ra.int_inv
      obtain ⟨s, e1, _⟩ := rb.str_inv
      have rc' : RepD w F c (.sl 3 (dL ls)) := by cases rc with | d _ _ _ h => exact h
      obtain ⟨ad, cap, e2, _⟩ := rows_open rc'
      refine ⟨a, b, c, rfl, fun j x d hx hd => ?_, _, _, _, _, _, e0, e1, e2⟩
      match j, hx, hd with
      | 0, hx, hd => simp [Ty.d] at hx hd; subst hx; subst hd; cases ra with | d _ _ _ h => exact h
      | 1, hx, hd => simp [Ty.d] at hx hd; subst hx; subst hd; cases rb with | d _ _ _ h => exact h
      | 2, hx, hd => simp [Ty.d] at hx hd; subst hx; subst hd; exact rc'
      | j + 3, hx, hd => simp at hx

variable {K : Cx} {P : Program}

theorem Ty.reps {w : World} {F : Nat → Prop} {base : Nat} {σ : Nat → Option Loc} {T : Ty} {v0 v1 v2 : Value} (hrep : ∀ (j : Nat) (x : Value) (d : D), #[v0, v1, v2][j]? = some x → T.d[j]? = some d → RepD w F x d)
    (ho : ∃ (k : Int) (s : ByteArray) (a : Option Addr) (len cap : Nat), v0 = .int .i64 k ∧ v1 = .string s ∧ v2 = .slice a len cap) : RepV w F base σ (.agg #[v0, v1, v2]) T.v := by
  obtain ⟨k, s, a, len, cap, rfl, rfl, rfl⟩ := ho
  obtain ⟨k', nm, ls⟩ := T
  refine .agg _ _ rfl (fun j x y hx hy => ?_) (fun x hx => ?_)
  · match j, hx, hy with
    | 0, hx, hy => simp at hx hy; subst hx; subst hy; exact .d _ _ _ (hrep 0 _ _ rfl rfl)
    | 1, hx, hy => simp at hx hy; subst hx; subst hy; exact .d _ _ _ (hrep 1 _ _ rfl rfl)
    | 2, hx, hy => simp at hx hy; subst hx; subst hy; exact .d _ _ _ (hrep 2 _ _ rfl rfl)
    | j + 3, hx, hy => simp at hx
  · simp only [List.mem_toArray, List.mem_cons, List.not_mem_nil, or_false] at hx
    rcases hx with rfl | rfl | rfl <;> rfl
theorem glob_below {w W : World} {F : Nat → Prop} {G : Nat → Option (List D)} (hF : ∀ b, F b → b < w.heap.size) (hb : Below w.heap.size w W) (hG : GlobRel w F G) : GlobRel W F G :=
  hG.mono fun b h => ⟨h, hb.block b (hF b h)⟩

def plainD : V → Option D
  | .d _ x => some x
  | .fs _ k r => some (.sl k r)
  | _ => none
theorem plainD_rep {w : World} {F : Nat → Prop} {base : Nat} {σ : Nat → Option Loc} {q : Value} {v : V} {d : D} (h : RepV w F base σ q v) (hp : plainD v = some d) : RepD w F q d := by
  have col_F : ∀ {c : Bool} {b : Nat}, col F base c b → F b := fun {c b} h => by
    cases c with
    | false => exact h
    | true => exact h.1
  cases h with
  | d c _ x h =>
    simp only [plainD, Option.some.injEq] at hp
    subst hp
    exact h.mono fun b hb => ⟨col_F hb, rfl⟩
  | fs c a len k rows h =>
    simp only [plainD, Option.some.injEq] at hp
    subst hp
    exact h.mono fun b hb => ⟨col_F hb, rfl⟩
  | _ => simp [plainD] at hp

theorem cell_far {W : World} {b i j : Nat} {v : Value} (h : i ≠ j) : (W.setCell ⟨b, i, none⟩ v).cell? ⟨b, j, none⟩ = W.cell? ⟨b, j, none⟩ := World.cell?_setCell_other _ _ _ _ (by intro e; simp at e; try exact h e)
theorem cell_three {W : World} {b : Nat} {x y z x' y' z' : Value} (c0 : W.cell? ⟨b, 0, none⟩ = some x) (c1 : W.cell? ⟨b, 1, none⟩ = some y) (c2 : W.cell? ⟨b, 2, none⟩ = some z) {W' : World} (hW : W' = ((W.setCell ⟨b, 0, none⟩ x').setCell ⟨b, 1, none⟩ y').setCell ⟨b, 2, none⟩ z') :
    W'.cell? ⟨b, 0, none⟩ = some x' ∧ W'.cell? ⟨b, 1, none⟩ = some y' ∧ W'.cell? ⟨b, 2, none⟩ = some z' := by
  subst hW
  refine ⟨?_, ?_, ?_⟩
  · rw [cell_far (by decide), cell_far (by decide), World.cell?_setCell_same' _ _ _ (by rw [c0]; rfl)]
  · rw [cell_far (by decide), World.cell?_setCell_same' _ _ _ (by rw [cell_far (by decide), c1]; rfl)]
  · rw [World.cell?_setCell_same' _ _ _ (by rw [cell_far (by decide), cell_far (by decide), c2]; rfl)]

theorem canon_ret {tmps : Array Value} {W : World} {b : Nat} {x y z : Value} {e : Int} (ht2 : tmps.getD 2 undef = .pointer (some ⟨b, 0, none⟩)) (ht3 : tmps.getD 3 undef = .int .i64 e)
    (c0 : W.cell? ⟨b, 0, none⟩ = some x) (c1 : W.cell? ⟨b, 1, none⟩ = some y) (c2 : W.cell? ⟨b, 2, none⟩ = some z) : (results Tryd.f9 tmps).run Tryd.prog W = .ok (.tuple #[.agg #[x, y, z], .int .i64 e]) W := by
  rw [results_cell_tmp rfl, ht2, ht3]
  simp [loadVar, go_sem, c0, c1, c2]
  trace_state

set_option maxRecDepth 100000 in
set_option maxHeartbeats 2000000 in
theorem canon_bad (hK : K.Sound Tryd.prog) (T : Ty) (e : Int) (he : e ≠ 0) {cw : Bool} (hw : K.call 12 [T.v] = some (.d cw (.int .i64 e), [])) : PureCall Tryd.prog K.glob 9 [T.v] (.tup [.agg [.d false (.int .i64 0), .d false (.str []), .d false (.sl 3 [])], .d false (.int .i64 e)]) [] := by
  intro w F vals hF hG hR
  obtain ⟨l⟩ := vals
  obtain ⟨h1, h2⟩ := hR
  match l, h1 with
  | [v], _ =>
    obtain ⟨v0, v1, v2, rfl, hrep, ho⟩ := Ty.open (h2 0 v _ rfl rfl)
    obtain ⟨k, s, a, len, cap, rfl, rfl, rfl⟩ := id ho
    have hwr := (hK.pure _ _ _ _ hw).2
    clear h2
    obtain ⟨n, hn⟩ : ∃ n : Nat, 3 ≤ n := ⟨3, Nat.le_refl _⟩
    refine (callsIn_wide (n := n)).1 (callsIn_of_wp Tryd.func9 rfl trivial ?_ rfl)
    simp only [Tryd.ntmps9, List.size_toArray, List.length_cons, List.length_nil, Nat.reduceAdd, Nat.reduceSub, Array.replicate_succ, Array.replicate_zero, List.push_toArray, List.append_toArray, List.nil_append, List.cons_append]
    gi_wp2
    have hb2 : Below w.heap.size w ((w.alloc (.cells #[.int .i64 k, .string s, .slice a len cap] 24)).alloc (.cells #[.int .i64 0, .string ByteArray.empty, .slice none 0 0] 24)) := ((Below.refl _ w).alloc (Nat.le_refl _) _).alloc (by simp) _
    refine ⟨trivial, fun h => (by cases h), (callsIn_wide.2 (hwr _ F _ (fun b hb => Nat.lt_of_lt_of_le (hF b hb) hb2.size) (glob_below hF hb2 hG) ⟨rfl, fun j x y hx hy => ?_⟩)).mono ?_⟩
    · match j, hx, hy with
      | 0, hx, hy =>
        simp at hx hy
        subst hx; subst hy
        exact Ty.reps (fun j x d hx hd => (hrep j x d hx hd).mono fun y hy => ⟨hy, hb2.block y (hF y hy)⟩) ho
      | j + 1, hx, hy => simp at hx
    · rintro e' W3 ⟨v, F', σ', rfl, hb3, _, hv, _⟩
      obtain rfl := hv.int_inv
      have hk2 : W3.heap[w.heap.size + 1]? = some (.cells #[.int .i64 0, .string ByteArray.empty, .slice none 0 0] 24) := by
        rw [hb3.block (w.heap.size + 1) (by simp), ← World.size_alloc w (.cells #[.int .i64 k, .string s, .slice a len cap] 24)]
        exact World.alloc_heap_new _ _
      have c20 : W3.cell? ⟨w.heap.size + 1, 0, none⟩ = some (.int .i64 0) := by simp [World.cell?, hk2]
      have c21 : W3.cell? ⟨w.heap.size + 1, 1, none⟩ = some (.string ByteArray.empty) := by simp [World.cell?, hk2]
      have c22 : W3.cell? ⟨w.heap.size + 1, 2, none⟩ = some (.slice none 0 0) := by simp [World.cell?, hk2]
      have f20 : W3.frozen? ⟨w.heap.size + 1, 0, none⟩ = false := by simp [World.frozen?, hk2]
      have f21 : W3.frozen? ⟨w.heap.size + 1, 1, none⟩ = false := by simp [World.frozen?, hk2]
      have f22 : W3.frozen? ⟨w.heap.size + 1, 2, none⟩ = false := by simp [World.frozen?, hk2]
      have he' : (e != 0) = true := by simpa using he
      gi_wp2
      refine bodyPost_ret (v := .tuple #[.agg #[.int .i64 0, .string ByteArray.empty, .slice none 0 0], .int .i64 e]) ?_ rfl ?_
      · obtain ⟨d0, d1, d2⟩ := cell_three (x' := .int .i64 0) (y' := .string { data := #[] }) (z' := .slice none 0 0) c20 c21 c22 rfl
        exact canon_ret (b := w.heap.size + 1) rfl rfl d0 d1 d2
      · have hb4 : Below w.heap.size w W3 := hb2.trans (hb3.mono hb2.size)
        have hb5 := ((hb4.setCell (p := ⟨w.heap.size + 1, 0, none⟩) (by simp) (.int .i64 0)).setCell (p := ⟨w.heap.size + 1, 1, none⟩) (by simp) (.string { data := #[] })).setCell (p := ⟨w.heap.size + 1, 2, none⟩) (by simp) (.slice none 0 0)
        exact ⟨_, F, fun _ => none, rfl, hb5, fun b hb => .inl hb, .tup _ _ rfl (fun j x y hx hy => by
          match j, hx, hy with
          | 0, hx, hy =>
            simp at hx hy
            subst hx; subst hy
            refine .agg _ _ rfl (fun j x y hx hy => ?_) (fun x hx => ?_)
            · match j, hx, hy with
              | 0, hx, hy => simp at hx hy; subst hx; subst hy; exact .int
              | 1, hx, hy => simp at hx hy; subst hx; subst hy; exact .str (s := ByteArray.empty)
              | 2, hx, hy => simp at hx hy; subst hx; subst hy; exact .d _ _ _ (.sl0 _ _ _ (fun _ => rfl))
              | j + 3, hx, hy => simp at hx
            · simp only [List.mem_toArray, List.mem_cons, List.not_mem_nil, or_false] at hx
              rcases hx with rfl | rfl | rfl <;> rfl
          | 1, hx, hy => simp at hx hy; subst hx; subst hy; exact .int
          | j + 2, hx, hy => simp at hx), ⟨fun b blk h => by simp [indexed, look] at h, fun b b' l l' h => (by cases h), fun b l h => (by cases h), fun b hb => Nat.lt_of_lt_of_le (hF b hb) hb5.size⟩⟩

theorem setCell_far {W : World} {b i D : Nat} {v : Value} (h : b ≠ D) : (W.setCell ⟨b, i, none⟩ v).heap[D]? = W.heap[D]? := by
  exact Below.heap_setCell W ⟨b, i, none⟩ v D (fun e => h e.symm)

theorem put_cell {W : World} {b i D : Nat} {o : Obj} (h : b ≠ D) : (W.putObj D o).cell? ⟨b, i, none⟩ = W.cell? ⟨b, i, none⟩ := World.cell?_of_block (World.putObj_heap_other h)

set_option maxRecDepth 100000 in
set_option maxHeartbeats 2000000 in
theorem canon_closed (hK : K.Sound Tryd.prog) (T : Ty) (hf : T.fit) (hv : T.vars = []) {cw : Bool} (hw : K.call 12 [T.v] = some (.d cw (.int .i64 0), [])) {x y z : D} {x' y' z' : V} {mv : List Nat} (hr : K.eff 15 [T.v, .map 0] [.map []] = some (.agg [x', y', z'], [.map []], mv)) (px : plainD x' = some x) (py : plainD y' = some y) (pz : plainD z' = some z) : PureCall Tryd.prog K.glob 9 [T.v] (.tup [.agg [.d false x, .d false y, .d false z], .d false (.int .i64 0)]) [] := by
  intro w F vals hF hG hR
  obtain ⟨l⟩ := vals
  obtain ⟨h1, h2⟩ := hR
  match l, h1 with
  | [v], _ =>
    obtain ⟨v0, v1, v2, rfl, hrep, ho⟩ := Ty.open (h2 0 v _ rfl rfl)
    obtain ⟨k, s, a, len, cap, rfl, rfl, rfl⟩ := id ho
    have hwr := (hK.pure _ _ _ _ hw).2
    clear h2
    obtain ⟨n, hn⟩ : ∃ n : Nat, 3 ≤ n := ⟨3, Nat.le_refl _⟩
    refine (callsIn_wide (n := n)).1 (callsIn_of_wp_marks Tryd.func9 rfl trivial ?_ rfl)
    simp only [Tryd.ntmps9, List.size_toArray, List.length_cons, List.length_nil, Nat.reduceAdd, Nat.reduceSub, Array.replicate_succ, Array.replicate_zero, List.push_toArray, List.append_toArray, List.nil_append, List.cons_append]
    gi_wp2
    have hb2 : Below w.heap.size w ((w.alloc (.cells #[.int .i64 k, .string s, .slice a len cap] 24)).alloc (.cells #[.int .i64 0, .string ByteArray.empty, .slice none 0 0] 24)) := ((Below.refl _ w).alloc (Nat.le_refl _) _).alloc (by simp) _
    refine ⟨trivial, fun h => (by cases h), (callsIn_wide.2 (hwr _ F _ (fun b hb => Nat.lt_of_lt_of_le (hF b hb) hb2.size) (glob_below hF hb2 hG) ⟨rfl, fun j x y hx hy => ?_⟩)).mono ?_⟩
    · match j, hx, hy with
      | 0, hx, hy =>
        simp at hx hy
        subst hx; subst hy
        exact Ty.reps (fun j x d hx hd => (hrep j x d hx hd).mono fun y hy => ⟨hy, hb2.block y (hF y hy)⟩) ho
      | j + 1, hx, hy => simp at hx
    · rintro e' W3 ⟨v, F', σ', rfl, hb3, _, hvv, _⟩
      obtain rfl := hvv.int_inv
      have hk1 : W3.heap[w.heap.size]? = some (.cells #[.int .i64 k, .string s, .slice a len cap] 24) := by
        rw [hb3.block w.heap.size (by simp; omega)]
        exact ((Below.refl _ (w.alloc (.cells #[.int .i64 k, .string s, .slice a len cap] 24))).alloc (Nat.le_refl _) _).block w.heap.size (by simp) |>.trans (World.alloc_heap_new _ _)
      have hk2 : W3.heap[w.heap.size + 1]? = some (.cells #[.int .i64 0, .string ByteArray.empty, .slice none 0 0] 24) := by
        rw [hb3.block (w.heap.size + 1) (by simp), ← World.size_alloc w (.cells #[.int .i64 k, .string s, .slice a len cap] 24)]
        exact World.alloc_heap_new _ _
      have c10 : W3.cell? ⟨w.heap.size, 0, none⟩ = some (.int .i64 k) := by simp [World.cell?, hk1]
      have c11 : W3.cell? ⟨w.heap.size, 1, none⟩ = some (.string s) := by simp [World.cell?, hk1]
      have c12 : W3.cell? ⟨w.heap.size, 2, none⟩ = some (.slice a len cap) := by simp [World.cell?, hk1]
      have c20 : W3.cell? ⟨w.heap.size + 1, 0, none⟩ = some (.int .i64 0) := by simp [World.cell?, hk2]
      have c21 : W3.cell? ⟨w.heap.size + 1, 1, none⟩ = some (.string ByteArray.empty) := by simp [World.cell?, hk2]
      have c22 : W3.cell? ⟨w.heap.size + 1, 2, none⟩ = some (.slice none 0 0) := by simp [World.cell?, hk2]
      have hmm : ∀ (t : TypeId) (w : World), (Instr.makeMap t none).run Tryd.prog w = .ok (.map (some w.heap.size)) (w.alloc (.map #[] 0)) := fun t w => rfl
      have hs1 : w.heap.size + 2 ≤ W3.heap.size := by have := hb3.size; simpa using this
      have b35 : Below W3.heap.size W3 ((W3.alloc (.map #[] 0)).alloc (.cells #[.map (some W3.heap.size)] 48)) := ((Below.refl _ W3).alloc (Nat.le_refl _) _).alloc (by simp) _
      have e10 := (b35.cell (p := ⟨w.heap.size, 0, none⟩) (by simp; omega)).trans c10
      have e11 := (b35.cell (p := ⟨w.heap.size, 1, none⟩) (by simp; omega)).trans c11
      have e12 := (b35.cell (p := ⟨w.heap.size, 2, none⟩) (by simp; omega)).trans c12
      gi_wp2
      refine ⟨trivial, fun h => (by cases h), (vars_in (n - 1) _ _ _ _ ⟨_, _, _, _, _, rfl, rfl, rfl⟩).mono ?_⟩
      rintro e' W6 ⟨rfl, hW6⟩
      have b56 : Below ((W3.alloc (.map #[] 0)).alloc (.cells #[.map (some W3.heap.size)] 48)).heap.size ((W3.alloc (.map #[] 0)).alloc (.cells #[.map (some W3.heap.size)] 48)) W6 := by
        rw [hW6]; exact (Below.refl _ _).alloc (Nat.le_refl _) _
      have hsz6 : W6.heap.size = W3.heap.size + 3 := by rw [hW6]; simp
      have bk (i : Nat) : W6.cell? ⟨W3.heap.size + 2, i, none⟩ = (#[.int .i64 k, .string s, .slice a len cap] : Array Value)[i]? := by
        rw [hW6]
        have hq : ((W3.alloc (.map #[] 0)).alloc (.cells #[.map (some W3.heap.size)] 48)).heap.size = W3.heap.size + 2 := by simp
        rw [← hq]
        simp only [World.cell?, World.alloc_heap_new]
        match i with
        | 0 => rfl
        | 1 => rfl
        | 2 => rfl
        | i + 3 => simp
      clear hW6
      gi_wp2
      have hb06 : Below w.heap.size w W6 := (hb2.trans (hb3.mono hb2.size)).trans ((b35.mono (by omega)).trans (b56.mono (by simp; omega)))
      have hF6 : ∀ b, F b → b < W6.heap.size := fun b hb => Nat.lt_of_lt_of_le (hF b hb) hb06.size
      have hrep6 : ∀ (j : Nat) (x : Value) (d : D), #[Value.int .i64 k, Value.string s, Value.slice a len cap][j]? = some x → T.d[j]? = some d → RepD W6 F x d := fun j x d hx hd => (hrep j x d hx hd).mono fun y hy => ⟨hy, hb06.block y (hF y hy)⟩
      refine wpIn_rangeFunc_ownG rfl (Nat.le_trans (by decide) hn) (gf := 23) (lb := #[.pointer (some ⟨W3.heap.size + 2, 0, none⟩)]) rfl trivial (enters_of Tryd.func23 (by kernel_rfl) rfl)
        (vars_stops (n - 1) W6.heap.size F hF6 T W6 _ _ _ (W3.heap.size + 2) hf (Nat.le_refl _) (by omega) hrep6 (fun i v hv => (bk i).trans hv))
        belowK_t (belowK_b (Nat.le_refl _)) (Below.refl _ _) (fun _ => rfl)
        (fun pre W => pre = [] ∧ Below W6.heap.size W6 W) (fun _ _ _ => False) ?hI (fun _ _ _ _ _ hs _ _ => hs) ⟨rfl, Below.refl _ _⟩ (fun x => { tmps := #[.agg #[.int .i64 k, .string s, .slice a len cap], .pointer (some ⟨w.heap.size, 0, none⟩), .pointer (some ⟨w.heap.size + 1, 0, none⟩), .int .i64 0, .int .i64 0, .pointer (some ⟨W3.heap.size + 1, 0, none⟩), .string ⟨x.toArray⟩, undef, undef, .agg #[.int .i64 k, .string s, .slice a len cap], .int .i64 0, .int .i64 0, .bool false, undef, undef, .map (some W3.heap.size), .agg #[.int .i64 k, .string s, .slice a len cap], .func (.func 23) #[] #[.pointer (some ⟨W3.heap.size + 2, 0, none⟩)], .string ⟨x.toArray⟩, undef, undef, undef, undef, undef, undef, undef, undef, undef, undef, undef, undef, undef, undef, undef, undef, undef], defers := [] }) ?assign ?body ?done ?stop
      case hI =>
        rintro pre A B row ⟨hp, hs⟩ hg hr
        exact ⟨hp, hs.grown hg hs.size (fun k e => (hr k e).1)⟩
      case assign =>
        intro l x W K hK
        gi_wp2
        exact hK
      case body =>
        rintro l pre x W ⟨_, _⟩ hlt
        rw [hv] at hlt
        exact absurd hlt (Nat.not_lt_zero _)
      case stop =>
        rintro D c pre W _ _ h _
        exact h.elim
      case done =>
        rintro D xs W hD rfl ⟨_, hbW⟩ hDD
        have hq : ((W3.alloc (.map #[] 0)).alloc (.cells #[.map (some W3.heap.size)] 48)).heap.size = W3.heap.size + 2 := by simp
        have g10 := (hbW.cell (p := ⟨w.heap.size, 0, none⟩) (by simp; omega)).trans ((b56.cell (p := ⟨w.heap.size, 0, none⟩) (by simp; omega)).trans e10)
        have g11 := (hbW.cell (p := ⟨w.heap.size, 1, none⟩) (by simp; omega)).trans ((b56.cell (p := ⟨w.heap.size, 1, none⟩) (by simp; omega)).trans e11)
        have g12 := (hbW.cell (p := ⟨w.heap.size, 2, none⟩) (by simp; omega)).trans ((b56.cell (p := ⟨w.heap.size, 2, none⟩) (by simp; omega)).trans e12)
        have h5 : W.heap[W3.heap.size + 1]? = some (.cells #[.map (some W3.heap.size)] 48) := by
          rw [hbW.block _ (by omega), b56.block _ (by omega)]
          have : (W3.alloc (.map #[] 0)).heap.size = W3.heap.size + 1 := by simp
          rw [← this]; exact World.alloc_heap_new _ _
        have h4 : W.heap[W3.heap.size]? = some (.map #[] 0) := by
          rw [hbW.block _ (by omega), b56.block _ (by omega), ((Below.refl _ (W3.alloc (.map #[] 0))).alloc (Nat.le_refl _) _).block _ (by simp)]
          exact World.alloc_heap_new _ _
        have h2 : W.heap[w.heap.size + 1]? = some (.cells #[.int .i64 0, .string ByteArray.empty, .slice none 0 0] 24) := by
          rw [hbW.block _ (by omega), b56.block _ (by omega), b35.block _ (by omega)]
          exact hk2
        have g5 : W.cell? ⟨W3.heap.size + 1, 0, none⟩ = some (.map (some W3.heap.size)) := by simp [World.cell?, h5]
        have hwW : Below w.heap.size w W := hb06.trans (hbW.mono hb06.size)
        gi_wp2
        have hef := (hK.eff _ _ _ _ _ _ hr).2 W F (fun b => if b = 0 then some ⟨W3.heap.size, 0, 0⟩ else none) #[.agg #[.int .i64 k, .string s, .slice a len cap], .map (some W3.heap.size)] (glob_below hF hwW hG) ?H ?R
        case H =>
          refine ⟨fun b blk hb => ?_, fun b b' l l' h1 h2 _ => ?_, fun b l hb => ?_, fun b hb => Nat.lt_of_lt_of_le (hF b hb) hwW.size⟩
          · have : b = 0 ∧ blk = .map [] := by
              simp only [indexed, List.zipIdx_cons, List.zipIdx_nil, List.map_cons, List.map_nil, look] at hb
              split at hb
              · rename_i h; exact ⟨h.symm, (Option.some.inj hb).symm⟩
              · cases hb
            obtain ⟨rfl, rfl⟩ := this
            exact .inr (.inl ⟨_, #[], 0, [], rfl, rfl, .inl ⟨h4, rfl, rfl⟩, rfl, trivial, rfl, fun i e p he hp => by simp at hp⟩)
          · split at h1
            · split at h2
              · omega
              · cases h2
            · cases h1
          · split at hb
            · rename_i h0
              subst h0
              obtain rfl := Option.some.inj hb
              exact ⟨Nat.zero_lt_one, fun hf => by have h := hF W3.heap.size hf; omega, .inr ⟨_, rfl, rfl⟩, by have := hbW.size; show W3.heap.size < W.heap.size; omega⟩
            · cases hb
        case R =>
          refine ⟨rfl, fun j x y hx hy => ?_⟩
          match j, hx, hy with
          | 0, hx, hy =>
            simp at hx hy
            subst hx; subst hy
            exact Ty.reps (fun j x d hx hd => (hrep j x d hx hd).mono fun y hy => ⟨hy, hwW.block y (hF y hy)⟩) ho
          | 1, hx, hy =>
            simp at hx hy
            subst hx; subst hy
            exact RepV.map 0 ⟨W3.heap.size, 0, 0⟩ (if_pos rfl)
          | j + 2, hx, hy => simp at hx
        refine ⟨trivial, fun h => (by cases h), (callsIn_wide.2 hef).mono ?_⟩
        rintro e' W7 ⟨v, F', σ', rfl, hfr, _, hFo, hvv, hhr, _⟩
        have hbw7 : Below w.heap.size w W7 := hwW.trans ⟨hfr.os, hfr.tape, hfr.output, hfr.size, fun b hb => hfr.block b (by have := hwW.size; omega) (fun j ⟨l, hl, hlb⟩ => by
          simp only at hl
          split at hl
          · obtain rfl := Option.some.inj hl
            simp only at hlb
            omega
          · cases hl)⟩
        have h7 : W7.heap[w.heap.size + 1]? = some (.cells #[.int .i64 0, .string ByteArray.empty, .slice none 0 0] 24) := by
          rw [hfr.block _ (by have := hbW.size; omega) (fun j ⟨l, hl, hlb⟩ => by
            simp only at hl
            split at hl
            · obtain rfl := Option.some.inj hl
              simp only at hlb
              omega
            · cases hl)]
          exact h2
        have c20 : W7.cell? ⟨w.heap.size + 1, 0, none⟩ = some (.int .i64 0) := by simp [World.cell?, h7]
        have c21 : W7.cell? ⟨w.heap.size + 1, 1, none⟩ = some (.string ByteArray.empty) := by simp [World.cell?, h7]
        have c22 : W7.cell? ⟨w.heap.size + 1, 2, none⟩ = some (.slice none 0 0) := by simp [World.cell?, h7]
        have f20 : W7.frozen? ⟨w.heap.size + 1, 0, none⟩ = false := by simp [World.frozen?, h7]
        have f21 : W7.frozen? ⟨w.heap.size + 1, 1, none⟩ = false := by simp [World.frozen?, h7]
        have f22 : W7.frozen? ⟨w.heap.size + 1, 2, none⟩ = false := by simp [World.frozen?, h7]
        have hd7 : W7.heap[D]? = some (.deferred (some [])) := by
          rw [hfr.block D (by have := (Array.getElem?_eq_some_iff.1 hDD).1; omega) (fun j ⟨l, hl, hlb⟩ => by
            simp only at hl
            split at hl
            · obtain rfl := Option.some.inj hl
              simp only at hlb
              omega
            · cases hl)]
          exact hDD
        cases hvv with
        | agg cs _ b1 a2 a3 =>
          obtain ⟨lc⟩ := cs
          match lc, b1 with
          | [q0, q1, q2], _ =>
            have s0 : ∀ (ad : Addr) (w : World), (store ad q0).run Tryd.prog w = stored Tryd.prog w ad q0 .plain := fun ad w => run_store Tryd.prog w ad q0 _ (a3 q0 (by simp))
            have s1 : ∀ (ad : Addr) (w : World), (store ad q1).run Tryd.prog w = stored Tryd.prog w ad q1 .plain := fun ad w => run_store Tryd.prog w ad q1 _ (a3 q1 (by simp))
            have s2 : ∀ (ad : Addr) (w : World), (store ad q2).run Tryd.prog w = stored Tryd.prog w ad q2 .plain := fun ad w => run_store Tryd.prog w ad q2 _ (a3 q2 (by simp))
            gi_wp2
            have hd8 : (((W7.setCell ⟨w.heap.size + 1, 0, none⟩ q0).setCell ⟨w.heap.size + 1, 1, none⟩ q1).setCell ⟨w.heap.size + 1, 2, none⟩ q2).heap[D]? = some (.deferred (some [])) := by
              have hne : w.heap.size + 1 ≠ D := by omega
              rw [setCell_far hne, setCell_far hne, setCell_far hne]
              exact hd7
            refine ⟨by simp, .inl ⟨_, _, rfl, run_takeDeferred hd8, ?_⟩⟩
            have hb8 := ((hbw7.setCell (p := ⟨w.heap.size + 1, 0, none⟩) (by simp) q0).setCell (p := ⟨w.heap.size + 1, 1, none⟩) (by simp) q1).setCell (p := ⟨w.heap.size + 1, 2, none⟩) (by simp) q2
            have hb9 := hb8.grown (grownBy_putObj' _ D (.deferred none)) hb8.size (fun k e => by cases e; omega)
            obtain ⟨d0, d1, d2⟩ := cell_three (x' := q0) (y' := q1) (z' := q2) c20 c21 c22 rfl
            refine ⟨_, canon_ret (b := w.heap.size + 1) (x := q0) (y := q1) (z := q2) rfl rfl ?_ ?_ ?_, _, F', fun _ => none, rfl, ?_, fun b hb => (hFo b hb).imp id (fun h => Nat.le_trans hwW.size h), .tup _ _ rfl (fun j x y hx hy => ?_), ⟨fun b blk h => by simp [indexed, look] at h, fun b b' l l' h => (by cases h), fun b l h => (by cases h), fun b hb => Nat.lt_of_lt_of_le (hhr.fro b hb) ?_⟩⟩
            · exact (put_cell (by omega)).trans d0
            · exact (put_cell (by omega)).trans d1
            · exact (put_cell (by omega)).trans d2
            · exact hb9
            · match j, hx, hy with
              | 0, hx, hy =>
                simp at hx hy
                subst hx; subst hy
                have hfar : ∀ b, F' b → b ≠ w.heap.size + 1 ∧ b ≠ D := fun b hb => by
                  have hDW := (Array.getElem?_eq_some_iff.1 hDD).1
                  have := hbW.size
                  rcases hFo b hb with h | h
                  · have := hF b h; omega
                  · omega
                have hkeep : ∀ b, F' b → F' b ∧ ((((W7.setCell ⟨w.heap.size + 1, 0, none⟩ q0).setCell ⟨w.heap.size + 1, 1, none⟩ q1).setCell ⟨w.heap.size + 1, 2, none⟩ q2).putObj D (.deferred none)).heap[b]? = W7.heap[b]? := fun b hb => by
                  obtain ⟨n1, n2⟩ := hfar b hb
                  refine ⟨hb, ?_⟩
                  rw [World.putObj_heap_other n2, setCell_far (Ne.symm n1), setCell_far (Ne.symm n1), setCell_far (Ne.symm n1)]
                have hone : ∀ {q : Value} {v : V} {d : Vm.D}, RepV W7 F' W.heap.size σ' q v → plainD v = some d → RepV ((((W7.setCell ⟨w.heap.size + 1, 0, none⟩ q0).setCell ⟨w.heap.size + 1, 1, none⟩ q1).setCell ⟨w.heap.size + 1, 2, none⟩ q2).putObj D (.deferred none)) F' w.heap.size (fun _ => none) q (.d false d) := fun {q v d} h hp => .d _ _ _ ((plainD_rep h hp).mono fun b hb => hkeep b hb)
                refine .agg _ _ rfl (fun j x y hx hy => ?_) a3
                match j, hx, hy with
                | 0, hx, hy => simp at hx hy; subst hx; subst hy; exact hone (a2 0 _ _ rfl rfl) px
                | 1, hx, hy => simp at hx hy; subst hx; subst hy; exact hone (a2 1 _ _ rfl rfl) py
                | 2, hx, hy => simp at hx hy; subst hx; subst hy; exact hone (a2 2 _ _ rfl rfl) pz
                | j + 3, hx, hy => simp at hx
              | 1, hx, hy => simp at hx hy; subst hx; subst hy; exact .int
              | j + 2, hx, hy => simp at hx
            · have h70 := (((Below.refl 0 W7).setCell (p := ⟨w.heap.size + 1, 0, none⟩) (Nat.zero_le _) q0).setCell (p := ⟨w.heap.size + 1, 1, none⟩) (Nat.zero_le _) q1).setCell (p := ⟨w.heap.size + 1, 2, none⟩) (Nat.zero_le _) q2
              exact (h70.grown (grownBy_putObj' _ D (.deferred none)) (Nat.zero_le _) (fun k e => Nat.zero_le _)).size

end Go.Vm
end

section
namespace Go.Proofs
open Go.Shelf
def Tryd.lays170_ren : Go.Shelf.Ren := ⟨fun | 170 => 30 | n => n, fun | 70 => 65 | 3 => 3 | 0 => 0 | 72 => 68 | 37 => 66 | 5 => 5 | n => n, fun | n => n⟩
theorem Tryd.lays170 : Go.Proofs.Lays.n170 Tryd.prog Tryd.lays170_ren := {
  mixed := by kernel_rfl
  f170 := Tryd.func30.trans (congrArg some (by kernel_rfl))
  t0 := Tryd.underlying0
  a0 := Tryd.isAgg0
  z0 := Tryd.sizeOf0
  v0 := Tryd.zeroValue0
  t3 := Tryd.underlying3
  a3 := Tryd.isAgg3
  z3 := Tryd.sizeOf3
  v3 := Tryd.zeroValue3
  t37 := Tryd.underlying66
  a37 := Tryd.isAgg66
  z37 := Tryd.sizeOf66
  v37 := Tryd.zeroValue66
  t70 := Tryd.underlying65
  a70 := Tryd.isAgg65
  z70 := Tryd.sizeOf65
  v70 := Tryd.zeroValue65
  t72 := Tryd.underlying68
  a72 := Tryd.isAgg68
  z72 := Tryd.sizeOf68
  v72 := Tryd.zeroValue68 }
def Tryd.lays169_ren : Go.Shelf.Ren := ⟨fun | 169 => 31 | n => n, fun | 70 => 65 | 9 => 9 | 0 => 0 | 72 => 68 | 37 => 66 | 127 => 81 | 3 => 3 | 5 => 5 | n => n, fun | n => n⟩
theorem Tryd.lays169 : Go.Proofs.Lays.n169 Tryd.prog Tryd.lays169_ren := {
  mixed := by kernel_rfl
  f169 := Tryd.func31.trans (congrArg some (by kernel_rfl))
  t0 := Tryd.underlying0
  a0 := Tryd.isAgg0
  z0 := Tryd.sizeOf0
  v0 := Tryd.zeroValue0
  t3 := Tryd.underlying3
  a3 := Tryd.isAgg3
  z3 := Tryd.sizeOf3
  v3 := Tryd.zeroValue3
  t9 := Tryd.underlying9
  a9 := Tryd.isAgg9
  z9 := Tryd.sizeOf9
  v9 := Tryd.zeroValue9
  t37 := Tryd.underlying66
  a37 := Tryd.isAgg66
  z37 := Tryd.sizeOf66
  v37 := Tryd.zeroValue66
  t70 := Tryd.underlying65
  a70 := Tryd.isAgg65
  z70 := Tryd.sizeOf65
  v70 := Tryd.zeroValue65
  t72 := Tryd.underlying68
  a72 := Tryd.isAgg68
  z72 := Tryd.sizeOf68
  v72 := Tryd.zeroValue68
  t127 := Tryd.underlying81
  a127 := Tryd.isAgg81
  z127 := Tryd.sizeOf81
  v127 := Tryd.zeroValue81 }
theorem Tryd.Builder_Extra_169 : Builder.Extra Tryd.prog Tryd.lays169_ren := {
  sizeBuilder := by kernel_rfl
  liesBuilder := by kernel_rfl
  t5 := Tryd.underlying5
  a5 := Tryd.isAgg5
  z5 := Tryd.sizeOf5
  v5 := Tryd.zeroValue5
  infoByte := by kernel_rfl
  cellsByte := by kernel_rfl
  sizeByte := by kernel_rfl
  neB5 := by decide }
def Tryd.lays146_ren : Go.Shelf.Ren := ⟨fun | 146 => 44 | 221 => 49 | 268 => 55 | 138 => 56 | 143 => 57 | 195 => 63 | 197 => 64 | 218 => 65 | 219 => 66 | 260 => 69 | 217 => 70 | 225 => 71 | 224 => 72 | 267 => 73 | 266 => 74 | 314 => 75 | n => n, fun | 9 => 9 | 31 => 84 | 3 => 3 | 4 => 4 | 0 => 0 | 105 => 107 | 21 => 21 | 5 => 5 | 46 => 104 | 119 => 113 | 139 => 116 | 138 => 115 | 146 => 117 | 51 => 101 | n => n, fun | 1 => 1 | 3 => 4 | 4 => 5 | n => n⟩
theorem Tryd.lays146 : Go.Proofs.Lays.n146 Tryd.prog Tryd.lays146_ren := {
  mixed := by kernel_rfl
  f138 := Tryd.func56.trans (congrArg some (by kernel_rfl))
  f143 := Tryd.func57.trans (congrArg some (by kernel_rfl))
  f146 := Tryd.func44.trans (congrArg some (by kernel_rfl))
  f195 := Tryd.func63.trans (congrArg some (by kernel_rfl))
  f197 := Tryd.func64.trans (congrArg some (by kernel_rfl))
  f217 := Tryd.func70.trans (congrArg some (by kernel_rfl))
  f218 := Tryd.func65.trans (congrArg some (by kernel_rfl))
  f219 := Tryd.func66.trans (congrArg some (by kernel_rfl))
  f221 := Tryd.func49.trans (congrArg some (by kernel_rfl))
  f224 := Tryd.func72.trans (congrArg some (by kernel_rfl))
  f225 := Tryd.func71.trans (congrArg some (by kernel_rfl))
  f260 := Tryd.func69.trans (congrArg some (by kernel_rfl))
  f266 := Tryd.func74.trans (congrArg some (by kernel_rfl))
  f267 := Tryd.func73.trans (congrArg some (by kernel_rfl))
  f268 := Tryd.func55.trans (congrArg some (by kernel_rfl))
  f314 := Tryd.func75.trans (congrArg some (by kernel_rfl))
  t0 := Tryd.underlying0
  a0 := Tryd.isAgg0
  z0 := Tryd.sizeOf0
  v0 := Tryd.zeroValue0
  t3 := Tryd.underlying3
  a3 := Tryd.isAgg3
  z3 := Tryd.sizeOf3
  v3 := Tryd.zeroValue3
  t4 := Tryd.underlying4
  a4 := Tryd.isAgg4
  z4 := Tryd.sizeOf4
  v4 := Tryd.zeroValue4
  t5 := Tryd.underlying5
  a5 := Tryd.isAgg5
  z5 := Tryd.sizeOf5
  v5 := Tryd.zeroValue5
  t9 := Tryd.underlying9
  a9 := Tryd.isAgg9
  z9 := Tryd.sizeOf9
  v9 := Tryd.zeroValue9
  t21 := Tryd.underlying21
  a21 := Tryd.isAgg21
  z21 := Tryd.sizeOf21
  v21 := Tryd.zeroValue21
  t31 := Tryd.underlying84
  a31 := Tryd.isAgg84
  z31 := Tryd.sizeOf84
  v31 := Tryd.zeroValue84
  t46 := Tryd.underlying104
  a46 := Tryd.isAgg104
  z46 := Tryd.sizeOf104
  v46 := Tryd.zeroValue104
  t51 := Tryd.underlying101
  a51 := Tryd.isAgg101
  z51 := Tryd.sizeOf101
  v51 := Tryd.zeroValue101
  t105 := Tryd.underlying107
  a105 := Tryd.isAgg107
  z105 := Tryd.sizeOf107
  v105 := Tryd.zeroValue107
  t119 := Tryd.underlying113
  a119 := Tryd.isAgg113
  z119 := Tryd.sizeOf113
  t138 := Tryd.underlying115
  a138 := Tryd.isAgg115
  z138 := Tryd.sizeOf115
  v138 := Tryd.zeroValue115
  t139 := Tryd.underlying116
  a139 := Tryd.isAgg116
  z139 := Tryd.sizeOf116
  v139 := Tryd.zeroValue116
  t146 := Tryd.underlying117
  a146 := Tryd.isAgg117
  z146 := Tryd.sizeOf117
  v146 := Tryd.zeroValue117
  g1 := by kernel_rfl
  g3 := by kernel_rfl
  g4 := by kernel_rfl }
end Go.Proofs
end
