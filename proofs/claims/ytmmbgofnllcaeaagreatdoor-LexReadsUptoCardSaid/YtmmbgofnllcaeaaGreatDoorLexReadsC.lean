/-
  Parts of the proof: A block that only one cell leads to, becomes data (frzS of VmJ). Code that passed the check does what the machine says. Functions: what they return. Loops and jumps, by their rounds. What a row hands in reads as plain data. The arguments of a row, as values of the machine. The machine's equations, in a form in which simp works from the inside out and stops where a test is open. Typed data in the machine: lists of structures as rows of cells. Maps, in equations for simp. Jumps, in equations. One name for the machine's equations. One name for more of the simp set. Package strings' Builder: its methods, with all that they leave alone. Package strings' Builder: WriteByte, WriteString, Len, String. Package strings' Builder: String. What the machine knows of a Builder's methods. What is known of functions over package-level tables, put together of what each one answers. lex: classes of bytes, runs, names. lex: reserved words, dashes, comments, bytes, digits. lex: Trim, dashes, comments. DERIVED: THE SHELF's CONTRACTS AT THIS DUMP, IN PLAIN WORDS (tools/lay-plain.mjs out of 'TryzShelf.lean', which tools/lay-shelf.mjs wrote): THE SAME DECLARATIONS UNDER THE SAME NAMES: 'import', 'namespace', 'open', 'def', 'theorem' AND NOTHING ELSE: no command of the shelf's: FOR A HAND-IN. Each laying: the table of numbers ('.._ren') and one theorem, a field a fact of the dump's own or the kernel's comparison; each contract: ONE APPLICATION. Package strings' Builder at this program: copyCheck, WriteByte, WriteString. lex in plain words: tokens at the front of a text, texts. Conditions: none.
-/
import Derived.Test.YtmmbgofnllcaeaaGreatDoorLexReadsB
import Derived.Scope
import Derived.Laws.Sem
import Derived.Deep.Slices
import Derived.DataReads
import Derived.Shelf.Strings.BuilderK
import Derived.Test.YtmmbgofnllcaeaaGreatDoorChecked
import Derived.Shelf.Strings.Builder1
import Derived.Shelf.Small.Strs
import Derived.Shelf.LaysM
import Derived.Shelf.Strconv.Itoa3
import Derived.Test.YtmmbgofnllcaeaaGreatDoorProg
set_option linter.unusedVariables false
set_option linter.unusedSimpArgs false

section
namespace Go.Vm
open Go.RowKit

variable {P : Program} {K : Cx} {ops : Array Oper} {n : Nat} {X : Nat → Nat → Prop} {base : Nat} {w0 : World} {F0 : Nat → Prop} {m0 : Nat} {σ0 : Nat → Option Loc}

theorem frz_val {w : World} {F : Nat → Prop} {σ σ' : Nat → Option Loc} {nx : Nat} {H : List (Nat × Blk)} (hH : HeapRel w F X base σ nx H) {b n k : Nat} {c : Bool} {rows : List (List D)} {l : Loc} (hb : look H b = some (.dat c k rows)) (hl : σ b = some l) (hn : n = rows.length) (h0 : 0 < n) (hbase : base ≤ l.blk) {v : Value} (hv : RepV w F base σ v (.bsl b 0 n)) :
    RepV w (fun x => F x ∨ x = l.blk) base σ' v (.d c (.sl k rows)) := by
  have hin : col (fun x => F x ∨ x = l.blk) base c l.blk := by
    cases c
    · exact .inr rfl
    · exact ⟨.inr rfl, hbase⟩
  refine .d _ _ _ ?_
  cases hv with
  | bsl0 => omega
  | bsl _ _ _ cap l' hl' h1 h2 =>
    obtain rfl : l = l' := by rw [hl] at hl'; exact Option.some.inj hl'
    have cells : ∀ i r, rows[i]? = some r → l.k = k ∧ r.length = k ∧ ∀ (j : Nat) (d : D), r[j]? = some d → ∃ u, w.cell? ⟨l.blk, i * l.k + j, none⟩ = some u ∧ RepV w F base σ u (mkd c d) := by
      intro i r hr
      obtain ⟨e1, e2, e3⟩ := row_cells hH hb hl (i := i) (row := r.map (mkd c)) (by simp [Blk.row?, hr])
      simp only [Blk.k] at e1
      refine ⟨e1, by simpa [e1] using e2, fun j d hd => ?_⟩
      obtain ⟨u, hu, _, hR⟩ := e3 j (mkd c d) (by simp [hd])
      exact ⟨u, hu, hR⟩
    refine .sl _ _ _ _ k _ (fun i j => (w.cell? ⟨l.blk, i * l.k + j, none⟩).getD undef) hn.symm h1 hin (fun r hr => ?_) (fun i j r d hr hd => ?_) (fun i j r d hr hd => ?_)
    · obtain ⟨i, hi⟩ := List.getElem?_of_mem hr
      exact (cells i r hi).2.1
    · obtain ⟨e1, _, e3⟩ := cells i r hr
      obtain ⟨u, hu, _⟩ := e3 j d hd
      rw [hu, ← e1]
      simp only [Option.getD_some]
      rw [← hu]
      congr 2
      omega
    · obtain ⟨e1, _, e3⟩ := cells i r hr
      obtain ⟨u, hu, hR⟩ := e3 j d hd
      rw [hu]
      simp only [Option.getD_some]
      unfold mkd at hR
      split at hR
      · rename_i hf
        cases hR with
        | d _ _ _ h => exact h.flat hf
      · cases hR with
        | d _ _ _ h => exact h.mono fun a ha => ⟨by
            cases c
            · exact .inl ha
            · exact ⟨.inl ha.1, ha.2⟩, rfl⟩

theorem StRel.freeze {s : S} {a : Act} {w : World} {F : Nat → Prop} {σ : Nat → Option Loc} (t j : Nat) (h : StRel K X base w0 F0 m0 σ0 n s a w F σ) : ∃ F' σ', StRel K X base w0 F0 m0 σ0 n (frzS m0 t j s) a w F' σ' := by
  unfold frzS
  split
  case h_2 => exact ⟨F, σ, h⟩
  rename_i b hb
  split
  case h_2 => exact ⟨F, σ, h⟩
  rename_i k row hrow
  split
  case h_2 => exact ⟨F, σ, h⟩
  rename_i b' nn hj
  split
  case h_2 => exact ⟨F, σ, h⟩
  rename_i c k' rows hb'
  split
  case isFalse => exact ⟨F, σ, h⟩
  rename_i hc
  obtain ⟨hn, h0, hm, hne⟩ := hc
  have hl : ∃ l, σ b' = some l := by
    rcases h.heap.blk b' _ hb' with ⟨hz, _⟩ | ⟨l, _, _, _, _, hl, _⟩ | ⟨l, _, _, hl, _⟩
    · simp [Blk.n] at hz; rw [hz] at hn; simp at hn; omega
    · exact ⟨l, hl⟩
    · exact ⟨l, hl⟩
  obtain ⟨l, hl⟩ := hl
  obtain ⟨o1, o2, o3, o4⟩ := h.heap.own b' l hl
  have hbase : base ≤ l.blk := by
    rcases o3 with o3 | o3
    · exact o3
    · have := h.xm _ _ o3; omega
  have hF : ∀ x, F x → (F x ∨ x = l.blk) ∧ w.heap[x]? = w.heap[x]? := fun x hx => ⟨.inl hx, rfl⟩
  let σ' : Nat → Option Loc := fun i => if i = b' then none else σ i
  have hσ : ∀ i l, σ i = some l → (i == b') = false → σ' i = some l := fun i l hi hp => by
    show (if i = b' then none else σ i) = _
    rw [if_neg (by simpa using hp)]; exact hi
  have hσ' : ∀ i l0, σ' i = some l0 → i ≠ b' ∧ σ i = some l0 := fun i l0 hi => by
    change (if i = b' then none else σ i) = _ at hi
    split at hi
    · cases hi
    · exact ⟨‹_›, hi⟩
  have hσn : ∀ i, i ≠ b' → σ' i = σ i := fun i hi => by
    show (if i = b' then none else σ i) = _
    rw [if_neg hi]
  refine ⟨fun x => F x ∨ x = l.blk, σ', ⟨fun i blk hi => ?_, fun i i' l1 l2 h1 h2 he => ?_, fun i l1 h1 => ?_, fun x hx => ?_⟩, h.glob.mono hF, h.le, h.frame, fun x hx => ?_, h.size, h.dfr, fun u v hv => ?_, fun i blk hi => ?_, fun i l1 h1 h2 h3 => ?_, h.nxm, h.xm, fun x hx => .inl (h.sub x hx)⟩
  · rw [look_put] at hi
    split at hi
    · rename_i he
      subst he
      obtain rfl := Option.some.inj hi
      rcases h.heap.blk b _ hrow with ⟨hz, _⟩ | ⟨_, _, _, _, hmap, _⟩ | ⟨lb, cs, T, q1, q2, q3, q4, q5, q6, q7⟩
      · simp [Blk.n] at hz
      · cases hmap
      · refine .inr (.inr ⟨lb, cs, T, by rw [hσn b (fun e => hne e.symm)]; exact q1, q2, q3, q4, q5, fun i r hr => ?_, rfl⟩)
        cases i with
        | succ i => simp [Blk.row?] at hr
        | zero =>
          simp only [Blk.row?, List.getElem?_cons_zero, Option.some.injEq] at hr
          subst hr
          obtain ⟨g1, g2⟩ := q6 0 row rfl
          refine ⟨by simpa [Blk.k] using g1, fun jj x hx => ?_⟩
          by_cases hjj : j = jj
          · subst hjj
            have hlt : j < row.length := (List.getElem?_eq_some_iff.1 hj).1
            rw [List.getElem?_set_self (by simpa using hlt)] at hx
            obtain rfl := Option.some.inj hx
            obtain ⟨v, g3, g4, g5⟩ := g2 j _ hj
            exact ⟨v, g3, g4, frz_val h.heap hb' hl hn h0 hbase g5⟩
          · rw [List.getElem?_set_ne hjj, List.getElem?_map, Option.map_eq_some_iff] at hx
            obtain ⟨y, hy, rfl⟩ := hx
            obtain ⟨v, g3, g4, g5⟩ := g2 jj y hy
            exact ⟨v, g3, g4, g5.drop1 hF hσ⟩
    · rw [look_put] at hi
      split at hi
      · rename_i he
        subst he
        obtain rfl := Option.some.inj hi
        exact .inl ⟨rfl, if_pos rfl⟩
      · rename_i he
        simp only [forgetH, look_mapB, Option.map_eq_some_iff] at hi
        obtain ⟨blk0, hi, rfl⟩ := hi
        have hib : i ≠ b' := fun e => he e.symm
        exact (h.heap.blk i blk0 hi).forget (· == b') hF hσ (fun l hl => by rw [hσn i hib]; exact hl) (fun hl => by rw [hσn i hib]; exact hl) (fun _ _ => rfl)
  · exact h.heap.inj i i' l1 l2 (hσ' i l1 h1).2 (hσ' i' l2 h2).2 he
  · obtain ⟨hi, h1⟩ := hσ' i l1 h1
    obtain ⟨p1, p2, p3, p4⟩ := h.heap.own i l1 h1
    refine ⟨p1, fun hx => ?_, p3, p4⟩
    rcases hx with hx | hx
    · exact p2 hx
    · exact hi (h.heap.inj i b' l1 l h1 hl hx)
  · rcases hx with hx | hx
    · exact h.heap.fro x hx
    · rw [hx]; exact o4
  · rcases hx with hx | hx
    · exact h.frz x hx
    · rw [hx]; exact .inr hbase
  · simp only [forgetR] at hv
    rw [look_mapV, Option.map_eq_some_iff] at hv
    obtain ⟨v0, h1, rfl⟩ := hv
    exact (h.rho u v0 h1).forget hF hσ
  · rw [look_put] at hi
    split at hi
    · rename_i he; subst he; exact h.dom _ _ hrow
    · rw [look_put] at hi
      split at hi
      · rename_i he; subst he; exact h.dom _ _ hb'
      · simp only [forgetH, look_mapB, Option.map_eq_some_iff] at hi
        obtain ⟨blk0, hi, rfl⟩ := hi
        exact h.dom i blk0 hi
  · rw [hσn i (by omega)]
    exact h.stab i l1 h1 h2 h3

end Go.Vm
end

section
namespace Go.Vm
open Go.RowKit

variable {P : Program} {K : Cx} {n : Nat} {X : Nat → Nat → Prop} {base : Nat} {w0 : World} {F0 : Nat → Prop} {m0 : Nat} {σ0 : Nat → Option Loc} {Q : Exit → Act → World → Prop}

def one : List Seg → Option Seg
  | [g] => some g
  | _ => none

def chk (P : Program) (m n : Nat) : C → Code → Bool
  | .stuck, _ => true
  | .skip, .skip => true
  | .reg l, .region _ ops draw => if draw then drawnOk P ops n l else textOk P ops n 0 l
  | .seq (.tidy m' _) b, c => m' == m && chk P m n b c
  | .seq (.own t _) b, c => decide (t < n) && chk P m n b c
  | .seq (.frz m' _ _) b, c => (m' == m) && chk P m n b c
  | .seq a b, .seq x y => chk P m n a x && chk P m n b y
  | .cond e a b, .cond c x y => decide (operE P [] 0 c = some e) && chk P m n a x && chk P m n b y
  | .block id c, .block id' x => id == id' && chk P m n c x
  | .loop c, .loop x => chk P m n c x
  | .exit id, .exit id' => id == id'
  | .scope c ls, .scope x => chk P m n c x && chk P m n ls x
  | .lnil, _ => true
  | .lcons l c ls, x => (match findLabel x l with | some rest => chk P m n c rest | none => false) && chk P m n ls x
  | .label l, .label l' => l == l'
  | .goto l, .goto l' => l == l'
  | .ret, .ret => true
  | _, _ => false

def Ex.to : Ex → Exit
  | .nrm => .normal
  | .exit id => .exit id
  | .goto l => .goto l
  | .ret => .ret

def Post (K : Cx) (X : Nat → Nat → Prop) (base : Nat) (w0 : World) (F0 : Nat → Prop) (m0 : Nat) (σ0 : Nat → Option Loc) (n : Nat) (r : Ex × S) (e : Exit) (a : Act) (w : World) : Prop :=
  e = r.1.to ∧ ∃ F σ, StRel K X base w0 F0 m0 σ0 n r.2 a w F σ

theorem look_tidy (H : List (Nat × Blk)) (bs0 : List Nat) : ∀ (bs : List Nat) (k i : Nat) (x : Blk), look ((bs.zipIdx k).filterMap fun p => (look H p.1).map fun blk => (p.2, blk.ren bs0.idxOf)) i = some x → k ≤ i ∧ ∃ b x0, bs[i - k]? = some b ∧ look H b = some x0 ∧ x = x0.ren bs0.idxOf
  | [], k, i, x, h => by simp [look] at h
  | b :: bs, k, i, x, h => by
    simp only [List.zipIdx_cons, List.filterMap_cons] at h
    have rest : look ((bs.zipIdx (k + 1)).filterMap fun p => (look H p.1).map fun blk => (p.2, blk.ren bs0.idxOf)) i = some x → k ≤ i ∧ ∃ b' x0, (b :: bs)[i - k]? = some b' ∧ look H b' = some x0 ∧ x = x0.ren bs0.idxOf := by
      intro h
      obtain ⟨h1, b', x0, h2, h3, h4⟩ := look_tidy H bs0 bs (k + 1) i x h
      refine ⟨by omega, b', x0, ?_, h3, h4⟩
      have : i - k = (i - (k + 1)) + 1 := by omega
      rw [this, List.getElem?_cons_succ]
      exact h2
    cases hb : look H b with
    | none =>
      simp only [hb, Option.map_none] at h
      exact rest h
    | some x0 =>
      simp only [hb, Option.map_some, look] at h
      split at h
      · rename_i he
        subst he
        exact ⟨Nat.le_refl _, b, x0, by simp, hb, (Option.some.inj h).symm⟩
      · exact rest h

theorem StRel.tidy {s s' : S} {a : Act} {w : World} {F : Nat → Prop} {σ : Nat → Option Loc} {slots : List Nat} (ht : tidyS m0 slots s = some s') (h : StRel K X base w0 F0 m0 σ0 n s a w F σ) : ∃ σ', StRel K X base w0 F0 m0 σ0 n s' a w F σ' := by
  unfold tidyS at ht
  simp only at ht
  split at ht
  case isFalse => cases ht
  rename_i hc
  obtain rfl := Option.some.inj ht
  generalize hbs : reachB s.heap 64 [] (List.range m0 ++ refsL ((restrict s.rho slots).map (·.2))) = bs at hc
  simp only [Bool.and_eq_true, decide_eq_true_eq, List.all_eq_true] at hc
  obtain ⟨⟨⟨hnd, hpre⟩, hwi⟩, hcl⟩ := hc
  simp only [closedB, List.all_eq_true] at hcl
  have hF : ∀ b, F b → F b ∧ w.heap[b]? = w.heap[b]? := fun b hb => ⟨hb, rfl⟩
  have hσ : ∀ b l, bs.contains b = true → σ b = some l → inn bs σ (bs.idxOf b) = some l := fun b l h1 h2 => by rw [inn_idx (by simpa using h1)]; exact h2
  refine ⟨inn bs σ, ⟨fun i x hx => ?_, fun i j l l' h1 h2 he => ?_, fun i l hi => ?_, h.heap.fro⟩, h.glob, h.le, h.frame, h.frz, h.size, h.dfr, fun t v hv => ?_, fun i x hx => ?_, fun b l hb h0 hm => ?_, ?_, h.xm, h.sub⟩
  · obtain ⟨_, b, x0, h1, h2, rfl⟩ := look_tidy s.heap bs bs 0 i x hx
    rw [Nat.sub_zero] at h1
    have hσi : inn bs σ i = σ b := by unfold inn; rw [h1]
    have hb := hcl b (List.mem_of_getElem? h1)
    rw [h2] at hb
    exact (h.heap.blk b x0 h2).ren (w' := w) (F' := F) (p := bs.contains) hF (fun _ _ h => h) hσ hb (fun l hl => by rw [hσi]; exact hl) (fun hl => by rw [hσi]; exact hl) (fun _ _ => rfl)
  · obtain ⟨b, hb1, h3⟩ := inn_some h1
    obtain ⟨b', hb2, h4⟩ := inn_some h2
    obtain rfl := h.heap.inj b b' l l' h3 h4 he
    exact (List.getElem?_inj (List.getElem?_eq_some_iff.1 hb1).1 hnd).1 (hb1.trans hb2.symm)
  · obtain ⟨b, hb1, h3⟩ := inn_some hi
    obtain ⟨_, o2, o3, o4⟩ := h.heap.own b l h3
    refine ⟨(List.getElem?_eq_some_iff.1 hb1).1, o2, o3.imp id (fun hx => ?_), o4⟩
    have hbm := h.xm b _ hx
    have : bs[b]? = some b := by
      have : (bs.take m0)[b]? = some b := by rw [hpre]; simp [hbm]
      simpa [List.getElem?_take, hbm] using this
    have := (List.getElem?_inj (List.getElem?_eq_some_iff.1 hb1).1 hnd).1 (hb1.trans this.symm)
    rw [this]
    exact hx
  · simp only at hv
    rw [show ((restrict s.rho slots).map fun p => (p.1, p.2.ren bs.idxOf)) = (restrict s.rho slots).map fun (t, v) => (t, (V.ren bs.idxOf) v) from rfl, look_mapV] at hv
    simp only [Option.map_eq_some_iff] at hv
    obtain ⟨v0, h1, rfl⟩ := hv
    have hm := look_mem _ _ _ h1
    exact ((h.rho t v0 (look_restrict _ _ _ _ h1).2).ren (base' := base) (fun _ _ h => h) hσ (hwi _ hm))
  · obtain ⟨_, b, x0, h1, _⟩ := look_tidy s.heap bs bs 0 i x hx
    rw [Nat.sub_zero] at h1
    exact (List.getElem?_eq_some_iff.1 h1).1
  · have hb2 : bs[b]? = some b := by
      have : (bs.take m0)[b]? = some b := by rw [hpre]; simp [hb]
      simpa [List.getElem?_take, hb] using this
    unfold inn
    rw [hb2]
    refine h.stab b l hb h0 fun hm' => hm ?_
    simp only [List.mem_filter, List.mem_range]
    exact ⟨hb, by simpa using hm'⟩
  · have := congrArg List.length hpre
    simp only [List.length_take, List.length_range] at this
    show m0 ≤ bs.length
    omega

theorem StRel.own {s : S} {a : Act} {w : World} {F : Nat → Prop} {σ : Nat → Option Loc} {t k k' : Nat} {c : Bool} (hl : look s.rho t = some (.fs c k' [])) (h : StRel K X base w0 F0 m0 σ0 n s a w F σ) :
    StRel K X base w0 F0 m0 σ0 n ⟨put s.rho t (.bsl s.nx 0 0), (s.nx, .dat true k []) :: s.heap, s.nx + 1, s.mv⟩ a w F σ := by
  have hnone : σ s.nx = none := by
    cases hs : σ s.nx with
    | none => rfl
    | some l => have := (h.heap.own _ l hs).1; omega
  refine ⟨⟨fun b blk hb => ?_, h.heap.inj, fun b l hb => ⟨by have := (h.heap.own b l hb).1; show b < s.nx + 1; omega, (h.heap.own b l hb).2⟩, h.heap.fro⟩, h.glob, h.le, h.frame, h.frz, h.size, h.dfr, fun u v hv => ?_, fun b blk hb => ?_, h.stab, by have := h.nxm; show m0 ≤ s.nx + 1; omega, h.xm, h.sub⟩
  · simp only [look] at hb
    split at hb
    · rename_i he
      subst he
      obtain rfl := Option.some.inj hb
      exact .inl ⟨rfl, hnone⟩
    · exact h.heap.blk b blk hb
  · simp only at hv
    rw [look_put] at hv
    split at hv
    · rename_i he
      subst he
      obtain rfl := Option.some.inj hv
      have := h.rho t _ hl
      generalize a.tmps.getD t undef = u at this ⊢
      cases this with
      | fs _ ad len _ _ hd =>
        cases hd with
        | sl0 => exact .bsl0 _ _ _
        | sl b o l cap k rows g h1 => simp at h1; subst h1; exact .bsl0 _ _ _
    · exact h.rho u v hv
  · simp only [look] at hb
    split at hb
    · rename_i he; show b < s.nx + 1; omega
    · have := h.dom b blk hb; show b < s.nx + 1; omega

theorem wp_loop_rounds {c : Code} (J : Nat → Act → World → Prop) (h0 : ∀ a w, ¬ J 0 a w) (round : ∀ m a w, J (m + 1) a w → c.wp P (Exit.then (J m) Q) a w) {m : Nat} {a : Act} {w : World} (h : J m a w) : (Code.loop c).wp P Q a w := by
  intro b k cs
  have key : ∀ m a w, J m a w → ∃ e a' w', Q e a' w' ∧ Arrives P (lone (b.at a (.code c :: .inLoop c :: k)) cs w) b k cs e a' w' := by
    intro m
    induction m with
    | zero => intro a w h; exact absurd h (h0 a w)
    | succ m ih =>
      intro a w hI
      obtain ⟨e, a₁, w₁, hq, harr⟩ := round m a w hI b (.inLoop c :: k) cs
      cases e with
      | normal =>
        obtain ⟨e₂, a₂, w₂, hq₂, harr₂⟩ := ih a₁ w₁ hq
        exact ⟨e₂, a₂, w₂, hq₂, .of_steps (Steps.trans harr (.one step_inLoop)) harr₂⟩
      | exit id => exact ⟨_, a₁, w₁, hq, .pass (x := .inLoop c) rfl (fun _ _ => .inl (by simp)) harr⟩
      | goto l => exact ⟨_, a₁, w₁, hq, .pass (x := .inLoop c) rfl (fun _ _ => .inl (by simp)) harr⟩
      | ret => exact ⟨_, a₁, w₁, hq, .pass (x := .inLoop c) rfl (fun _ _ => .inl (by simp)) harr⟩
      | panic ch => exact ⟨_, a₁, w₁, hq, .pass (x := .inLoop c) rfl (fun _ _ => .inl (by simp)) harr⟩
      | outgrown => exact ⟨_, a₁, w₁, hq, .pass (x := .inLoop c) rfl (fun _ _ => .inl (by simp)) harr⟩
  obtain ⟨e, a', w', hq, harr⟩ := key m a w h
  exact ⟨e, a', w', hq, .of_steps (.one step_loop) harr⟩

theorem held_done {a : Act} {w : World} {F : Nat → Prop} {σ : Nat → Option Loc} {s : S} (h : StRel K X base w0 F0 m0 σ0 n s a w F σ) {x : Operand} {t : TypeId} {e : E} {r : V} (he : operE P [] t x = some e) (hr : ev K s e = some r) : RepV w F base σ (a.eval x) r := by
  have : Held P K s [] w F base σ a x := by
    cases x with
    | const v => exact held_const
    | global g => exact held_glob h.glob
    | func f => exact held_func
    | tmp t =>
      refine held_tmp fun r hr => ?_
      simp only [Env.get, look, ev] at hr
      exact h.rho t r hr
  exact this t e r he hr

def Exit.jumpR (J : Nat → Act → World → Prop) (Q : Exit → Act → World → Prop) : Exit → Act → World → Prop
  | .goto l, a, w => J l a w
  | e, a, w => Q e a w

theorem wp_scope_rounds {c : Code} (J : Nat → Nat → Act → World → Prop) (h0 : ∀ l a w, ¬ J 0 l a w) (round : ∀ m l a w, J (m + 1) l a w → ∃ rest, findLabel c l = some rest ∧ rest.wp P (Exit.jumpR (J m) Q) a w) {m : Nat} {a : Act} {w : World} (first : c.wp P (Exit.jumpR (J m) Q) a w) : (Code.scope c).wp P Q a w := by
  intro b k cs
  have key : ∀ m l rest a w, findLabel c l = some rest → J m l a w → ∃ e a' w', Q e a' w' ∧ Arrives P (lone (b.at a (.code rest :: .inScope c :: k)) cs w) b k cs e a' w' := by
    intro m
    induction m with
    | zero => intro l rest a w _ h; exact absurd h (h0 l a w)
    | succ m ih =>
      intro l rest a w hf hJ
      obtain ⟨rest', hf', hwp⟩ := round m l a w hJ
      rw [hf] at hf'
      obtain rfl := Option.some.inj hf'
      obtain ⟨e, a₁, w₁, hq, harr⟩ := hwp b (.inScope c :: k) cs
      cases e with
      | normal => exact ⟨.normal, a₁, w₁, hq, Steps.trans harr (.one step_inScope)⟩
      | exit id => exact ⟨.exit id, a₁, w₁, hq, fun k' hk => harr k' (by simp [exitTo, hk])⟩
      | goto l' =>
        have hq' : J m l' a₁ w₁ := hq
        cases m with
        | zero => exact absurd hq' (h0 l' a₁ w₁)
        | succ m =>
          obtain ⟨rest2, hf2, _⟩ := round m l' a₁ w₁ hq'
          obtain ⟨e₂, a₂, w₂, hq₂, harr₂⟩ := ih l' rest2 a₁ w₁ hf2 hq'
          have hg : gotoIn l' (.inScope c :: k) = some (.code rest2 :: .inScope c :: k) := by simp [gotoIn, hf2]
          exact ⟨e₂, a₂, w₂, hq₂, .of_steps (harr _ hg) harr₂⟩
      | ret => exact ⟨_, a₁, w₁, hq, harr⟩
      | panic ch => exact ⟨_, a₁, w₁, hq, harr⟩
      | outgrown => exact ⟨_, a₁, w₁, hq, harr⟩
  obtain ⟨e, a₁, w₁, hq, harr⟩ := first b (.inScope c :: k) cs
  cases e with
  | normal => exact ⟨.normal, a₁, w₁, hq, .head step_scope (Steps.trans harr (.one step_inScope))⟩
  | exit id => exact ⟨.exit id, a₁, w₁, hq, fun k' hk => .head step_scope (harr k' (by simp [exitTo, hk]))⟩
  | goto l' =>
    have hq' : J m l' a₁ w₁ := hq
    cases m with
    | zero => exact absurd hq' (h0 l' a₁ w₁)
    | succ m =>
      obtain ⟨rest2, hf2, _⟩ := round m l' a₁ w₁ hq'
      obtain ⟨e₂, a₂, w₂, hq₂, harr₂⟩ := key _ l' rest2 a₁ w₁ hf2 hq'
      have hg : gotoIn l' (.inScope c :: k) = some (.code rest2 :: .inScope c :: k) := by simp [gotoIn, hf2]
      exact ⟨e₂, a₂, w₂, hq₂, .of_steps (.head step_scope (harr _ hg)) harr₂⟩
  | ret => exact ⟨_, a₁, w₁, hq, .of_steps (.one step_scope) harr⟩
  | panic ch => exact ⟨_, a₁, w₁, hq, .of_steps (.one step_scope) harr⟩
  | outgrown => exact ⟨_, a₁, w₁, hq, .of_steps (.one step_scope) harr⟩

theorem exec_both (hm : P.follows .mixedOrders = true) (hK : K.Sound P) : ∀ (c : C), (∀ (code : Code) (s : S) (r : Ex × S) (a : Act) (w : World) (F : Nat → Prop) (σ : Nat → Option Loc), chk P m0 n c code = true → exec K c s = some r → StRel K X base w0 F0 m0 σ0 n s a w F σ →
    code.wp P (Post K X base w0 F0 m0 σ0 n r) a w) ∧
    ∀ (code : Code) (l : Nat) (g : S → Option (Ex × S)), chk P m0 n c code = true → exec.labelled K c l = some g → ∃ rest, findLabel code l = some rest ∧ ∀ (s : S) (r : Ex × S) (a : Act) (w : World) (F : Nat → Prop) (σ : Nat → Option Loc), g s = some r → StRel K X base w0 F0 m0 σ0 n s a w F σ → rest.wp P (Post K X base w0 F0 m0 σ0 n r) a w := by
  intro c
  induction c with
  | skip =>
    refine ⟨?_, fun code l g _ h => by simp [exec.labelled] at h⟩
    intro code s r a w F σ hc he hs
    cases code <;> simp only [chk] at hc <;> (try (cases hc; done))
    simp only [exec, Option.some.injEq] at he
    subst he
    exact wp_skip ⟨rfl, F, σ, hs⟩
  | reg l =>
    refine ⟨?_, fun code l g _ h => by simp [exec.labelled] at h⟩
    intro code s r a w F σ hc he hs
    cases code <;> simp only [chk] at hc <;> (try (cases hc; done))
    rename_i id ops draw
    simp only [exec] at he
    cases hev : evSegs K s l with
    | none => simp [hev] at he
    | some s' =>
      simp only [hev, Option.some.injEq] at he
      subst he
      cases draw with
      | false =>
        simp only [Bool.false_eq_true, if_false] at hc
        exact text_region hK hc hev hs fun a w F σ h => ⟨rfl, F, σ, h⟩
      | true =>
        simp only [if_true] at hc
        exact drawn_region hm hK hc hev hs fun a w F σ h => ⟨rfl, F, σ, h⟩
  | seq x y ihx ihy =>
    refine ⟨?_, fun code l g _ h => by simp [exec.labelled] at h⟩
    intro code s r a w F σ hc he hs
    simp only [exec] at he
    have plain : ∀ cx cy, code = .seq cx cy → chk P m0 n x cx = true → chk P m0 n y cy = true → code.wp P (Post K X base w0 F0 m0 σ0 n r) a w := by
      rintro cx cy rfl h1 h2
      cases hx : exec K x s with
      | none => simp [hx] at he
      | some p =>
        obtain ⟨ex, s'⟩ := p
        refine wp_seq (wp_mono (ihx.1 cx s _ a w F σ h1 hx hs) fun e a' w' hp => ?_)
        obtain ⟨rfl, F', σ', hs'⟩ := hp
        cases ex with
        | nrm =>
          simp only [hx] at he
          exact ihy.1 cy s' r a' w' F' σ' h2 he hs'
        | exit id => simp only [hx, Option.some.injEq] at he; subst he; exact ⟨rfl, F', σ', hs'⟩
        | goto l => simp only [hx, Option.some.injEq] at he; subst he; exact ⟨rfl, F', σ', hs'⟩
        | ret => simp only [hx, Option.some.injEq] at he; subst he; exact ⟨rfl, F', σ', hs'⟩
    by_cases hgc : ∃ m' sl, x = .tidy m' sl
    · obtain ⟨m', sl, rfl⟩ := hgc
      have hc' : (m' == m0) = true ∧ chk P m0 n y code = true := by cases code <;> simpa only [chk, Bool.and_eq_true] using hc
      obtain ⟨hm', hc'⟩ := hc'
      obtain rfl : m' = m0 := by simpa using hm'
      simp only [exec] at he
      cases hts : tidyS m' sl s with
      | none => simp [hts] at he
      | some s' =>
        simp only [hts] at he
        obtain ⟨σ', hs'⟩ := hs.tidy hts
        exact ihy.1 code _ r a w F σ' hc' he hs'
    · by_cases hown : ∃ t k, x = .own t k
      · obtain ⟨t, k, rfl⟩ := hown
        have hc' : decide (t < n) = true ∧ chk P m0 n y code = true := by cases code <;> simpa only [chk, Bool.and_eq_true] using hc
        simp only [exec] at he
        cases hl : look s.rho t with
        | none => simp [hl] at he
        | some v =>
          cases v with
          | fs c k' rows =>
            cases rows with
            | nil =>
              simp only [hl] at he
              by_cases hk : k' = k
              · simp only [hk, if_true] at he
                exact ihy.1 code _ r a w F σ hc'.2 he (hs.own hl)
              · simp [hk] at he
            | cons _ _ => simp [hl] at he
          | _ => simp [hl] at he
      · by_cases hfrz : ∃ m' t j, x = .frz m' t j
        · obtain ⟨m', t, j, rfl⟩ := hfrz
          have hc' : (m' == m0) = true ∧ chk P m0 n y code = true := by cases code <;> simpa only [chk, Bool.and_eq_true] using hc
          obtain ⟨hm', hc'⟩ := hc'
          obtain rfl : m' = m0 := by simpa using hm'
          simp only [exec] at he
          obtain ⟨F', σ', hs'⟩ := hs.freeze t j
          exact ihy.1 code _ r a w F' σ' hc' he hs'
        · cases code with
          | seq cx cy =>
            have : chk P m0 n x cx = true ∧ chk P m0 n y cy = true := by
              cases x <;> first | (exact absurd ⟨_, _, rfl⟩ hgc) | (exact absurd ⟨_, _, rfl⟩ hown) | (exact absurd ⟨_, _, _, rfl⟩ hfrz) | (simpa only [chk, Bool.and_eq_true] using hc)
            exact plain cx cy rfl this.1 this.2
          | _ => cases x <;> first | (exact absurd ⟨_, _, rfl⟩ hgc) | (exact absurd ⟨_, _, rfl⟩ hown) | (exact absurd ⟨_, _, _, rfl⟩ hfrz) | (simp [chk] at hc)
  | cond e x y ihx ihy =>
    refine ⟨?_, fun code l g _ h => by simp [exec.labelled] at h⟩
    intro code s r a w F σ hc he hs
    cases code <;> simp only [chk] at hc <;> (try (cases hc; done))
    rename_i oc cx cy
    simp only [Bool.and_eq_true, decide_eq_true_eq] at hc
    simp only [exec] at he
    cases hv : ev K s e with
    | none => simp [hv] at he
    | some v =>
      cases v with
      | d k x =>
        cases x with
        | bool b =>
          simp only [hv] at he
          have hb := (held_done hs hc.1.1 hv).bool_inv
          refine wp_cond hb ?_
          cases b with
          | true => exact ihx.1 cx s r a w F σ hc.1.2 (by simpa using he) hs
          | false => exact ihy.1 cy s r a w F σ hc.2 (by simpa using he) hs
        | _ => simp [hv] at he
      | _ => simp [hv] at he
  | block id x ih =>
    refine ⟨?_, fun code l g _ h => by simp [exec.labelled] at h⟩
    intro code s r a w F σ hc he hs
    cases code <;> simp only [chk] at hc <;> (try (cases hc; done))
    rename_i id' cx
    simp only [Bool.and_eq_true, beq_iff_eq] at hc
    obtain ⟨rfl, hc⟩ := hc
    simp only [exec] at he
    cases hx : exec K x s with
    | none => simp [hx] at he
    | some p =>
      obtain ⟨ex, s'⟩ := p
      refine wp_block (wp_mono (ih.1 cx s _ a w F σ hc hx hs) fun e a' w' hp => ?_)
      obtain ⟨rfl, F', σ', hs'⟩ := hp
      cases ex with
      | exit i =>
        simp only [hx] at he
        simp only [Ex.to, Exit.inBlock]
        split at he
        · rename_i hi
          rw [if_pos hi]
          simp only [Option.some.injEq] at he
          subst he
          exact ⟨rfl, F', σ', hs'⟩
        · rename_i hi
          rw [if_neg hi]
          simp only [Option.some.injEq] at he
          subst he
          exact ⟨rfl, F', σ', hs'⟩
      | nrm => simp only [hx, Option.some.injEq] at he; subst he; exact ⟨rfl, F', σ', hs'⟩
      | goto l => simp only [hx, Option.some.injEq] at he; subst he; exact ⟨rfl, F', σ', hs'⟩
      | ret => simp only [hx, Option.some.injEq] at he; subst he; exact ⟨rfl, F', σ', hs'⟩
  | loop x ih =>
    refine ⟨?_, fun code l g _ h => by simp [exec.labelled] at h⟩
    intro code s r a w F σ hc he hs
    cases code <;> simp only [chk] at hc <;> (try (cases hc; done))
    rename_i cx
    simp only [exec, loopF] at he
    split at he
    case isFalse => cases he
    rename_i hex
    refine wp_loop_rounds (J := fun m a w => ∃ s F σ, iter (exec K x) m s = some r ∧ StRel K X base w0 F0 m0 σ0 n s a w F σ) (fun a w h => ?_) (fun m a w h => ?_) (m := hex.choose) ⟨s, F, σ, he, hs⟩
    · obtain ⟨s, F, σ, h, _⟩ := h
      simp [iter] at h
    · obtain ⟨s, F, σ, h, hs⟩ := h
      simp only [iter] at h
      cases hx : exec K x s with
      | none => simp [hx] at h
      | some p =>
        obtain ⟨ex, s'⟩ := p
        refine wp_mono (ih.1 cx s _ a w F σ hc hx hs) fun e a' w' hp => ?_
        obtain ⟨rfl, F', σ', hs'⟩ := hp
        cases ex with
        | nrm => simp only [hx] at h; exact ⟨s', F', σ', h, hs'⟩
        | exit id => simp only [hx, Option.some.injEq] at h; subst h; exact ⟨rfl, F', σ', hs'⟩
        | goto l => simp only [hx, Option.some.injEq] at h; subst h; exact ⟨rfl, F', σ', hs'⟩
        | ret => simp only [hx, Option.some.injEq] at h; subst h; exact ⟨rfl, F', σ', hs'⟩
  | exit id =>
    refine ⟨?_, fun code l g _ h => by simp [exec.labelled] at h⟩
    intro code s r a w F σ hc he hs
    cases code <;> simp only [chk] at hc <;> (try (cases hc; done))
    simp only [beq_iff_eq] at hc
    subst hc
    simp only [exec, Option.some.injEq] at he
    subst he
    exact wp_exit ⟨rfl, F, σ, hs⟩
  | scope x ls ihx ihl =>
    refine ⟨?_, fun code l g _ h => by simp [exec.labelled] at h⟩
    intro code s r a w F σ hc he hs
    cases code <;> simp only [chk] at hc <;> (try (cases hc; done))
    rename_i cx
    simp only [Bool.and_eq_true] at hc
    simp only [exec, scopeF] at he
    split at he
    case isFalse => cases he
    rename_i hex
    generalize hex.choose = m at he
    cases m with
    | zero => simp [jumps] at he
    | succ m =>
      have post : ∀ (m : Nat) (p : Ex × S) (e : Exit) (a : Act) (w : World), jumps (fun l => exec.labelled K ls l) (m + 1) (some p) = some r → Post K X base w0 F0 m0 σ0 n p e a w →
          Exit.jumpR (fun l a w => ∃ g s F σ, exec.labelled K ls l = some g ∧ jumps (fun l => exec.labelled K ls l) m (g s) = some r ∧ StRel K X base w0 F0 m0 σ0 n s a w F σ) (Post K X base w0 F0 m0 σ0 n r) e a w := by
        intro m p e a w hj hp
        obtain ⟨ex, s'⟩ := p
        obtain ⟨rfl, F', σ', hs'⟩ := hp
        simp only [jumps] at hj
        cases ex with
        | nrm => simp only [Option.some.injEq] at hj; subst hj; exact ⟨rfl, F', σ', hs'⟩
        | exit id => simp only [Option.some.injEq] at hj; subst hj; exact ⟨rfl, F', σ', hs'⟩
        | ret => simp only [Option.some.injEq] at hj; subst hj; exact ⟨rfl, F', σ', hs'⟩
        | goto l =>
          simp only at hj
          cases hl : exec.labelled K ls l with
          | none => simp [hl] at hj
          | some g =>
            simp only [hl] at hj
            exact ⟨g, s', F', σ', hl, hj, hs'⟩
      cases hx : exec K x s with
      | none => simp [hx, jumps] at he
      | some p =>
        rw [hx] at he
        refine wp_scope_rounds (m := m) (J := fun m l a w => ∃ g s F σ, exec.labelled K ls l = some g ∧ jumps (fun l => exec.labelled K ls l) m (g s) = some r ∧ StRel K X base w0 F0 m0 σ0 n s a w F σ) (fun l a w h => ?_) (fun m l a w h => ?_) (wp_mono (ihx.1 cx s _ a w F σ hc.1 hx hs) fun e a' w' hp => post m p e a' w' he hp)
        · obtain ⟨g, s, F, σ, _, h, _⟩ := h
          simp [jumps] at h
        · obtain ⟨g, s, F, σ, hl, hj, hs⟩ := h
          obtain ⟨rest, hf, hrest⟩ := ihl.2 cx l g hc.2 hl
          refine ⟨rest, hf, ?_⟩
          cases hg : g s with
          | none => rw [hg] at hj; simp [jumps] at hj
          | some p =>
            rw [hg] at hj
            exact wp_mono (hrest s p a w F σ hg hs) fun e a' w' hp => post m p e a' w' hj hp
  | lnil => exact ⟨fun code s r a w F σ hc he => by simp [exec] at he, fun code l g _ h => by simp [exec.labelled] at h⟩
  | lcons l0 c ls ihc ihl =>
    refine ⟨fun code s r a w F σ hc he => by simp [exec] at he, fun code l g hc h => ?_⟩
    have hc' : ((match findLabel code l0 with | some rest => chk P m0 n c rest | none => false) && chk P m0 n ls code) = true := by cases code <;> simpa only [chk] using hc
    simp only [Bool.and_eq_true] at hc'
    simp only [exec.labelled] at h
    split at h
    · rename_i he
      subst he
      obtain rfl := Option.some.inj h
      cases hf : findLabel code l0 with
      | none => simp [hf] at hc'
      | some rest =>
        simp only [hf] at hc'
        exact ⟨rest, rfl, fun s r a w F σ he hs => ihc.1 rest s r a w F σ hc'.1 he hs⟩
    · exact ihl.2 code l g hc'.2 h
  | label l =>
    refine ⟨?_, fun code l g _ h => by simp [exec.labelled] at h⟩
    intro code s r a w F σ hc he hs
    cases code <;> simp only [chk] at hc <;> (try (cases hc; done))
    simp only [exec, Option.some.injEq] at he
    subst he
    exact wp_label ⟨rfl, F, σ, hs⟩
  | goto l =>
    refine ⟨?_, fun code l g _ h => by simp [exec.labelled] at h⟩
    intro code s r a w F σ hc he hs
    cases code <;> simp only [chk] at hc <;> (try (cases hc; done))
    simp only [beq_iff_eq] at hc
    subst hc
    simp only [exec, Option.some.injEq] at he
    subst he
    exact wp_goto ⟨rfl, F, σ, hs⟩
  | ret =>
    refine ⟨?_, fun code l g _ h => by simp [exec.labelled] at h⟩
    intro code s r a w F σ hc he hs
    cases code <;> simp only [chk] at hc <;> (try (cases hc; done))
    simp only [exec, Option.some.injEq] at he
    subst he
    exact wp_ret ⟨rfl, F, σ, hs⟩
  | tidy => exact ⟨fun code s r a w F σ hc he => by cases code <;> simp [chk] at hc, fun code l g _ h => by simp [exec.labelled] at h⟩
  | own => exact ⟨fun code s r a w F σ hc he => by cases code <;> simp [chk] at hc, fun code l g _ h => by simp [exec.labelled] at h⟩
  | stuck => exact ⟨fun code s r a w F σ hc he => by simp [exec] at he, fun code l g _ h => by simp [exec.labelled] at h⟩
  | frz => exact ⟨fun code s r a w F σ hc he => by cases code <;> simp [chk] at hc, fun code l g _ h => by simp [exec.labelled] at h⟩

theorem exec_sound (hm : P.follows .mixedOrders = true) (hK : K.Sound P) (c : C) (code : Code) (s : S) (r : Ex × S) (a : Act) (w : World) (F : Nat → Prop) (σ : Nat → Option Loc) (hc : chk P m0 n c code = true) (he : exec K c s = some r) (hs : StRel K X base w0 F0 m0 σ0 n s a w F σ) :
    code.wp P (Post K X base w0 F0 m0 σ0 n r) a w := (exec_both hm hK c).1 code s r a w F σ hc he hs

end Go.Vm
end

section
namespace Go.Vm
open Go.RowKit

def hNew (H : List (Nat × Blk)) : Bool := H.all fun p => match p.2 with
  | .dat c _ _ => c
  | .mix _ rows => rows.all (·.all V.newR)
  | .map es => es.all fun q => match q.2 with
    | .agg cs => cs.all V.newR
    | v => v.newR

def restH (bs : List Nat) (H : List (Nat × Blk)) : List (Nat × Blk) := forgetH bs.contains (H.filter fun p => !bs.contains p.1)

def finC (z : Bool) (bs : List Nat) (H : List (Nat × Blk)) : V → Option V
  | .d c y => some (.d c y)
  | .fs c k r => some (.fs c k r)
  | .ptr b i j => if bs.contains b then some (.ptr (bs.idxOf b) i j) else (viewD viewDepth (restH bs H) (.ptr b i j)).map (.d (z && hNew (restH bs H)))
  | .bsl b i n => if bs.contains b then some (.bsl (bs.idxOf b) i n) else (viewD viewDepth (restH bs H) (.bsl b i n)).map (.d (z && hNew (restH bs H)))
  | .iface t v => (viewD viewDepth (restH bs H) (V.drop1 bs.contains (.iface t v))).map (.d false)
  | .map b => if bs.contains b then some (.map (bs.idxOf b)) else none
  | _ => none
def finA (z : Bool) (bs : List Nat) (H : List (Nat × Blk)) : V → Option V
  | .agg cs => (mapO (finC z bs H) cs).map .agg
  | .fn f cs => (mapO (finC z bs H) cs).map (.fn f)
  | v => finC z bs H v
def finV (z : Bool) (bs : List Nat) (H : List (Nat × Blk)) : V → Option V
  | .tup vs => (mapO (finA z bs H) vs).map .tup
  | v => finA z bs H v
def finB (z : Bool) (bs : List Nat) (H : List (Nat × Blk)) (b : Nat) : Option Blk := match look H b with
  | some (.dat c k rows) => some (.dat c k rows)
  | some (.mix k rows) => (mapO (mapO (finC z bs H)) rows).map (.mix k)
  | some (.map es) => (mapO (fun q => (finA z bs H q.2).map fun v => (q.1, v)) es).map .map
  | none => none

structure Fun where
  body : C
  res : List E
  own : Bool
  deriving Inhabited

def oneOr : List V → V
  | [v] => v
  | vs => .tup vs

def finish (m : Nat) (own : Bool) (s : S) (v : V) : Option (V × List Blk × List Nat) :=
  let bs := if own then reachB s.heap 64 [] (List.range m ++ v.refs) else List.range m
  if decide bs.Nodup && decide (bs.take m = List.range m) then
    match finV (m == 0) bs s.heap v, mapO (finB (m == 0) bs s.heap) bs with
    | some r, some news => some (r, news, s.mv)
    | _, _ => none
  else none

def startS (args : List V) (blks : List Blk) : S := ⟨(args.zipIdx.map fun (v, i) => (i, v)), indexed blks, blks.length, []⟩

noncomputable def runFun (K : Cx) (g : Fun) (args : List V) (blks : List Blk) : Option (V × List Blk × List Nat) :=
  match exec K g.body (startS args blks) with
  | some (.nrm, s) => match mapO (ev K s) g.res with
    | some vs => finish blks.length g.own s (oneOr vs)
    | none => none
  | some (.ret, s) => match mapO (ev K s) g.res with
    | some vs => finish blks.length g.own s (oneOr vs)
    | none => none
  | _ => none

def resE (P : Program) : ResultVar → Option E
  | .tmp t => some (.sl t)
  | .cell a t => match P.info? t, P.underlying t with
    | some i, some d => some (.ld i.size (isAggD d) (.sl a))
    | _, _ => none

def funOk (P : Program) (f : FuncId) (m n : Nat) (g : Fun) : Bool :=
  match P.funcs[f]? with
  | some fn => match fn.body with
    | some code => chk P m fn.ntmps g.body code && decide (mapO (resE P) fn.results.toList = some g.res) && decide (n ≤ fn.ntmps) && (fn.name != "runtime.NumGoroutine")
    | none => false
  | none => false

variable {P : Program} {w : World} {F : Nat → Prop} {X : Nat → Nat → Prop} {base nx : Nat} {σ : Nat → Option Loc} {H : List (Nat × Blk)} {bs : List Nat}

theorem keys_mapO {f : V → Option V} : ∀ {es es' : List (D × V)}, mapO (fun q => (f q.2).map fun v => (q.1, v)) es = some es' → es'.map (·.1) = es.map (·.1)
  | [], es', h => by obtain rfl := Option.some.inj h; rfl
  | q :: es, es', h => by
    simp only [mapO] at h
    cases hq : f q.2 with
    | none => simp [hq] at h
    | some v =>
      cases hr : mapO (fun q => (f q.2).map fun v => (q.1, v)) es with
      | none => simp [hq, hr] at h
      | some r =>
        simp only [hq, hr, Option.map_some, Option.some.injEq] at h
        subst h
        simp only [List.map_cons, keys_mapO hr]

theorem MemObj.ofO {f : V → Option V} {w w' : World} {σ σ' : Nat → Option Loc} {l : Loc} {ck : Nat} {es : Array MapEntry} {ds ds' : List (D × V)} (hw : w'.heap[l.blk]? = w.heap[l.blk]?) (hes : mapO (fun q => (f q.2).map fun v => (q.1, v)) ds = some ds')
    (hf : ∀ q ∈ ds, ∀ y, f q.2 = some y → ∀ v, BufV σ v q.2 → BufV σ' v y) (h : MemObj w σ l es ck ds) : MemObj w' σ' l es ck ds' := by
  have hk := keys_mapO hes
  rcases h with ⟨h, hx, ht⟩ | ⟨T, p, v, x, h1, h2, h3, h4⟩ | ⟨T, cur, fz, bs, h1, h2, h3⟩
  · refine .inl ⟨by rw [hw]; exact h, hx, ?_⟩
    cases ds with
    | nil => obtain rfl : ds' = [] := by simpa using hk
             rfl
    | cons q ds =>
      obtain ⟨k, v⟩ := q
      cases ds' with
      | nil => simp at hk
      | cons q' ds' =>
        obtain ⟨k', v'⟩ := q'
        simp only [List.map_cons, List.cons.injEq] at hk
        obtain ⟨rfl, _⟩ := hk
        cases k' <;> first | rfl | (simp [tagged] at ht)
  · subst h1
    simp only [mapO] at hes
    cases hx : f x with
    | none => simp [hx] at hes
    | some y =>
      simp only [hx, Option.map_some, Option.some.injEq] at hes
      subst hes
      exact .inr (.inl ⟨T, p, v, y, rfl, by rw [hw]; exact h2, h3, hf (.nils T, x) (by simp) y hx v h4⟩)
  · exact .inr (.inr ⟨T, cur, fz, bs, by rw [hk]; exact h1, by rw [hw]; exact h2, h3⟩)

theorem New_New {c : Bool} {b : Nat} (h : col F base true b) : col (New F base) base c b := by
  cases c
  · exact h
  · exact ⟨h, h.2⟩

theorem RepV.newF {v : Value} {x : V} (hx : x.newR = true) (h : RepV w F base σ v x) : RepV w (New F base) base σ v x := by
  cases h with
  | d c v x h =>
    simp only [V.newR, V.new1, Bool.or_eq_true] at hx
    cases c with
    | true => exact .d _ _ _ (h.mono fun b hb => ⟨New_New hb, rfl⟩)
    | false => exact .d _ _ _ (h.flat (by simpa using hx))
  | fs c a len k rows h =>
    simp only [V.newR, V.new1] at hx
    subst hx
    exact .fs _ _ _ _ _ (h.mono fun b hb => ⟨New_New hb, rfl⟩)
  | ptr b i j l hl => exact .ptr b i j l hl
  | bsl0 a b i => exact .bsl0 a b i
  | bsl b i len cap l hl h1 h2 => exact .bsl b i len cap l hl h1 h2
  | map b l hl => exact .map b l hl
  | _ => simp [V.newR, V.new1] at hx

theorem mkd_newR {c : Bool} (hc : c = true) (d : D) : (mkd c d).newR = true := by
  subst hc
  unfold mkd
  split <;> simp [V.newR, V.new1, *]

theorem HeapRel.newF (hn : hNew H = true) (h : HeapRel w F X base σ nx H) : HeapRel w (New F base) X base σ nx H := by
  refine ⟨fun b blk hb => ?_, h.inj, fun b l hb => ⟨(h.own b l hb).1, fun hf => (h.own b l hb).2.1 hf.1, (h.own b l hb).2.2⟩, fun b hb => h.fro b hb.1⟩
  have hin : ∃ p ∈ H, p = (b, blk) := by
    clear hn h
    induction H with
    | nil => simp [look] at hb
    | cons p H ih =>
      obtain ⟨k, v⟩ := p
      simp only [look] at hb
      split at hb
      · rename_i hk
        subst hk
        obtain rfl := Option.some.inj hb
        exact ⟨_, List.mem_cons_self .., rfl⟩
      · obtain ⟨p, hp, he⟩ := ih hb
        exact ⟨p, List.mem_cons_of_mem _ hp, he⟩
  obtain ⟨p, hp, rfl⟩ := hin
  simp only [hNew, List.all_eq_true] at hn
  have hnb := hn _ hp
  rcases h.blk b blk hb with ⟨h1, h2⟩ | ⟨l, es, ck, ds, rfl, h1, h2, h3, h4, h5⟩ | ⟨l, cs, T, h1, h2, h3, h4, h5, h6, h7⟩
  · exact .inl ⟨h1, h2⟩
  · have := h5.transM (f := fun x => x) (w' := w) (F' := New F base) (base' := base) (σ' := σ) fun q hq v hv => by
      simp only [List.all_eq_true] at hnb
      have hqn := hnb q hq
      obtain ⟨qk, qv⟩ := q
      cases qv with
      | agg cs =>
        cases hv with
        | agg vs _ g1 g2 g3 =>
          simp only [List.all_eq_true] at hqn
          exact .agg vs cs g1 (fun j v x hv hx => (g2 j v x hv hx).newF (hqn x (List.mem_of_getElem? hx))) g3
      | _ => exact hv.newF hqn
    exact .inr (.inl ⟨l, es, ck, ds, rfl, h1, h2, h3, h4, by simpa using this⟩)
  · refine .inr <| .inr ⟨l, cs, T, h1, h2, h3, h4, h5, fun i row hrow => ⟨(h6 i row hrow).1, fun j x hx => ?_⟩, h7⟩
    obtain ⟨v, g1, g2, g3⟩ := (h6 i row hrow).2 j x hx
    refine ⟨v, g1, g2, g3.newF ?_⟩
    cases blk with
    | dat c k rows =>
      simp only [Blk.row?, Option.map_eq_some_iff] at hrow
      obtain ⟨r, _, rfl⟩ := hrow
      simp only [List.getElem?_map, Option.map_eq_some_iff] at hx
      obtain ⟨d, _, rfl⟩ := hx
      exact mkd_newR hnb d
    | mix k rows =>
      simp only [Blk.row?] at hrow
      simp only [List.all_eq_true] at hnb
      exact hnb row (List.mem_of_getElem? hrow) x (List.mem_of_getElem? hx)
    | map es => simp [Blk.entries] at h7

def wo (bs : List Nat) (σ : Nat → Option Loc) (b : Nat) : Option Loc := if bs.contains b then none else σ b
def outs (bs : List Nat) (σ : Nat → Option Loc) (i : Nat) : Option Loc := match bs[i]? with
  | some b => σ b
  | none => none

theorem wo_some {b : Nat} {l : Loc} (h : wo bs σ b = some l) : bs.contains b = false ∧ σ b = some l := by
  unfold wo at h
  split at h
  · cases h
  · rename_i hb; exact ⟨by simpa using hb, h⟩
theorem wo_of : ∀ b l, σ b = some l → bs.contains b = false → wo bs σ b = some l := by
  intro b l h1 h2
  unfold wo
  rw [if_neg (by rw [h2]; exact Bool.false_ne_true)]
  exact h1

theorem look_filter (p : Nat → Bool) : ∀ (H : List (Nat × Blk)) (b : Nat) (blk : Blk), look (H.filter fun q => p q.1) b = some blk → p b = true ∧ look H b = some blk
  | [], b, blk, h => by simp [look] at h
  | (k, v) :: H, b, blk, h => by
    simp only [List.filter_cons] at h
    split at h
    · rename_i hk
      simp only [look] at h ⊢
      split at h
      · rename_i he
        subst he
        rw [if_pos rfl]
        exact ⟨hk, h⟩
      · rename_i he
        rw [if_neg he]
        exact look_filter p H b blk h
    · rename_i hk
      obtain ⟨h1, h2⟩ := look_filter p H b blk h
      refine ⟨h1, ?_⟩
      simp only [look]
      rw [if_neg (fun e => hk (by subst e; exact h1))]
      exact h2

theorem rest_heap (h : HeapRel w F X base σ nx H) : HeapRel w F X base (wo bs σ) nx (restH bs H) := by
  refine ⟨fun b blk hb => ?_, fun b b' l l' h1 h2 => h.inj b b' l l' (wo_some h1).2 (wo_some h2).2, fun b l hb => h.own b l (wo_some hb).2, h.fro⟩
  unfold restH forgetH at hb
  rw [look_mapB] at hb
  simp only [Option.map_eq_some_iff] at hb
  obtain ⟨blk0, h1, rfl⟩ := hb
  obtain ⟨h2, h3⟩ := look_filter (fun b => !bs.contains b) H b blk0 h1
  have h2' : bs.contains b = false := by simpa using h2
  have hs : ∀ l, σ b = some l → wo bs σ b = some l := fun l hl => wo_of b l hl h2'
  refine (h.blk b blk0 h3).forget _ (fun b hb => ⟨hb, rfl⟩) wo_of hs (fun h4 => ?_) (fun _ _ => rfl)
  unfold wo
  split
  · rfl
  · exact h4

def FZ (F : Nat → Prop) (bs : List Nat) (σ : Nat → Option Loc) : Nat → Prop := All F (wo bs σ)

variable {z : Bool}

def Young (X : Nat → Nat → Prop) (base : Nat) (bs : List Nat) (σ : Nat → Option Loc) : Prop := ∀ i l, wo bs σ i = some l → base ≤ l.blk

theorem out_idx {b : Nat} {l : Loc} (h1 : σ b = some l) (h2 : bs.contains b = true) : outs bs σ (bs.idxOf b) = some l := by
  unfold outs
  have hm : b ∈ bs := by simpa using h2
  have : bs[bs.idxOf b]? = some b := by
    rw [List.getElem?_eq_getElem (List.idxOf_lt_length_of_mem hm)]
    rw [List.getElem_idxOf]
  rw [this]
  exact h1

theorem finC_buf {z : Bool} {x y : V} (hy : finC z bs H x = some y) {v : Value} (hv : BufV σ v x) : BufV (outs bs σ) v y := by
  cases x with
  | bsl b i n =>
    simp only [finC] at hy
    split at hy
    · rename_i hb
      obtain rfl := Option.some.inj hy
      obtain ⟨h0, h | ⟨l, h1, h2⟩⟩ := hv
      · exact ⟨h0, .inl h⟩
      · exact ⟨h0, .inr ⟨l, out_idx h1 hb, h2⟩⟩
    · simp only [Option.map_eq_some_iff] at hy
      obtain ⟨d, _, rfl⟩ := hy
      trivial
  | d c d => obtain rfl := Option.some.inj hy; trivial
  | fs c k r => obtain rfl := Option.some.inj hy; trivial
  | ptr b i j =>
    simp only [finC] at hy
    split at hy
    · obtain rfl := Option.some.inj hy; trivial
    · simp only [Option.map_eq_some_iff] at hy
      obtain ⟨d, _, rfl⟩ := hy
      trivial
  | iface t u =>
    simp only [finC, Option.map_eq_some_iff] at hy
    obtain ⟨d, _, rfl⟩ := hy
    trivial
  | map b =>
    simp only [finC] at hy
    split at hy
    · obtain rfl := Option.some.inj hy; trivial
    · cases hy
  | _ => simp [finC] at hy
theorem finA_buf {z : Bool} {x y : V} (hy : finA z bs H x = some y) {v : Value} (hv : BufV σ v x) : BufV (outs bs σ) v y := by
  cases x with
  | agg cs =>
    simp only [finA, Option.map_eq_some_iff] at hy
    obtain ⟨d, _, rfl⟩ := hy
    trivial
  | fn f cs =>
    simp only [finA, Option.map_eq_some_iff] at hy
    obtain ⟨d, _, rfl⟩ := hy
    trivial
  | _ => exact finC_buf (by simpa only [finA] using hy) hv

theorem finC_sound (h : HeapRel w F X base σ nx H) (hy : Young X base bs σ) (v : Value) (x r : V) (hr : finC z bs H x = some r) (hR : RepV w F base σ v x) : RepV w (FZ F bs σ) base (outs bs σ) v r := by
  have hsub : ∀ b, F b → FZ F bs σ b ∧ w.heap[b]? = w.heap[b]? := fun b hb => ⟨.inl hb, rfl⟩
  have frozen : ∀ (x : V), x.newR = true → (∃ y, (viewD viewDepth (restH bs H) x) = some y ∧ r = .d (z && hNew (restH bs H)) y) → RepV w F base (wo bs σ) v x → RepV w (FZ F bs σ) base (outs bs σ) v r := by
    rintro x hx ⟨y, hyy, rfl⟩ hR
    have hH := rest_heap (bs := bs) h
    cases hn : z && hNew (restH bs H) with
    | false => exact .d _ _ _ (viewD_sound hH _ _ _ _ hyy hR)
    | true =>
      simp only [Bool.and_eq_true] at hn
      refine .d _ _ _ ((viewD_sound (hH.newF hn.2) _ _ _ _ hyy (hR.newF hx)).mono fun b hb => ⟨?_, rfl⟩)
      rcases hb with hb | ⟨i, l, hl, rfl⟩
      · exact ⟨.inl hb.1, hb.2⟩
      · exact ⟨.inr ⟨i, l, hl, rfl⟩, hy i l hl⟩
  have hFF : ∀ b, F b → F b ∧ w.heap[b]? = w.heap[b]? := fun b hb => ⟨hb, rfl⟩
  cases x with
  | d c y =>
    simp only [finC, Option.some.injEq] at hr
    subst hr
    cases hR with
    | d _ _ _ hd => exact .d _ _ _ (hd.mono (col_mono hsub c))
  | fs c k rows =>
    simp only [finC, Option.some.injEq] at hr
    subst hr
    cases hR with
    | fs _ _ _ _ _ hd => exact .fs _ _ _ _ _ (hd.mono (col_mono hsub c))
  | ptr b i j =>
    simp only [finC] at hr
    split at hr
    · rename_i hb
      obtain rfl := Option.some.inj hr
      cases hR with
      | ptr _ _ _ l hl => exact .ptr _ _ _ l (out_idx hl hb)
    · rename_i hb
      simp only [Option.map_eq_some_iff] at hr
      obtain ⟨y, hy, rfl⟩ := hr
      exact frozen (.ptr b i j) rfl ⟨y, hy, rfl⟩ (hR.keep0 hFF wo_of (by simpa [V.ref0] using hb))
  | bsl b i n =>
    simp only [finC] at hr
    split at hr
    · rename_i hb
      obtain rfl := Option.some.inj hr
      cases hR with
      | bsl0 => exact .bsl0 _ _ _
      | bsl _ _ _ cap l hl h1 h2 => exact .bsl _ _ _ cap l (out_idx hl hb) h1 h2
    · rename_i hb
      simp only [Option.map_eq_some_iff] at hr
      obtain ⟨y, hy, rfl⟩ := hr
      exact frozen (.bsl b i n) rfl ⟨y, hy, rfl⟩ (hR.keep0 hFF wo_of (by simpa [V.ref0] using hb))
  | iface t u =>
    simp only [finC, Option.map_eq_some_iff] at hr
    obtain ⟨y, hy, rfl⟩ := hr
    exact .d _ _ _ (viewD_sound (rest_heap (bs := bs) h) _ _ _ _ hy (hR.drop1 hFF wo_of))
  | map b =>
    simp only [finC] at hr
    split at hr
    · rename_i hb
      obtain rfl := Option.some.inj hr
      cases hR with
      | map _ l hl => exact .map _ l (out_idx hl hb)
    · cases hr
  | _ => simp [finC] at hr

theorem reps_map {f : V → Option V} {R R' : Value → V → Prop} (hf : ∀ v x r, f x = some r → R v x → R' v r) {cs : Array Value} {xs rs : List V} (hm : mapO f xs = some rs) (hsz : cs.size = xs.length) (h : ∀ (j : Nat) (v : Value) (x : V), cs[j]? = some v → xs[j]? = some x → R v x) :
    cs.size = rs.length ∧ ∀ (j : Nat) (v : Value) (x : V), cs[j]? = some v → rs[j]? = some x → R' v x := by
  obtain ⟨m1, m2⟩ := mapO_some hm
  refine ⟨by omega, fun j v x hv hx => ?_⟩
  have hj : j < xs.length := by rw [← m1]; exact (List.getElem?_eq_some_iff.1 hx).1
  obtain ⟨y, hy, hvd⟩ := m2 j _ (List.getElem?_eq_getElem hj)
  rw [hx] at hy
  obtain rfl := Option.some.inj hy
  exact hf v _ x hvd (h j v _ hv (List.getElem?_eq_getElem hj))

theorem finA_sound (h : HeapRel w F X base σ nx H) (hy : Young X base bs σ) (v : Value) (x r : V) (hr : finA z bs H x = some r) (hR : RepV w F base σ v x) : RepV w (FZ F bs σ) base (outs bs σ) v r := by
  have one : ∀ v x r, finC z bs H x = some r → RepV w F base σ v x → RepV w (FZ F bs σ) base (outs bs σ) v r := fun v x r h1 h2 => finC_sound h hy v x r h1 h2
  cases x with
  | agg xs =>
    simp only [finA, Option.map_eq_some_iff] at hr
    obtain ⟨rs, hm, rfl⟩ := hr
    cases hR with
    | agg cs _ h1 h2 h3 =>
      obtain ⟨g1, g2⟩ := reps_map one hm h1 h2
      exact .agg cs rs g1 g2 h3
  | fn f xs =>
    simp only [finA, Option.map_eq_some_iff] at hr
    obtain ⟨rs, hm, rfl⟩ := hr
    cases hR with
    | fn _ cs _ h1 h2 =>
      obtain ⟨g1, g2⟩ := reps_map one hm h1 h2
      exact .fn f cs rs g1 g2
  | _ => simp only [finA] at hr; exact one v _ r hr hR

theorem finV_sound (h : HeapRel w F X base σ nx H) (hy : Young X base bs σ) {v : Value} {x r : V} (hr : finV z bs H x = some r) (hR : RepV w F base σ v x) : RepV w (FZ F bs σ) base (outs bs σ) v r := by
  cases x with
  | tup xs =>
    simp only [finV, Option.map_eq_some_iff] at hr
    obtain ⟨rs, hm, rfl⟩ := hr
    cases hR with
    | tup cs _ h1 h2 =>
      obtain ⟨g1, g2⟩ := reps_map (finA_sound h hy) hm h1 h2
      exact .tup cs rs g1 g2
  | _ => simp only [finV] at hr; exact finA_sound h hy v _ r hr hR

theorem outs_some {i : Nat} {l : Loc} (hi : outs bs σ i = some l) : ∃ b, bs[i]? = some b ∧ σ b = some l := by
  unfold outs at hi
  split at hi
  · rename_i b hb; exact ⟨b, hb, hi⟩
  · cases hi

theorem finB_heap (h : HeapRel w F X base σ nx H) (hy : Young X base bs σ) (hbs : bs.Nodup) (hX : ∀ b k, X b k → bs[b]? = some b) {news : List Blk} (hm : mapO (finB z bs H) bs = some news) : HeapRel w (FZ F bs σ) X base (outs bs σ) news.length (indexed news) := by
  obtain ⟨m1, m2⟩ := mapO_some hm
  have hsub : ∀ b, F b → FZ F bs σ b ∧ w.heap[b]? = w.heap[b]? := fun b hb => ⟨.inl hb, rfl⟩
  refine ⟨fun i blk hi => ?_, fun i j l l' h1 h2 he => ?_, fun i l hi => ?_, fun b hb => ?_⟩
  · rw [look_indexed] at hi
    have hil : i < bs.length := by rw [← m1]; exact (List.getElem?_eq_some_iff.1 hi).1
    obtain ⟨y, hyy, hb⟩ := m2 i _ (List.getElem?_eq_getElem hil)
    rw [hi] at hyy
    obtain rfl := Option.some.inj hyy
    have hout : outs bs σ i = σ bs[i] := by unfold outs; rw [List.getElem?_eq_getElem hil]
    unfold finB at hb
    split at hb
    · rename_i c k rows hlk
      obtain rfl := Option.some.inj hb
      rcases h.blk _ _ hlk with ⟨g1, g2⟩ | ⟨_, _, _, _, hbad, _⟩ | ⟨l, cs, T, g1, g2, g3, g4, g5, g6, g7⟩
      · exact .inl ⟨g1, by rw [hout]; exact g2⟩
      · cases hbad
      · refine .inr <| .inr ⟨l, cs, T, by rw [hout]; exact g1, g2, g3, g4, g5, fun i row hrow => ⟨(g6 i row hrow).1, fun j x hx => ?_⟩, g7⟩
        obtain ⟨v, e1, e2, e3⟩ := (g6 i row hrow).2 j x hx
        refine ⟨v, e1, e2, ?_⟩
        simp only [Blk.row?, Option.map_eq_some_iff] at hrow
        obtain ⟨r, _, rfl⟩ := hrow
        simp only [List.getElem?_map, Option.map_eq_some_iff] at hx
        obtain ⟨d, _, rfl⟩ := hx
        refine e3.keep0 (p := fun _ => true) hsub (fun _ _ _ h => by cases h) ?_
        unfold mkd
        split <;> rfl
    · rename_i k rows hlk
      simp only [Option.map_eq_some_iff] at hb
      obtain ⟨rows', hrows, rfl⟩ := hb
      obtain ⟨p1, p2⟩ := mapO_some hrows
      rcases h.blk _ _ hlk with ⟨g1, g2⟩ | ⟨_, _, _, _, hbad, _⟩ | ⟨l, cs, T, g1, g2, g3, g4, g5, g6, g7⟩
      · exact .inl ⟨by simp only [Blk.n] at g1 ⊢; omega, by rw [hout]; exact g2⟩
      · cases hbad
      · refine .inr <| .inr ⟨l, cs, T, by rw [hout]; exact g1, g2, g3, by simp only [Blk.n] at g4 ⊢; omega, g5, fun i row hrow => ?_, rfl⟩
        simp only [Blk.row?] at hrow
        have hi' : i < rows.length := by rw [← p1]; exact (List.getElem?_eq_some_iff.1 hrow).1
        obtain ⟨row', hrow', hm'⟩ := p2 i _ (List.getElem?_eq_getElem hi')
        rw [hrow] at hrow'
        obtain rfl := Option.some.inj hrow'
        obtain ⟨q1, q2⟩ := mapO_some hm'
        obtain ⟨r1, r2⟩ := g6 i rows[i] (by simp [Blk.row?, hi'])
        refine ⟨by simp only [Blk.k] at r1 ⊢; omega, fun j x hx => ?_⟩
        have hj : j < rows[i].length := by rw [← q1]; exact (List.getElem?_eq_some_iff.1 hx).1
        obtain ⟨x', hx', hfx⟩ := q2 j _ (List.getElem?_eq_getElem hj)
        rw [hx] at hx'
        obtain rfl := Option.some.inj hx'
        obtain ⟨v, e1, e2, e3⟩ := r2 j _ (List.getElem?_eq_getElem hj)
        exact ⟨v, e1, e2, finC_sound h hy v _ x hfx e3⟩
    · rename_i es hlk
      simp only [Option.map_eq_some_iff] at hb
      obtain ⟨es', hes, rfl⟩ := hb
      obtain ⟨p1, p2⟩ := mapO_some hes
      rcases h.blk _ _ hlk with ⟨g1, _⟩ | ⟨l, xs, ck, ds, hds, g1, g2, g3, g4, g5⟩ | ⟨_, _, _, _, _, _, _, _, _, hbad⟩
      · refine .inl ⟨?_, by rw [hout]; assumption⟩
        have hk := keys_mapO hes
        simp only [Blk.n, nilBuf, hk] at g1 ⊢
        exact g1
      · obtain rfl : es = ds := by injection hds
        refine .inr (.inl ⟨l, xs, ck, es', rfl, by rw [hout]; exact g1, g2.ofO rfl hes (fun q hq y hy v hv => finA_buf hy hv), g3, g4, by rw [g5.1, p1], fun j e p he hp => ?_⟩)
        have hj : j < es.length := by rw [← p1]; exact (List.getElem?_eq_some_iff.1 hp).1
        obtain ⟨y, hy', hfy⟩ := p2 j _ (List.getElem?_eq_getElem hj)
        rw [hp] at hy'
        obtain rfl := Option.some.inj hy'
        simp only [Option.map_eq_some_iff] at hfy
        obtain ⟨u, hu, rfl⟩ := hfy
        obtain ⟨q1, q2, q3⟩ := g5.2 j e _ he (List.getElem?_eq_getElem hj)
        exact ⟨q1, q2.flat q1, finA_sound h hy _ _ u hu q3⟩
      · simp [Blk.entries] at hbad
    · cases hb
  · obtain ⟨b, hb, h3⟩ := outs_some h1
    obtain ⟨b', hb', h4⟩ := outs_some h2
    obtain rfl := h.inj b b' l l' h3 h4 he
    have hi := (List.getElem?_eq_some_iff.1 hb).1
    exact (List.getElem?_inj hi hbs).1 (hb.trans hb'.symm)
  · obtain ⟨b, hb, h3⟩ := outs_some hi
    obtain ⟨o1, o2, o3, o4⟩ := h.own b l h3
    refine ⟨by rw [m1]; exact (List.getElem?_eq_some_iff.1 hb).1, ?_, o3.imp id (fun hx => ?_), o4⟩
    · rintro (hF | ⟨b', l', hl', he⟩)
      · exact o2 hF
      · obtain ⟨h5, h6⟩ := wo_some hl'
        obtain rfl := h.inj b' b l' l h6 h3 he
        have : b' ∈ bs := List.mem_of_getElem? hb
        simp [this] at h5
    · have := (List.getElem?_inj (List.getElem?_eq_some_iff.1 hb).1 hbs).1 (hb.trans (hX b _ hx).symm)
      rw [this]
      exact hx
  · rcases hb with hb | ⟨i, l, hl, rfl⟩
    · exact h.fro b hb
    · exact (h.own i l (wo_some hl).2).2.2.2

def rvGet (tmps : Array Value) (rv : ResultVar) : Sem Value := match rv with
  | .tmp t => pure (tmps.getD t undef)
  | .cell b t => do loadVar t (← asAddr (tmps.getD b undef))

theorem results_eq (fn : Func) (tmps : Array Value) : results fn tmps = (do
    let vs ← fn.results.mapM (rvGet tmps)
    pure (if h : vs.size = 1 then vs[0] else .tuple vs)) := by
  unfold results
  congr 1

theorem results_sound {K : Cx} {n m0 : Nat} {σ0 : Nat → Option Loc} {w0 : World} {F0 : Nat → Prop} {s : S} {a : Act} (h : StRel K X base w0 F0 m0 σ0 n s a w F σ) {fn : Func} {es : List E} {vs : List V} (he : mapO (resE P) fn.results.toList = some es) (hv : mapO (ev K s) es = some vs) :
    ∃ v, (results fn a.tmps).run P w = .ok v w ∧ RepV w F base σ v (oneOr vs) := by
  have one : ∀ (rv : ResultVar) (e : E) (x : V), resE P rv = some e → ev K s e = some x → ∃ v, (rvGet a.tmps rv).run P w = .ok v w ∧ RepV w F base σ v x := by
    intro rv e x he hx
    cases rv with
    | tmp t =>
      simp only [resE, Option.some.injEq] at he
      subst he
      simp only [ev] at hx
      exact ⟨_, rfl, h.rho t x hx⟩
    | cell b t =>
      simp only [resE] at he
      cases hi : P.info? t with
      | none => simp [hi] at he
      | some i =>
        cases hd : P.underlying t with
        | none => simp [hi, hd] at he
        | some d =>
          simp only [hi, hd, Option.some.injEq] at he
          subst he
          simp only [ev] at hx
          cases hp : look s.rho b with
          | none => simp [hp] at hx
          | some p =>
            simp only [hp] at hx
            rw [evLd_eq] at hx
            cases hc : cellsAt s.heap p with
            | none => simp [hc] at hx
            | some xs =>
              simp only [hc, Option.bind_some] at hx
              obtain ⟨ba, of, hva, hcell⟩ := cellsAt_sound h.heap hc (h.rho b p hp)
              obtain ⟨v, h1, h2⟩ := loadVar_sound (P := P) hd hi hcell hx
              exact ⟨v, by simp [rvGet, hva, asAddr, h1], h2⟩
  have many : ∀ (l : List ResultVar) (es : List E) (vs : List V), mapO (resE P) l = some es → mapO (ev K s) es = some vs → ∃ us : List Value, (l.mapM (rvGet a.tmps)).run P w = .ok us w ∧ us.length = vs.length ∧ ∀ (j : Nat) (v : Value) (x : V), us[j]? = some v → vs[j]? = some x → RepV w F base σ v x := by
    intro l
    induction l with
    | nil =>
      intro es vs he hv
      simp only [mapO, Option.some.injEq] at he
      subst he
      simp only [mapO, Option.some.injEq] at hv
      subst hv
      exact ⟨[], by simp, rfl, fun j v x h => by simp at h⟩
    | cons rv l ih =>
      intro es vs he hv
      simp only [mapO] at he
      cases hr : resE P rv with
      | none => simp [hr] at he
      | some e =>
        cases hl : mapO (resE P) l with
        | none => simp [hr, hl] at he
        | some es' =>
          simp only [hr, hl, Option.some.injEq] at he
          subst he
          simp only [mapO] at hv
          cases hx : ev K s e with
          | none => simp [hx] at hv
          | some x =>
            cases hxs : mapO (ev K s) es' with
            | none => simp [hx, hxs] at hv
            | some xs =>
              simp only [hx, hxs, Option.some.injEq] at hv
              subst hv
              obtain ⟨v, h1, h2⟩ := one rv e x hr hx
              obtain ⟨us, h3, h4, h5⟩ := ih es' xs hl hxs
              refine ⟨v :: us, ?_, by simp [h4], fun j u y hu hy => ?_⟩
              · rw [List.mapM_cons, Sem.run_bind, h1]
                show Sem.run P (do let a ← List.mapM _ l; pure (v :: a)) w = _
                rw [Sem.run_bind, h3]
                rfl
              · cases j with
                | zero => simp only [List.getElem?_cons_zero, Option.some.injEq] at hu hy; subst hu; subst hy; exact h2
                | succ j => exact h5 j u y (by simpa using hu) (by simpa using hy)
  obtain ⟨us, h1, h2, h3⟩ := many _ es vs he hv
  refine ⟨if h : us.length = 1 then us[0] else .tuple us.toArray, ?_, ?_⟩
  · rw [results_eq, Sem.run_bind]
    rw [Array.mapM_eq_mapM_toList, ← bind_pure_comp, Sem.run_bind, h1]
    show Sem.run P (pure (if h : us.toArray.size = 1 then us.toArray[0] else .tuple us.toArray)) w = _
    by_cases hu : us.length = 1
    · rw [dif_pos hu, dif_pos (by simpa using hu)]; rfl
    · rw [dif_neg hu, dif_neg (by simpa using hu)]; rfl
  · match us, vs, h2, h3 with
    | [], [], _, h3 => exact .tup _ _ rfl fun j v x hv hx => h3 j v x (by simp at hv) hx
    | [u], [x], _, h3 => exact h3 0 u x rfl rfl
    | u1 :: u2 :: us, x1 :: x2 :: xs, h2, h3 =>
      simp only [List.length_cons, Nat.reduceEqDiff, oneOr]
      rw [dif_neg (by simp)]
      exact .tup _ _ (by simpa using h2) fun j v x hv hx => h3 j v x (by simpa using hv) hx

theorem look_args (l : List V) : ∀ (k t : Nat) (v : V), look ((l.zipIdx k).map fun (v, i) => (i, v)) t = some v → k ≤ t ∧ l[t - k]? = some v := by
  induction l with
  | nil => intro k t v h; simp [look] at h
  | cons x l ih =>
    intro k t v h
    simp only [List.zipIdx_cons, List.map_cons, look] at h
    split at h
    · rename_i he
      subst he
      exact ⟨Nat.le_refl _, by simpa using h⟩
    · obtain ⟨h1, h2⟩ := ih (k + 1) t v h
      refine ⟨by omega, ?_⟩
      have : t - k = (t - (k + 1)) + 1 := by omega
      rw [this, List.getElem?_cons_succ]
      exact h2

theorem run_sound (hm : P.follows .mixedOrders = true) {K : Cx} (hK : K.Sound P) {f : FuncId} {g : Fun} {args : List V} {blks : List Blk} {r : V} {news : List Blk} {mv : List Nat} (hok : funOk P f blks.length args.length g = true) (hr : runFun K g args blks = some (r, news, mv))
    {w : World} {F : Nat → Prop} {σ : Nat → Option Loc} {vals : Array Value} (hG : GlobRel w F K.glob) (hH : HeapRel w F (OwnB σ) w.heap.size σ blks.length (indexed blks)) (hargs : Reps w F w.heap.size σ vals args) :
    callable P f = true ∧ Calls P f vals w fun e w' => ∃ v F' σ', e = .returned v ∧ Frame (OwnB σ) w.heap.size w w' ∧ (∀ b, F b → F' b) ∧ (∀ b, F' b → F b ∨ w.heap.size ≤ b) ∧
      RepV w' F' w.heap.size σ' v r ∧ HeapRel w' F' (OwnB σ) w.heap.size σ' news.length (indexed news) ∧ ∀ i l, i < blks.length → σ i = some l → i ∉ mv → σ' i = some l := by
  unfold funOk at hok
  cases hf : P.funcs[f]? with
  | none => simp [hf] at hok
  | some fn =>
    cases hb : fn.body with
    | none => simp [hf, hb] at hok
    | some code =>
      simp only [hf, hb, Bool.and_eq_true, decide_eq_true_eq] at hok
      obtain ⟨⟨⟨hc, hres⟩, hn⟩, hname⟩ := hok
      refine ⟨by simp [callable, hf, hb, hname], ?_⟩
      refine calls_of_wp hf hb ?_
      have hst : StRel K (OwnB σ) w.heap.size w F blks.length σ fn.ntmps (startS args blks) { tmps := vals ++ Array.replicate (fn.ntmps - vals.size) undef, defers := [] } w F σ := by
        refine ⟨hH, hG, Nat.le_refl _, .refl _ _ _, fun b hb => .inl hb, ?_, rfl, fun t v hv => ?_, fun b blk h => ?_, fun _ _ _ h _ => h, Nat.le_refl _, fun b k hx => ?_, fun _ h => h⟩
        · have := hargs.1
          simp; omega
        · obtain ⟨_, hv'⟩ := look_args args 0 t v hv
          rw [Nat.sub_zero] at hv'
          have ht : t < vals.size := by rw [hargs.1]; exact (List.getElem?_eq_some_iff.1 hv').1
          have hget : (vals ++ Array.replicate (fn.ntmps - vals.size) undef).getD t undef = vals[t] := by
            rw [Array.getD_eq_getD_getElem?, Array.getElem?_append_left ht]
            simp [ht]
          show RepV w F w.heap.size σ ((vals ++ Array.replicate (fn.ntmps - vals.size) undef).getD t undef) v
          rw [hget]
          exact hargs.2 t _ v (by simp [ht]) hv'
        · have : (indexed blks).length = blks.length := by simp [indexed]
          simp only [startS] at h ⊢
          rw [look_indexed] at h
          exact (List.getElem?_eq_some_iff.1 h).1
        · obtain ⟨l, hl, _⟩ := hx
          exact (hH.own b l hl).1
      have fin : ∀ (s : S) (a : Act) (w' : World) (F' : Nat → Prop) (σ' : Nat → Option Loc) (vs : List V), StRel K (OwnB σ) w.heap.size w F blks.length σ fn.ntmps s a w' F' σ' → mapO (ev K s) g.res = some vs → finish blks.length g.own s (oneOr vs) = some (r, news, mv) →
          a.defers = [] ∧ ∃ v, (results fn a.tmps).run P w' = .ok v w' ∧ ∃ v' F' σ', Ending.returned v = .returned v' ∧ Frame (OwnB σ) w.heap.size w w' ∧ (∀ b, F b → F' b) ∧ (∀ b, F' b → F b ∨ w.heap.size ≤ b) ∧
            RepV w' F' w.heap.size σ' v' r ∧ HeapRel w' F' (OwnB σ) w.heap.size σ' news.length (indexed news) ∧ ∀ i l, i < blks.length → σ i = some l → i ∉ mv → σ' i = some l := by
        intro s a w' F' σ' vs hs hvs hfin
        obtain ⟨v, h1, h2⟩ := results_sound hs hres hvs
        unfold finish at hfin
        simp only at hfin
        generalize (if g.own = true then reachB s.heap 64 [] (List.range blks.length ++ (oneOr vs).refs) else List.range blks.length) = bs at hfin
        split at hfin
        case isFalse => cases hfin
        rename_i hc2
        simp only [Bool.and_eq_true, decide_eq_true_eq] at hc2
        obtain ⟨hnd, hpre⟩ := hc2
        cases h3 : finV (blks.length == 0) bs s.heap (oneOr vs) with
        | none => simp [h3] at hfin
        | some r' =>
          cases h4 : mapO (finB (blks.length == 0) bs s.heap) bs with
          | none => simp [h3, h4] at hfin
          | some news' =>
            simp only [h3, h4, Option.some.injEq, Prod.mk.injEq] at hfin
            obtain ⟨rfl, rfl, rfl⟩ := hfin
            have hpin : ∀ b, b < blks.length → bs[b]? = some b := fun b hb' => by
              have : (bs.take blks.length)[b]? = some b := by rw [hpre]; simp [hb']
              simpa [List.getElem?_take, hb'] using this
            have hX : ∀ b k, OwnB σ b k → bs[b]? = some b := fun b k hx => hpin b (hs.xm b k hx)
            have hy : Young (OwnB σ) w.heap.size bs σ' := by
              intro i l hl
              obtain ⟨hni, hl'⟩ := wo_some hl
              rcases (hs.heap.own i l hl').2.2.1 with h | h
              · exact h
              · have := List.mem_of_getElem? (hX i _ h)
                simp [this] at hni
            refine ⟨hs.dfr, v, h1, v, FZ F' bs σ', outs bs σ', rfl, hs.frame, fun b hb' => .inl (hs.sub b hb'), fun b hb' => ?_, finV_sound hs.heap hy h3 h2, finB_heap hs.heap hy hnd hX h4, fun i l hi hl hm' => ?_⟩
            · rcases hb' with hb' | ⟨i, l, hl, rfl⟩
              · exact hs.frz b hb'
              · exact .inr (hy i l hl)
            · unfold outs
              rw [hpin i hi]
              exact hs.stab i l hi hl hm'
      unfold runFun at hr
      cases hex : exec K g.body (startS args blks) with
      | none => simp [hex] at hr
      | some p =>
        obtain ⟨ex, s⟩ := p
        refine wp_mono (exec_sound hm hK g.body code _ _ _ _ _ _ hc hex hst) fun e a w' hp => ?_
        obtain ⟨rfl, F', σ', hs⟩ := hp
        cases ex with
        | nrm =>
          simp only [hex] at hr
          cases hvs : mapO (ev K s) g.res with
          | none => simp [hvs] at hr
          | some vs =>
            simp only [hvs] at hr
            exact fin s a w' F' σ' vs hs hvs hr
        | ret =>
          simp only [hex] at hr
          cases hvs : mapO (ev K s) g.res with
          | none => simp [hvs] at hr
          | some vs =>
            simp only [hvs] at hr
            exact fin s a w' F' σ' vs hs hvs hr
        | exit id => simp [hex] at hr
        | goto l => simp [hex] at hr

theorem pure_sound (hm : P.follows .mixedOrders = true) {K : Cx} (hK : K.Sound P) {f : FuncId} {g : Fun} {args : List V} {r : V} {news : List Blk} {mv : List Nat} (hok : funOk P f 0 args.length g = true) (hr : runFun K g args [] = some (r, news, mv)) :
    callable P f = true ∧ PureCall P K.glob f args r news := by
  have hcal : callable P f = true := by
    unfold funOk at hok
    cases hf : P.funcs[f]? with
    | none => simp [hf] at hok
    | some fn =>
      cases hb : fn.body with
      | none => simp [hf, hb] at hok
      | some code =>
        simp only [hf, hb, Bool.and_eq_true] at hok
        simp [callable, hf, hb, hok.2]
  refine ⟨hcal, fun w F vals hF hG hargs => ?_⟩
  have hX : ∀ b k, ¬ OwnB (fun _ => none) b k := by rintro b k ⟨l, h, _⟩; cases h
  have hH : HeapRel w F (OwnB fun _ => none) w.heap.size (fun _ => none) ([] : List Blk).length (indexed []) := ⟨fun b blk h => by simp [indexed, look] at h, fun b b' l l' h => (by cases h), fun b l h => (by cases h), hF⟩
  obtain ⟨_, h⟩ := run_sound hm hK hok hr hG hH hargs
  refine h.mono fun e w' ⟨v, F', σ', he, hfr, _, hF', hR, hHr, _⟩ => ⟨v, F', σ', he, ⟨hfr.os, hfr.tape, hfr.output, hfr.size, fun k hk => hfr.block k hk (fun b => hX b k)⟩, hF', hR, ⟨hHr.blk, hHr.inj, fun b l hb => ?_, hHr.fro⟩⟩
  obtain ⟨o1, o2, o3, o4⟩ := hHr.own b l hb
  exact ⟨o1, o2, o3.imp id (fun hx => hX b _ hx), o4⟩

end Go.Vm
end

section
namespace Go.Vm

theorem iter_more {f : S → Option (Ex × S)} : ∀ {n : Nat} {s : S} {r : Ex × S}, iter f n s = some r → ∀ m, n ≤ m → iter f m s = some r
  | 0, s, r, h, m, _ => by simp [iter] at h
  | n + 1, s, r, h, 0, hm => by omega
  | n + 1, s, r, h, m + 1, hm => by
    simp only [iter] at h ⊢
    cases hf : f s with
    | none => simp [hf] at h
    | some p =>
      obtain ⟨e, s'⟩ := p
      cases e with
      | nrm => simp only [hf] at h ⊢; exact iter_more h m (by omega)
      | exit id => simpa [hf] using h
      | goto l => simpa [hf] using h
      | ret => simpa [hf] using h

theorem loopF_of {f : S → Option (Ex × S)} {n : Nat} {s : S} {r : Ex × S} (h : iter f n s = some r) : loopF f s = some r := by
  have hex : ∃ n, (iter f n s).isSome := ⟨n, by rw [h]; rfl⟩
  unfold loopF
  rw [dif_pos hex]
  have hc := hex.choose_spec
  obtain ⟨r', hr'⟩ := Option.isSome_iff_exists.1 hc
  have h1 := iter_more h (n + hex.choose) (by omega)
  have h2 := iter_more hr' (n + hex.choose) (by omega)
  rw [hr', ← h2, h1]

theorem jumps_more {f : Nat → Option (S → Option (Ex × S))} : ∀ {n : Nat} {q : Option (Ex × S)} {r : Ex × S}, jumps f n q = some r → ∀ m, n ≤ m → jumps f m q = some r
  | 0, q, r, h, m, _ => by simp [jumps] at h
  | n + 1, q, r, h, 0, hm => by omega
  | n + 1, q, r, h, m + 1, hm => by
    simp only [jumps] at h ⊢
    cases q with
    | none => simp at h
    | some p =>
      obtain ⟨e, s'⟩ := p
      cases e with
      | goto l =>
        simp only at h ⊢
        cases hl : f l with
        | none => simp [hl] at h
        | some g => simp only [hl] at h ⊢; exact jumps_more h m (by omega)
      | nrm => simpa using h
      | exit id => simpa using h
      | ret => simpa using h

theorem scopeF_of {f : Nat → Option (S → Option (Ex × S))} {n : Nat} {q : Option (Ex × S)} {r : Ex × S} (h : jumps f n q = some r) : scopeF f q = some r := by
  have hex : ∃ n, (jumps f n q).isSome := ⟨n, by rw [h]; rfl⟩
  unfold scopeF
  rw [dif_pos hex]
  have hc := hex.choose_spec
  obtain ⟨r', hr'⟩ := Option.isSome_iff_exists.1 hc
  have h1 := jumps_more h (n + hex.choose) (by omega)
  have h2 := jumps_more hr' (n + hex.choose) (by omega)
  rw [hr', ← h2, h1]

end Go.Vm
end

section
namespace Go.Vm
open Go.RowKit Go.Deep

variable {H : Type} {enc : TypeId × Value → H} {P : Program} {w : World} {spare : Nat → Bool} {held : Bool}

def TypedF (P : Program) (T : TypeId → List D → Prop) : List Field → List D → Prop
  | [], ds => ds = []
  | f :: fs, ds => ∃ a b, ds = a ++ b ∧ a.length = P.cellsOf f.type ∧ T f.type a ∧ TypedF P T fs b
def Typed (P : Program) : Nat → TypeId → List D → Prop
  | 0, _, _ => False
  | n + 1, t, ds => match P.underlying t with
    | some .bool => ∃ b, ds = [.bool b]
    | some (.int k) => ∃ m, ds = [.int k m] ∧ (Lit.int k m).wf = true
    | some .string => ∃ s, ds = [.str s] ∧ s.length ≤ maxLen
    | some (.slice e) => ∃ rows : List (List D), ds = [.sl (P.cellsOf e) rows] ∧ rows.length ≤ maxLen ∧ ∀ r ∈ rows, r.length = P.cellsOf e ∧ Typed P n e r
    | some (.struct fs) => TypedF P (Typed P n) fs.toList ds
    | _ => False

def There (w : World) (b : Nat) : Prop := b < w.heap.size

def RepL (w : World) (cs : List Value) (ds : List D) : Prop := ds.length = cs.length ∧ ∀ (j : Nat) (v : Value) (d : D), cs[j]? = some v → ds[j]? = some d → RepD w (There w) v d

theorem RepL.append {a b : List Value} {x y : List D} (h1 : RepL w a x) (h2 : RepL w b y) : RepL w (a ++ b) (x ++ y) := by
  refine ⟨by simp [h1.1, h2.1], fun j v d hv hd => ?_⟩
  by_cases hj : j < a.length
  · rw [List.getElem?_append_left hj] at hv
    rw [List.getElem?_append_left (by rw [h1.1]; exact hj)] at hd
    exact h1.2 j v d hv hd
  · rw [List.getElem?_append_right (by omega)] at hv
    rw [List.getElem?_append_right (by rw [h1.1]; omega), h1.1] at hd
    exact h2.2 _ v d hv hd

theorem RepL.one {v : Value} {d : D} (h : RepD w (There w) v d) : RepL w [v] [d] := by
  refine ⟨rfl, fun j u x hu hx => ?_⟩
  cases j with
  | zero => simp at hu hx; subst hu; subst hx; exact h
  | succ j => simp at hu

end Go.Vm
end

section
namespace Go.Vm
open Go.RowKit Go.Deep

variable {H : Type} {enc : TypeId × Value → H} {P : Program} {w : World} {spare : Nat → Bool} {held : Bool}

def argV (agg : Bool) (ds : List D) : V := if agg then .agg (ds.map (.d false)) else match ds with
  | [d] => .d false d
  | _ => .junk

theorem single {v : Value} {d : D} {base : Nat} (hag : ∀ cs, v ≠ .agg cs) (h : RepL w v.cells.toList [d]) : RepV w (There w) base (fun _ => none) v (argV false [d]) := by
  have hc : v.cells = #[v] := by
    cases v with
    | agg cs => exact absurd rfl (hag cs)
    | _ => rfl
  rw [hc] at h
  exact .d _ _ _ (h.2 0 v d rfl rfl)

end Go.Vm
end

section
namespace Go.Vm

def thn (x : Option (Ex × S)) (f : S → Option (Ex × S)) : Option (Ex × S) := match x with
  | some (.nrm, s) => f s
  | r => r
theorem thn_nrm (s : S) (f) : thn (some (.nrm, s)) f = f s := rfl
theorem thn_ret (s : S) (f) : thn (some (.ret, s)) f = some (.ret, s) := rfl
theorem thn_exit (n : Nat) (s : S) (f) : thn (some (.exit n, s)) f = some (.exit n, s) := rfl
theorem thn_goto (n : Nat) (s : S) (f) : thn (some (.goto n, s)) f = some (.goto n, s) := rfl
def brn (x : Option V) (f g : S → Option (Ex × S)) (s : S) : Option (Ex × S) := match x with
  | some (.d _ (.bool b)) => if b then f s else g s
  | _ => none
theorem brn_true (c) (f g) (s : S) : brn (some (.d c (.bool true))) f g s = f s := rfl
theorem brn_false (c) (f g) (s : S) : brn (some (.d c (.bool false))) f g s = g s := rfl
def blk (id : Nat) (x : Option (Ex × S)) : Option (Ex × S) := match x with
  | some (.exit i, s') => if i = id then some (.nrm, s') else some (.exit i, s')
  | r => r
theorem blk_nrm (id) (s : S) : blk id (some (.nrm, s)) = some (.nrm, s) := rfl
theorem blk_ret (id) (s : S) : blk id (some (.ret, s)) = some (.ret, s) := rfl
theorem blk_goto (id n) (s : S) : blk id (some (.goto n, s)) = some (.goto n, s) := rfl
theorem blk_exit (id i) (s : S) : blk id (some (.exit i, s)) = if i = id then some (.nrm, s) else some (.exit i, s) := rfl
def nrm (x : Option S) : Option (Ex × S) := x.map fun s => (.nrm, s)
theorem nrm_some (s : S) : nrm (some s) = some (.nrm, s) := rfl

theorem exec_skip (K s) : exec K .skip s = some (.nrm, s) := rfl
theorem exec_reg (K l s) : exec K (.reg l) s = nrm (evSegs K s l) := by
  simp only [exec, nrm]; cases evSegs K s l <;> rfl
theorem exec_seq (K a b s) : exec K (.seq a b) s = thn (exec K a s) (exec K b) := by
  simp only [exec, thn]; cases exec K a s with
  | none => rfl
  | some p => obtain ⟨e, s'⟩ := p; cases e <;> rfl
theorem exec_cond (K e a b s) : exec K (.cond e a b) s = brn (ev K s e) (exec K a) (exec K b) s := by
  simp only [exec, brn]
  rcases ev K s e with _ | v
  · rfl
  · cases v with
    | d c x => cases x <;> rfl
    | _ => rfl
theorem exec_block (K id c s) : exec K (.block id c) s = blk id (exec K c s) := by
  simp only [exec, blk]
  rcases exec K c s with _ | ⟨e, s'⟩
  · rfl
  · cases e <;> rfl
theorem exec_exit (K id s) : exec K (.exit id) s = some (.exit id, s) := rfl
theorem exec_label (K l s) : exec K (.label l) s = some (.nrm, s) := rfl
theorem exec_goto (K l s) : exec K (.goto l) s = some (.goto l, s) := rfl
theorem exec_ret (K s) : exec K .ret s = some (.ret, s) := rfl
theorem exec_tidy (K m l s) : exec K (.tidy m l) s = nrm (tidyS m l s) := by
  simp only [exec, nrm]; cases tidyS m l s <;> rfl
theorem exec_own (K t k s) : exec K (.own t k) s = match look s.rho t with
    | some (.fs _ k' []) => if k' = k then some (.nrm, ⟨put s.rho t (.bsl s.nx 0 0), (s.nx, .dat true k []) :: s.heap, s.nx + 1, s.mv⟩) else none
    | _ => none := rfl

def o1 {α β : Type} (f : α → Option β) (x : Option α) : Option β := x.bind f
theorem o1_some {α β : Type} (f : α → Option β) (a : α) : o1 f (some a) = f a := rfl
def o2 {α β γ : Type} (f : α → β → Option γ) (x : Option α) (y : Option β) : Option γ := x.bind fun a => y.bind fun b => f a b
theorem o2_some {α β γ : Type} (f : α → β → Option γ) (a : α) (b : β) : o2 f (some a) (some b) = f a b := rfl
def o4 (f : V → V → V → V → Option V) (x y z w : Option V) : Option V := x.bind fun a => y.bind fun b => z.bind fun c => w.bind fun d => f a b c d
theorem o4_some (f : V → V → V → V → Option V) (a b c d : V) : o4 f (some a) (some b) (some c) (some d) = f a b c d := rfl

noncomputable def segs (K : Cx) (r : List Seg) (s : S) : Option S := evSegs K s r
theorem segs_nil (K s) : segs K [] s = some s := rfl
theorem evSegs_cons (K s g r) : evSegs K s (g :: r) = o1 (segs K r) (evSeg K s g) := by
  simp only [evSegs, o1, segs]; cases evSeg K s g <;> rfl
theorem segs_cons (K s g r) : segs K (g :: r) s = o1 (segs K r) (evSeg K s g) := evSegs_cons K s g r

def segL (K : Cx) (s : S) (g : Seg) (p : S × List Blk) : Option S :=
  match evLets K p.1 g.lets with
    | some l => if evChk K p.1 g.chk then match g.wr with
        | none => some ⟨l ++ restrict p.1.rho g.keep, addBlks s.heap s.nx p.2, p.1.nx, s.mv⟩
        | some (d, wr) => match wonB K p.1 g.wg with
          | some true => match evWr K p.1 (addBlks s.heap s.nx p.2) wr with
            | some (H, v, q, nx) => match d with
              | some d => some ⟨(d, v) :: lose q (l ++ restrict p.1.rho g.keep), loseH q H, nx, q.ids ++ s.mv⟩
              | none => some ⟨lose q (l ++ restrict p.1.rho g.keep), loseH q H, nx, q.ids ++ s.mv⟩
            | none => none
          | some false => some ⟨l ++ restrict p.1.rho g.keep, addBlks s.heap s.nx p.2, p.1.nx, s.mv⟩
          | none => none
      else none
    | none => none

def segW (K : Cx) (s s1 : S) (news : List Blk) (keep : List Nat) (wr : Option (Option Nat × Wr)) (won : Option Bool) (chk : Bool) (l : Option (List (Nat × V))) : Option S :=
  match l with
  | some l => if chk then match wr with
      | none => some ⟨l ++ restrict s1.rho keep, addBlks s.heap s.nx news, s1.nx, s.mv⟩
      | some (d, wr) => match won with
        | some true => match evWr K s1 (addBlks s.heap s.nx news) wr with
          | some (H, v, q, nx) => match d with
            | some d => some ⟨(d, v) :: lose q (l ++ restrict s1.rho keep), loseH q H, nx, q.ids ++ s.mv⟩
            | none => some ⟨lose q (l ++ restrict s1.rho keep), loseH q H, nx, q.ids ++ s.mv⟩
          | none => none
        | some false => some ⟨l ++ restrict s1.rho keep, addBlks s.heap s.nx news, s1.nx, s.mv⟩
        | none => none
    else none
  | none => none

theorem evSeg_eq (K s mks lets chk wr keep cnt aux wg) : evSeg K s ⟨mks, lets, chk, wr, keep, cnt, aux, wg, []⟩ = o1 (segL K s ⟨[], lets, chk, wr, keep, cnt, [], wg, []⟩) (evMks K s mks) := by
  have h : lateOk K s ⟨mks, lets, chk, wr, keep, cnt, aux, wg, []⟩ := fun e he => by simp at he
  rw [evSeg, if_pos h]
  simp only [evSeg0, o1, segL]; cases evMks K s mks <;> rfl
theorem segL_eq (K s mks lets chk wr keep cnt aux wg late s1 news) : segL K s ⟨mks, lets, chk, wr, keep, cnt, aux, wg, late⟩ (s1, news) = segW K s s1 news keep wr (wonB K s1 wg) (evChk K s1 chk) (evLets K s1 lets) := by
  simp only [segL, segW]
def segO (s : S) (d : Option Nat) (ρ : List (Nat × V)) (x : Option (List (Nat × Blk) × V × Lost × Nat)) : Option S := match x with
  | some (H, v, q, nx) => match d with
    | some d => some ⟨(d, v) :: lose q ρ, loseH q H, nx, q.ids ++ s.mv⟩
    | none => some ⟨lose q ρ, loseH q H, nx, q.ids ++ s.mv⟩
  | none => none
theorem segO_some (s d ρ H v q nx) : segO s (some d) ρ (some (H, v, q, nx)) = some ⟨(d, v) :: lose q ρ, loseH q H, nx, q.ids ++ s.mv⟩ := rfl
theorem segO_none (s ρ H v q nx) : segO s none ρ (some (H, v, q, nx)) = some ⟨lose q ρ, loseH q H, nx, q.ids ++ s.mv⟩ := rfl
theorem segW_none (K s s1 news keep won l) : segW K s s1 news keep none won true (some l) = some ⟨l ++ restrict s1.rho keep, addBlks s.heap s.nx news, s1.nx, s.mv⟩ := rfl
theorem segW_some (K s s1 news keep d wr l) : segW K s s1 news keep (some (d, wr)) (some true) true (some l) = segO s d (l ++ restrict s1.rho keep) (evWr K s1 (addBlks s.heap s.nx news) wr) := by
  simp only [segW, segO, if_true]
theorem segW_off (K s s1 news keep d wr l) : segW K s s1 news keep (some (d, wr)) (some false) true (some l) = some ⟨l ++ restrict s1.rho keep, addBlks s.heap s.nx news, s1.nx, s.mv⟩ := rfl

theorem evMks_nil (K s) : evMks K s [] = some (s, []) := rfl
def mksA (K : Cx) (s : S) (d : Nat) (r : List (Nat × Mk)) (p : V × List Blk) : Option (S × List Blk) :=
  match evMks K ⟨put s.rho d p.1, s.heap, s.nx + p.2.length, s.mv⟩ r with
  | some (s', more) => some (s', p.2 ++ more)
  | none => none
def mksB (news : List Blk) (p : S × List Blk) : Option (S × List Blk) := some (p.1, news ++ p.2)
theorem mksB_eq (news s' more) : mksB news (s', more) = some (s', news ++ more) := rfl
theorem evMks_cons (K s d m r) : evMks K s ((d, m) :: r) = o1 (mksA K s d r) (evMk K s m) := by
  simp only [evMks, o1, mksA]; cases evMk K s m <;> rfl
theorem mksA_eq (K s d r v news) : mksA K s d r (v, news) = o1 (mksB news) (evMks K ⟨put s.rho d v, s.heap, s.nx + news.length, s.mv⟩ r) := by
  simp only [mksA, o1]; cases evMks K ⟨put s.rho d v, s.heap, s.nx + news.length, s.mv⟩ r <;> rfl

theorem evLets_nil (K s) : evLets K s [] = some [] := rfl
def letC (d : Nat) (v : V) (l : List (Nat × V)) : Option (List (Nat × V)) := some ((d, v) :: l)
theorem letC_eq (d v l) : letC d v l = some ((d, v) :: l) := rfl
theorem evLets_cons (K s d e r) : evLets K s ((d, e) :: r) = o2 (letC d) (ev K s e) (evLets K s r) := by
  simp only [evLets, o2, letC]; cases ev K s e <;> cases evLets K s r <;> rfl
theorem evChk_nil (K s) : evChk K s [] = true := rfl
theorem evChk_cons (K s e r) : evChk K s (e :: r) = ((ev K s e).isSome && evChk K s r) := rfl
theorem wonB_nil (K s) : wonB K s [] = some true := rfl

theorem e_sl (K s t) : ev K s (.sl t) = look s.rho t := rfl
theorem e_int (K s k n) : ev K s (.int k n) = some (.int k n) := rfl
theorem e_bool (K s b) : ev K s (.bool b) = some (.bool b) := rfl
theorem e_str (K s l) : ev K s (.str l) = some (.str l) := rfl
theorem e_nilsl (K s k) : ev K s (.nilsl k) = some (.fs true k []) := rfl
theorem e_nilif (K s) : ev K s .nilif = some (.d false .nilif) := rfl
theorem e_un (K s o a) : ev K s (.un o a) = o1 (evUn o) (ev K s a) := by
  simp only [ev, o1]; cases ev K s a <;> rfl
theorem e_bin (K s o a b) : ev K s (.bin o a b) = o2 (evBin o) (ev K s a) (ev K s b) := by
  simp only [ev, o2]; cases ev K s a <;> cases ev K s b <;> rfl
theorem e_eqs (K s n g ks a b) : ev K s (.eqs n g ks a b) = o2 (evEqs n g ks) (ev K s a) (ev K s b) := by
  simp only [ev, o2]; cases ev K s a <;> cases ev K s b <;> rfl
def andV (x y : Option V) : Option V := match x, y with
  | some (.d _ (.bool x)), some (.d _ (.bool y)) => some (.bool (x && y))
  | some (.d _ (.bool false)), _ => some (.bool false)
  | _, _ => none
theorem andV_some (c c' x y) : andV (some (.d c (.bool x))) (some (.d c' (.bool y))) = some (.bool (x && y)) := by cases x <;> rfl
theorem andV_false (c y) : andV (some (.d c (.bool false))) y = some (.bool false) := by
  unfold andV; split <;> simp_all
theorem e_and (K s a b) : ev K s (.and a b) = andV (ev K s a) (ev K s b) := rfl
def orV (x y : Option V) : Option V := match x, y with
  | some (.d _ (.bool x)), some (.d _ (.bool y)) => some (.bool (x || y))
  | some (.d _ (.bool true)), _ => some (.bool true)
  | _, _ => none
theorem orV_some (c c' x y) : orV (some (.d c (.bool x))) (some (.d c' (.bool y))) = some (.bool (x || y)) := by cases x <;> rfl
theorem orV_true (c y) : orV (some (.d c (.bool true))) y = some (.bool true) := by
  unfold orV; split <;> simp_all
theorem e_or (K s a b) : ev K s (.or a b) = orV (ev K s a) (ev K s b) := rfl
def condV (x a b : Option V) : Option V := match x with
  | some (.d _ (.bool x)) => if x then a else b
  | _ => none
theorem condV_some (c x a b) : condV (some (.d c (.bool x))) a b = if x then a else b := rfl
theorem e_cond (K s c a b) : ev K s (.cond c a b) = condV (ev K s c) (ev K s a) (ev K s b) := rfl
theorem e_fa (K s o a) : ev K s (.fa o a) = o1 (evFa o) (ev K s a) := by
  simp only [ev, o1]; cases ev K s a <;> rfl
theorem e_ia (K s k a b) : ev K s (.ia k a b) = o2 (evIa s.heap k) (ev K s a) (ev K s b) := by
  simp only [ev, o2]; cases ev K s a <;> cases ev K s b <;> rfl
theorem e_aa (K s l k a b) : ev K s (.aa l k a b) = o2 (evAa l k) (ev K s a) (ev K s b) := by
  simp only [ev, o2]; cases ev K s a <;> cases ev K s b <;> rfl
theorem e_ix (K s a b) : ev K s (.ix a b) = o2 evIx (ev K s a) (ev K s b) := by
  simp only [ev, o2]; cases ev K s a <;> cases ev K s b <;> rfl
theorem e_ld (K s n g a) : ev K s (.ld n g a) = o1 (evLd s.heap n g) (ev K s a) := by
  simp only [ev, o1]; cases ev K s a <;> rfl
theorem e_ext (K s i a) : ev K s (.ext i a) = o1 (evExt i) (ev K s a) := by
  simp only [ev, o1]; cases ev K s a <;> rfl
theorem e_len (K s b a) : ev K s (.len b a) = o1 (evLen b) (ev K s a) := by
  simp only [ev, o1]; cases ev K s a <;> rfl
def evCutS (H : List (Nat × Blk)) (str bl bh bm : Bool) (k : Nat) (v l h m : V) : Option V := if str == v.isStr then evCut H bl bh bm k v l h m else none
theorem e_cut (K s str bl bh bm k a lo hi mx) : ev K s (.cut str bl bh bm k a lo hi mx) = o4 (evCutS s.heap str bl bh bm k) (ev K s a) (ev K s lo) (ev K s hi) (ev K s mx) := by
  simp only [ev, o4, evCutS]; cases ev K s a <;> cases ev K s lo <;> cases ev K s hi <;> cases ev K s mx <;> rfl
def aggV : V → Option V
  | .tup vs => some (.agg vs)
  | _ => none
theorem aggV_tup (vs) : aggV (.tup vs) = some (.agg vs) := rfl
theorem e_agg (K s a) : ev K s (.agg a) = o1 aggV (ev K s a) := by
  simp only [ev, o1]; cases ev K s a with
  | none => rfl
  | some v => cases v <;> rfl
theorem e_set (K s o n a b) : ev K s (.set o n a b) = o2 (evSet o n) (ev K s a) (ev K s b) := by
  simp only [ev, o2]; cases ev K s a <;> cases ev K s b <;> rfl
theorem e_conv (K s k a) : ev K s (.conv k a) = o1 (evConv k) (ev K s a) := by
  simp only [ev, o1]; cases ev K s a <;> rfl
def mkiV (t : TypeId) (v : V) : Option V := some (.iface t v)
theorem mkiV_eq (t v) : mkiV t v = some (.iface t v) := rfl
theorem e_mki (K s t a) : ev K s (.mki t a) = o1 (mkiV t) (ev K s a) := by
  simp only [ev, o1]; cases ev K s a <;> rfl
def callV (K : Cx) (H : List (Nat × Blk)) (f : FuncId) : V → Option V
  | .tup vs => evCall K H f vs
  | _ => none
theorem callV_tup (K H f vs) : callV K H f (.tup vs) = evCall K H f vs := rfl
theorem e_call (K s f a) : ev K s (.call f a) = o1 (callV K s.heap f) (ev K s a) := by
  simp only [ev, o1]; cases ev K s a with
  | none => rfl
  | some v => cases v <;> rfl
def callvV (K : Cx) (H : List (Nat × Blk)) : V → V → Option V
  | .fn f caps, .tup vs => evCall K H f (vs ++ caps)
  | _, _ => none
theorem callvV_tup (K H f caps vs) : callvV K H (.fn f caps) (.tup vs) = evCall K H f (vs ++ caps) := rfl
theorem e_callv (K s f a) : ev K s (.callv f a) = o2 (callvV K s.heap) (ev K s f) (ev K s a) := by
  simp only [ev, o2]; cases ev K s f with
  | none => rfl
  | some v => cases ev K s a with
    | none => cases v <;> rfl
    | some u => cases v <;> cases u <;> rfl
theorem e_nil (K s) : ev K s .nil = some (.tup []) := rfl
def consV (v : V) : V → Option V
  | .tup vs => some (.tup (v :: vs))
  | _ => none
theorem consV_tup (v vs) : consV v (.tup vs) = some (.tup (v :: vs)) := rfl
theorem e_cons (K s a b) : ev K s (.cons a b) = o2 consV (ev K s a) (ev K s b) := by
  simp only [ev, o2]; cases ev K s a with
  | none => rfl
  | some v => cases ev K s b with
    | none => rfl
    | some u => cases u <;> rfl

def callR (own ps : Bool) (x : Option (V × List Blk)) : Option V := match x with
  | some (r, []) => if ps then some r.renew else if own && !r.new then none else some r
  | _ => none
theorem callR_some (own r) : callR own false (some (r, [])) = if own && !r.new then none else some r := rfl
theorem callR_pass (own r) : callR own true (some (r, [])) = some r.renew := rfl
def callA (K : Cx) (f : FuncId) (own ps : Bool) (ws : List V) : Option V := callR own ps (K.call f ws)
theorem callA_eq (K f own ps ws) : callA K f own ps ws = callR own ps (K.call f ws) := rfl
theorem passes_eq (C : Cx) (f vs) : passes C f vs = (vs.all V.new && !vs.all V.flatV && C.loc f) := rfl
theorem evCall_eq (K H f vs) : evCall K H f vs = o1 (callA K f (vs.any V.own) (passes K f vs)) (mapO (view H) vs) := by
  unfold evCall
  cases mapO (view H) vs with
  | none => rfl
  | some ws =>
    show _ = callR (vs.any V.own) (passes K f vs) (K.call f ws)
    cases hk : K.call f ws with
    | none => simp [hk, callR]
    | some p => obtain ⟨r, news⟩ := p; cases news <;> simp [hk, callR]
def mapC {β : Type} (b : β) (bs : List β) : Option (List β) := some (b :: bs)
theorem mapC_eq {β : Type} (b : β) (bs) : mapC b bs = some (b :: bs) := rfl
theorem mapO_nil {α β : Type} (f : α → Option β) : mapO f [] = some [] := rfl
theorem mapO_cons {α β : Type} (f : α → Option β) (a r) : mapO f (a :: r) = o2 mapC (f a) (mapO f r) := by
  simp only [mapO, o2, mapC]; cases f a <;> cases mapO f r <;> rfl

def mkBox (nx : Nat) (v : V) : Option (V × List Blk) := if v.laid then some (.ptr nx 0 0, [.mix v.cells.length [v.cells]]) else none
theorem evMk_box (K s e) : evMk K s (.box e) = o1 (mkBox s.nx) (ev K s e) := by
  simp only [evMk, o1, mkBox]; cases ev K s e <;> rfl
def mkMks (nx k : Nat) (z l c : V) : Option (V × List Blk) := match z, l, c with
  | .tup zs, .d _ (.int _ n), .d _ (.int _ c) => match mapO asD zs with
    | some ds => if 0 ≤ n ∧ n ≤ c ∧ c ≤ most ∧ ds.length = k ∧ 0 < k ∧ ds.all D.flat then some (.bsl nx 0 n.toNat, [.dat true k (List.replicate n.toNat ds)]) else none
    | none => none
  | _, _, _ => none
def o3 {β : Type} (f : V → V → V → Option β) (x y z : Option V) : Option β := x.bind fun a => y.bind fun b => z.bind fun c => f a b c
theorem o3_some {β : Type} (f : V → V → V → Option β) (a b c : V) : o3 f (some a) (some b) (some c) = f a b c := rfl
theorem evMk_mks (K s k z l c) : evMk K s (.mks k z l c) = o3 (mkMks s.nx k) (ev K s z) (ev K s l) (ev K s c) := by
  simp only [evMk, o3]
  cases ev K s z with
  | none => rfl
  | some z => cases ev K s l with
    | none => cases z <;> rfl
    | some l => cases ev K s c with
      | none =>
        cases z <;> try rfl
        cases l <;> try rfl
        rename_i d; cases d <;> rfl
      | some c =>
        cases z <;> try rfl
        cases l <;> try rfl
        rename_i d; cases d <;> try rfl
        cases c <;> try rfl
        rename_i d; cases d <;> rfl
def mkLits (nx k : Nat) : V → Option (V × List Blk)
  | .tup vs => if vs.all (fun v => v.laid && v.cells.length == k) && decide (0 < k) then some (.bsl nx 0 vs.length, [mkBlk k (vs.map V.cells)]) else none
  | _ => none
theorem mkLits_tup (nx k vs) : mkLits nx k (.tup vs) = if vs.all (fun v => v.laid && v.cells.length == k) && decide (0 < k) then some (.bsl nx 0 vs.length, [mkBlk k (vs.map V.cells)]) else none := rfl
theorem evMk_lits (K s k e) : evMk K s (.lits k e) = o1 (mkLits s.nx k) (ev K s e) := by
  simp only [evMk, o1]; cases ev K s e with
  | none => rfl
  | some v => cases v <;> rfl
def mkOR (nx : Nat) (own : Bool) (x : Option (V × List Blk)) : Option (V × List Blk) := match x with
  | some (r, news) => if news.all Blk.plain && (!own || (r.new2 && news.all Blk.new)) then some (r.shift nx, news) else none
  | none => none
theorem mkOR_some (nx own r news) : mkOR nx own (some (r, news)) = if news.all Blk.plain && (!own || (r.new2 && news.all Blk.new)) then some (r.shift nx, news) else none := rfl
def mkOA (K : Cx) (nx : Nat) (f : FuncId) (own : Bool) (ws : List V) : Option (V × List Blk) := mkOR nx own (K.call f ws)
theorem mkOA_eq (K nx f own ws) : mkOA K nx f own ws = mkOR nx own (K.call f ws) := rfl
def mkO (K : Cx) (s : S) (f : FuncId) : V → Option (V × List Blk)
  | .tup vs => o1 (mkOA K s.nx f (vs.any V.own)) (mapO (view s.heap) vs)
  | _ => none
theorem mkO_tup (K s f vs) : mkO K s f (.tup vs) = o1 (mkOA K s.nx f (vs.any V.own)) (mapO (view s.heap) vs) := rfl
theorem evMk_callo (K s f e) : evMk K s (.callo f e) = o1 (mkO K s f) (ev K s e) := by
  simp only [evMk, o1]; cases ev K s e with
  | none => rfl
  | some v =>
    cases v <;> try rfl
    rename_i vs
    simp only [Option.bind_some, mkO, o1]
    cases mapO (view s.heap) vs with
    | none => rfl
    | some ws => simp only [Option.bind_some, mkOA, mkOR]; cases K.call f ws <;> rfl

def wrStore (H : List (Nat × Blk)) (nx n : Nat) (a x : V) : Option (List (Nat × Blk) × V × Lost × Nat) := match a with
  | .ptr b i j => if x.laid && x.cells.length == n then match look H b with
        | some blk => match blk.set i j x.cells with
          | some blk' => some (put H b blk', .junk, .none, nx)
          | none => none
        | none => none
      else none
  | _ => none
def stB (H : List (Nat × Blk)) (nx b : Nat) (x : Option Blk) : Option (List (Nat × Blk) × V × Lost × Nat) := x.bind fun k => some (put H b k, .junk, .none, nx)
theorem stB_some (H nx b k) : stB H nx b (some k) = some (put H b k, .junk, .none, nx) := rfl
def stA (H : List (Nat × Blk)) (nx b i j : Nat) (cs : List V) (k : Blk) : Option (List (Nat × Blk) × V × Lost × Nat) := stB H nx b (k.set i j cs)
theorem stA_eq (H nx b i j cs k) : stA H nx b i j cs k = stB H nx b (k.set i j cs) := rfl
theorem wrStore_ptr (H nx n b i j x) : wrStore H nx n (.ptr b i j) x = if x.laid && x.cells.length == n then o1 (stA H nx b i j x.cells) (look H b) else none := by
  simp only [wrStore]
  split
  · cases look H b with
    | none => rfl
    | some k => simp only [o1, Option.bind_some, stA, stB]; cases k.set i j x.cells <;> rfl
  · rfl
theorem evWr_store (K s H n a v) : evWr K s H (.store n a v) = o2 (wrStore H s.nx n) (ev K s a) (ev K s v) := by
  simp only [evWr, o2]
  cases ev K s a with
  | none => rfl
  | some a => cases ev K s v with
    | none => cases a <;> rfl
    | some v => cases a <;> rfl
def wrApp (s : S) (H : List (Nat × Blk)) (k : Nat) (x : V) (rows : Rows) : Option (List (Nat × Blk) × V × Lost × Nat) := match x with
  | .bsl id i len => match look H id with
    | some blk => if i = 0 ∧ blk.n = len ∧ blk.k = k ∧ len + rows.n ≤ most then some (put H id (blk.app rows), .bsl id 0 (len + rows.n), .some id, s.nx) else none
    | none => none
  | .fs _ k' [] => if k' = k ∧ rows.n ≤ most then some ((s.nx, rows.blk k) :: H, .bsl s.nx 0 rows.n, .none, s.nx + 1) else none
  | _ => none
def apA (s : S) (H : List (Nat × Blk)) (k id i len : Nat) (rows : Rows) (blk : Blk) : Option (List (Nat × Blk) × V × Lost × Nat) :=
  if i = 0 ∧ blk.n = len ∧ blk.k = k ∧ len + rows.n ≤ most then some (put H id (blk.app rows), .bsl id 0 (len + rows.n), .some id, s.nx) else none
theorem wrApp_bsl (s H k id i len rows) : wrApp s H k (.bsl id i len) rows = o1 (apA s H k id i len rows) (look H id) := by
  simp only [wrApp, o1, apA]; cases look H id <;> rfl
theorem wrApp_fs (s H k c rows) (h : rows.n ≤ most) : wrApp s H k (.fs c k []) rows = some ((s.nx, rows.blk k) :: H, .bsl s.nx 0 rows.n, .none, s.nx + 1) := if_pos ⟨rfl, h⟩
theorem evWr_app (K s H k a b) : evWr K s H (.app k a b) = o2 (wrApp s H k) (ev K s a) (o1 (rowsOf H k) (ev K s b)) := by
  simp only [evWr, o2, o1]
  cases ev K s a with
  | none => rfl
  | some x => cases ev K s b with
    | none => cases x <;> rfl
    | some y =>
      simp only [Option.bind_some]
      cases rowsOf H k y <;> rfl
def wrEff (K : Cx) (nx : Nat) (H : List (Nat × Blk)) (f : FuncId) : V → Option (List (Nat × Blk) × V × Lost × Nat)
  | .tup vs => evEff K nx H f vs (reachB H 64 [] (refsL vs))
  | _ => none
theorem wrEff_tup (K nx H f vs) : wrEff K nx H f (.tup vs) = evEff K nx H f vs (reachB H 64 [] (refsL vs)) := rfl
theorem evWr_calle (K s H f e) : evWr K s H (.calle f e) = o1 (wrEff K s.nx H f) (ev K s e) := by
  simp only [evWr, o1]; cases ev K s e with
  | none => rfl
  | some v => cases v <;> rfl

def effR (nx : Nat) (H : List (Nat × Blk)) (bs : List Nat) (p : V × List Blk × List Nat) : Option (List (Nat × Blk) × V × Lost × Nat) :=
  if bs.length ≤ p.2.1.length then some (putAll (loseM (p.2.2.map (backB bs nx)) H) (backB bs nx) 0 p.2.1, p.1.ren (backB bs nx), .many (p.2.2.map (backB bs nx)), nx + (p.2.1.length - bs.length)) else none
theorem effR_eq (nx H bs r b m) : effR nx H bs (r, b, m) = if bs.length ≤ b.length then some (putAll (loseM (m.map (backB bs nx)) H) (backB bs nx) 0 b, r.ren (backB bs nx), .many (m.map (backB bs nx)), nx + (b.length - bs.length)) else none := rfl
def effA (K : Cx) (nx : Nat) (H : List (Nat × Blk)) (f : FuncId) (vs : List V) (bs : List Nat) (blks : List Blk) : Option (List (Nat × Blk) × V × Lost × Nat) := o1 (effR nx H bs) (K.eff f (vs.map fun v => v.dim.ren bs.idxOf) blks)
theorem effA_eq (K nx H f vs bs blks) : effA K nx H f vs bs blks = o1 (effR nx H bs) (K.eff f (vs.map fun v => v.dim.ren bs.idxOf) blks) := rfl
theorem evEff_eq (K nx H f vs bs) : evEff K nx H f vs bs = if decide bs.Nodup && vs.all (V.within bs.contains) && closedB H bs then o1 (effA K nx H f vs bs) (handed H bs) else none := by
  unfold evEff
  split
  · cases handed H bs with
    | none => rfl
    | some blks =>
      simp only [o1_some, effA]
      cases K.eff f (vs.map fun v => v.dim.ren bs.idxOf) blks with
      | none => rfl
      | some p => obtain ⟨r, b, m⟩ := p; rfl
  · rfl
theorem backB_eq (bs nx i) : backB bs nx i = (bs[i]?).getD (nx + (i - bs.length)) := by
  unfold backB; cases bs[i]? <;> rfl
def wonV (b : Bool) : Option V → Option Bool
  | some (.d _ (.bool x)) => some (x == b)
  | _ => none
theorem wonB_one (K s e b) : wonB K s [(e, b)] = wonV b (ev K s e) := by
  simp only [wonB, wonV]
  cases ev K s e with
  | none => rfl
  | some v => cases v with
    | d c x => cases x <;> rfl
    | _ => rfl
theorem look_nil {α : Type} (t) : look ([] : List (Nat × α)) t = none := rfl
def lookB {α : Type} (v : α) (r : List (Nat × α)) (t : Nat) : Bool → Option α
  | true => some v
  | false => look r t
theorem lookB_true {α : Type} (v : α) (r t) : lookB v r t true = some v := rfl
theorem lookB_false {α : Type} (v : α) (r t) : lookB v r t false = look r t := rfl
theorem look_cons {α : Type} (k v r t) : look ((k, v) :: r : List (Nat × α)) t = lookB v r t (k == t) := by
  simp only [look]
  by_cases h : k = t
  · simp [h, lookB]
  · have : (k == t) = false := by simpa using h
    simp [h, this, lookB]
def putB {α : Type} (k : Nat) (u : α) (r : List (Nat × α)) (t : Nat) (v : α) : Bool → List (Nat × α)
  | true => (t, v) :: r
  | false => (k, u) :: put r t v
theorem putB_true {α : Type} (k : Nat) (u : α) (r t v) : putB k u r t v true = (t, v) :: r := rfl
theorem putB_false {α : Type} (k : Nat) (u : α) (r t v) : putB k u r t v false = (k, u) :: put r t v := rfl
theorem put_nil {α : Type} (t v) : put ([] : List (Nat × α)) t v = [(t, v)] := rfl
theorem put_cons {α : Type} (k u r t v) : put ((k, u) :: r : List (Nat × α)) t v = putB k u r t v (k == t) := by
  simp only [put]
  by_cases h : k = t
  · simp [h, putB]
  · have : (k == t) = false := by simpa using h
    simp [h, this, putB]
def resC {α : Type} (l : List (Nat × α)) (t : Nat) (r : List Nat) (x : Option α) : List (Nat × α) := match x with
  | some v => (t, v) :: restrict l r
  | none => restrict l r
theorem resC_some {α : Type} (l : List (Nat × α)) (t r v) : resC l t r (some v) = (t, v) :: restrict l r := rfl
theorem restrict_nil {α : Type} (l : List (Nat × α)) : restrict l [] = [] := rfl
theorem restrict_cons {α : Type} (l : List (Nat × α)) (t r) : restrict l (t :: r) = resC l t r (look l t) := rfl

noncomputable def endF (K : Cx) (res : List E) (own : Bool) (m : Nat) (x : Option (Ex × S)) : Option (V × List Blk × List Nat) := match x with
  | some (.nrm, s) => o1 (finish m own s) ((mapO (ev K s) res).map oneOr)
  | some (.ret, s) => o1 (finish m own s) ((mapO (ev K s) res).map oneOr)
  | _ => none
theorem endF_ret (K res own m s) : endF K res own m (some (.ret, s)) = o1 (finish m own s) ((mapO (ev K s) res).map oneOr) := rfl
theorem runFun_eq (K body res own args blks) : runFun K ⟨body, res, own⟩ args blks = endF K res own blks.length (exec K body (startS args blks)) := by
  unfold runFun endF
  simp only
  cases exec K body (startS args blks) with
  | none => rfl
  | some p =>
    obtain ⟨e, s⟩ := p
    cases e <;> try rfl
    all_goals
      simp only [o1]
      cases mapO (ev K s) res <;> rfl

theorem loopF_unfold (f : S → Option (Ex × S)) (s : S) : loopF f s = match f s with
    | some (.nrm, s') => loopF f s'
    | r => r := by
  have key : ∀ r, loopF f s = some r → (match f s with | some (.nrm, s') => loopF f s' | r => r) = some r := by
    intro r h
    unfold loopF at h
    split at h
    · rename_i hex
      generalize hex.choose = n at h
      cases n with
      | zero => simp [iter] at h
      | succ n =>
        simp only [iter] at h
        cases hf : f s with
        | none => simp [hf] at h
        | some p =>
          obtain ⟨e, s'⟩ := p
          cases e with
          | nrm => simp only [hf] at h ⊢; exact loopF_of h
          | _ => simpa [hf] using h
    · cases h
  have back : ∀ r, (match f s with | some (.nrm, s') => loopF f s' | r => r) = some r → loopF f s = some r := by
    intro r h
    cases hf : f s with
    | none => simp [hf] at h
    | some p =>
      obtain ⟨e, s'⟩ := p
      cases e with
      | nrm =>
        simp only [hf] at h
        have h0 := h
        unfold loopF at h
        split at h
        · rename_i hex
          exact loopF_of (n := hex.choose + 1) (by simp only [iter, hf]; exact h)
        · cases h
      | exit id => exact loopF_of (n := 1) (by simpa [iter, hf] using h)
      | goto id => exact loopF_of (n := 1) (by simpa [iter, hf] using h)
      | ret => exact loopF_of (n := 1) (by simpa [iter, hf] using h)
  cases h1 : loopF f s with
  | some r => exact (key r h1).symm
  | none =>
    cases h2 : (match f s with | some (.nrm, s') => loopF f s' | r => r) with
    | none => rfl
    | some r => rw [back r h2] at h1; cases h1

noncomputable def lp (K : Cx) (m : Nat) (sl : List Nat) (body : C) (s : S) : Option (Ex × S) := match exec K body s with
  | some (.nrm, s') => exec K (.loop (.seq (.tidy m sl) body)) s'
  | r => r
noncomputable def lpT (K : Cx) (m : Nat) (sl : List Nat) (body : C) (x : Option (Ex × S)) : Option (Ex × S) := match x with
  | some (.nrm, s') => o1 (lp K m sl body) (tidyS m sl s')
  | r => r
theorem lpT_nrm (K m sl body s) : lpT K m sl body (some (.nrm, s)) = o1 (lp K m sl body) (tidyS m sl s) := rfl
theorem lpT_exit (K m sl body n s) : lpT K m sl body (some (.exit n, s)) = some (.exit n, s) := rfl
theorem lpT_ret (K m sl body s) : lpT K m sl body (some (.ret, s)) = some (.ret, s) := rfl
theorem lpT_goto (K m sl body n s) : lpT K m sl body (some (.goto n, s)) = some (.goto n, s) := rfl

theorem exec_loop (K m sl body s) : exec K (.loop (.seq (.tidy m sl) body)) s = o1 (lp K m sl body) (tidyS m sl s) := by
  show loopF (exec K (.seq (.tidy m sl) body)) s = _
  rw [loopF_unfold, exec_seq, exec_tidy]
  cases tidyS m sl s with
  | none => rfl
  | some s' =>
    rw [nrm_some, thn_nrm, o1_some]
    rfl
theorem lp_eq0 (K m sl body s) : lp K m sl body s = lpT K m sl body (exec K body s) := by
  unfold lp lpT
  cases exec K body s with
  | none => rfl
  | some p =>
    obtain ⟨e, s'⟩ := p
    cases e <;> try rfl
    exact exec_loop K m sl body s'
theorem lp_un {K m sl body body' s} (h : body = body') : lp K m sl body s = lpT K m sl body (exec K body' s) := by
  subst h; exact lp_eq0 K m sl body s

end Go.Vm
end

section
namespace Go.Vm

def nth {α : Type} [Inhabited α] (l : List α) (n : Int) : α := l.getD n.toNat default

theorem nth_nat {α : Type} [Inhabited α] (l : List α) (i : Nat) : nth l (i : Int) = l.getD i default := by simp [nth]
theorem nth_get? {α : Type} [Inhabited α] {l : List α} {n : Int} (h : n.toNat < l.length) : l[n.toNat]? = some (nth l n) := by
  unfold nth; rw [List.getD_eq_getElem?_getD, List.getElem?_eq_getElem h]; rfl
def tidyB (m : Nat) (H : List (Nat × Blk)) (mv : List Nat) (ρ : List (Nat × V)) (bs : List Nat) : Option S :=
  if decide bs.Nodup && decide (bs.take m = List.range m) && ρ.all (fun p => p.2.within bs.contains) && closedB H bs then
    some ⟨ρ.map fun p => (p.1, p.2.ren bs.idxOf), bs.zipIdx.filterMap fun p => (look H p.1).map fun k => (p.2, k.ren bs.idxOf), bs.length, (List.range m).filter mv.contains⟩
  else none
def tidyA (m : Nat) (H : List (Nat × Blk)) (mv : List Nat) (ρ : List (Nat × V)) : Option S := tidyB m H mv ρ (reachB H 64 [] (List.range m ++ refsL (ρ.map (·.2))))
theorem tidyS_a (m slots ρ H nx mv) : tidyS m slots ⟨ρ, H, nx, mv⟩ = tidyA m H mv (restrict ρ slots) := rfl
theorem tidyA_eq (m H mv ρ) : tidyA m H mv ρ = tidyB m H mv ρ (reachB H 64 [] (List.range m ++ refsL (ρ.map (·.2)))) := rfl
theorem tidyB_eq (m H mv ρ bs) : tidyB m H mv ρ bs = if decide bs.Nodup && decide (bs.take m = List.range m) && ρ.all (fun p => p.2.within bs.contains) && closedB H bs then
    some ⟨ρ.map fun p => (p.1, p.2.ren bs.idxOf), bs.zipIdx.filterMap fun p => (look H p.1).map fun k => (p.2, k.ren bs.idxOf), bs.length, (List.range m).filter mv.contains⟩
  else none := rfl
theorem reachB_nil (H n done) : reachB H n done [] = done := by cases n <;> rfl
def reachC (H : List (Nat × Blk)) (n : Nat) (done : List Nat) (b : Nat) (todo : List Nat) : Bool → List Nat
  | true => reachB H n done todo
  | false => reachB H n (done ++ [b]) (todo ++ (match look H b with | some k => k.refs | none => []))
def refsO : Option Blk → List Nat
  | some k => k.refs
  | none => []
theorem refsO_some (k) : refsO (some k) = k.refs := rfl
theorem reachB_cons (H n done b todo) : reachB H (n + 1) done (b :: todo) = reachC H n done b todo (done.contains b) := by
  simp only [reachB]; cases done.contains b <;> rfl
theorem reachC_true (H n done b todo) : reachC H n done b todo true = reachB H n done todo := rfl
theorem reachC_false (H n done b todo) : reachC H n done b todo false = reachB H n (done ++ [b]) (todo ++ refsO (look H b)) := by
  simp only [reachC, refsO]

theorem evIa_d (H k c rows c' kd) (n : Int) : evIa H k (.d c (.sl k rows)) (.d c' (.int kd n)) = if 0 ≤ n then (rows[n.toNat]?).map (fun row => .d c (.ptr row)) else none := by
  simp only [evIa]
  by_cases h : 0 ≤ n <;> simp [h]
  cases rows[n.toNat]? <;> rfl
theorem evIa_dm {α : Type} [Inhabited α] (H k c) (l : List α) (e : α → List D) (c' kd) (n : Int) (h0 : 0 ≤ n) (h : n < l.length) : evIa H k (.d c (.sl k (l.map e))) (.d c' (.int kd n)) = some (.d c (.ptr (e (nth l n)))) := by
  rw [evIa_d, if_pos h0, List.getElem?_map, nth_get? (by omega)]; rfl
def iaB (k b i len : Nat) (n : Int) (blk : Blk) : Option V := if blk.k = k ∧ 0 ≤ n ∧ n < len then some (.ptr b (i + n.toNat) 0) else none
theorem evIa_bsl (H k b i len c kd) (n : Int) : evIa H k (.bsl b i len) (.d c (.int kd n)) = o1 (iaB k b i len n) (look H b) := by
  simp only [evIa, o1, iaB]; cases look H b <;> rfl
theorem iaB_dat (k b i) (len : Nat) (n : Int) (c rows) (h0 : 0 ≤ n) (h : n < len) : iaB k b i len n (.dat c k rows) = some (.ptr b (i + n.toNat) 0) := if_pos ⟨rfl, h0, h⟩
def ldR (n : Nat) (g : Bool) (j : Nat) (row : List V) : Option V := part g n (row.drop j)
theorem ldR_eq (n g j row) : ldR n g j row = part g n (row.drop j) := rfl
def ldB (n : Nat) (g : Bool) (i j : Nat) (blk : Blk) : Option V := o1 (ldR n g j) (blk.row? i)
theorem ldB_eq (n g i j blk) : ldB n g i j blk = o1 (ldR n g j) (blk.row? i) := rfl
theorem evLd_ptr (H n g b i j) : evLd H n g (.ptr b i j) = o1 (ldB n g i j) (look H b) := by
  simp only [evLd, o1, ldB, ldR]
  cases look H b with
  | none => rfl
  | some blk =>
    show _ = o1 (ldR n g j) (blk.row? i)
    cases h : blk.row? i <;> simp [h, o1, ldR]
theorem evLd_d (H n g c cells) : evLd H n g (.d c (.ptr cells)) = part g n (cells.map (mkd c)) := rfl
theorem part_true (n cs) : part true n cs = if n ≤ cs.length then some (.agg (cs.take n)) else none := rfl
theorem part_one (v cs) : part false 1 (v :: cs) = some v := rfl
theorem row_mix (k rows i) : (Blk.mix k rows).row? i = rows[i]? := rfl
theorem row_dat (c k rows i) : (Blk.dat c k rows).row? i = (rows[i]?).map (·.map (mkd c)) := rfl
theorem row_datm {α : Type} [Inhabited α] (c k) (l : List α) (e : α → List D) (i : Nat) (h : i < l.length) : (Blk.dat c k (l.map e)).row? i = some ((e (nth l i)).map (mkd c)) := by
  rw [row_dat, List.getElem?_map, List.getElem?_eq_getElem h, nth_nat, List.getD_eq_getElem?_getD, List.getElem?_eq_getElem h]; rfl

theorem set_mix0 (k row rows j cells) : (Blk.mix k (row :: rows)).set 0 j cells = if j + cells.length ≤ row.length then some (.mix k (splice j cells row :: rows)) else none := by
  simp [Blk.set]
def setD (c : Bool) (k : Nat) (rows : List (List D)) (row : List D) (i j : Nat) (cells : List V) (x : Option (List D)) : Option Blk := match x with
  | some ds => some (.dat (c && cells.all V.new1) k (rows.set i (splice j ds row)))
  | none => some (.mix k ((rows.map (·.map (mkd c))).set i (splice j cells (row.map (mkd c)))))
theorem setD_some (c k rows row i j cells ds) : setD c k rows row i j cells (some ds) = some (.dat (c && cells.all V.new1) k (rows.set i (splice j ds row))) := rfl
theorem set_datm {α : Type} [Inhabited α] (c k) (l : List α) (e : α → List D) (i j cells) (hi : i < l.length) : (Blk.dat c k (l.map e)).set i j cells = if j + cells.length ≤ (e (nth l i)).length then setD c k (l.map e) (e (nth l i)) i j cells (mapO asD cells) else none := by
  have : (l.map e)[i]? = some (e (nth l i)) := by
    rw [List.getElem?_map, List.getElem?_eq_getElem hi, nth_nat, List.getD_eq_getElem?_getD, List.getElem?_eq_getElem hi]; rfl
  simp only [Blk.set, this, setD]
  split
  · cases mapO asD cells <;> rfl
  · rfl
theorem wrap64 {x : Int} (h1 : -9223372036854775808 ≤ x) (h2 : x ≤ 9223372036854775807) : IntKind.i64.wrap x = x := by
  unfold IntKind.wrap
  have e1 : (2 : Int) ^ IntKind.i64.bits = 18446744073709551616 := by decide
  have e2 : (2 : Int) ^ (IntKind.i64.bits - 1) = 9223372036854775808 := by decide
  simp only [e1, e2]
  have : IntKind.i64.signed = true := rfl
  simp only [this, Bool.true_and, decide_eq_true_eq]
  split <;> omega

end Go.Vm
namespace Go.Vm
theorem eq_t {a b : Int} (h : a = b) : (a == b) = true := by simpa using h
theorem eq_f {a b : Int} (h : ¬ a = b) : (a == b) = false := by simpa using h
theorem ne_t {a b : Int} (h : ¬ a = b) : (a != b) = true := by simpa using h
theorem ne_f {a b : Int} (h : a = b) : (a != b) = false := by simp [h]
theorem rows_d {α : Type} (H k c) (l : List α) (e : α → List D) : rowsOf H k (.d c (.sl k (l.map e))) = some (.dat (c || flatRows (l.map e)) (l.map e)) := by simp [rowsOf]
theorem flatRows_nil : flatRows [] = true := rfl
theorem flatRows_cons (r rows) : flatRows (r :: rows) = (r.all D.flat && flatRows rows) := rfl
theorem apA_dat (s H k id len rs c rows) (h : rows.length = len) (h2 : len + rs.n ≤ most) : apA s H k id 0 len rs (.dat c k rows) = some (put H id ((Blk.dat c k rows).app rs), .bsl id 0 (len + rs.n), .some id, s.nx) := if_pos ⟨rfl, h, rfl, h2⟩
theorem viewD_datm {α : Type} (n H b i len c k) (l : List α) (e : α → List D) (hb : look H b = some (.dat c k (l.map e))) (h : i + len ≤ l.length) : viewD (n + 1) H (.bsl b i len) = some (.sl k (((l.drop i).take len).map e)) := by
  simp only [viewD, hb, List.length_map, h, if_true, List.map_take, List.map_drop]
theorem ile_T {a b : Int} (h : a ≤ b) : (a ≤ b) = True := by simpa using h
theorem ile_F {a b : Int} (h : ¬ a ≤ b) : (a ≤ b) = False := by simpa using h
theorem ilt_T {a b : Int} (h : a < b) : (a < b) = True := by simpa using h
theorem ilt_F {a b : Int} (h : ¬ a < b) : (a < b) = False := by simpa using h
theorem nle_T {a b : Nat} (h : a ≤ b) : (a ≤ b) = True := by simpa using h
theorem nlt_T {a b : Nat} (h : a < b) : (a < b) = True := by simpa using h
theorem take_all {α : Type} {l : List α} {n : Nat} (h : l.length ≤ n) : l.take n = l := List.take_of_length_le h
theorem toNat_add1 (n : Nat) : ((n : Int) + 1).toNat = n + 1 := by omega
theorem evIx_str (c c' k) (s : List UInt8) (n : Int) (h0 : 0 ≤ n) (h : n < s.length) : evIx (.d c (.str s)) (.d c' (.int k n)) = some (.int .u8 (nth s n).toNat) := by
  simp only [evIx, h0, if_true]
  rw [nth_get? (by omega)]
theorem nth_toNat {α : Type} [Inhabited α] (l : List α) (n : Int) : nth l ((n.toNat : Nat) : Int) = nth l n := by
  unfold nth; rw [Int.toNat_natCast]
theorem most_eq : most = 1099511627776 := rfl
theorem range0 : List.range 0 = [] := rfl
end Go.Vm
end

section
namespace Go.Vm
theorem evMk_mkm (K s) : evMk K s .mkm = some (.map s.nx, [.map []]) := rfl
theorem e_lkp (K s ok kk z m k) : ev K s (.lkp ok kk z m k) = o3 (evLkp s.heap ok kk) (ev K s z) (ev K s m) (ev K s k) := by
  simp only [ev, o3]; cases ev K s z <;> cases ev K s m <;> cases ev K s k <;> rfl
def lkO (ok : Bool) (z : V) : Option (Option V) → Option V
  | some (some v) => some (if ok then .tup [v, .bool true] else v)
  | some none => some (if ok then .tup [z, .bool false] else z)
  | none => none
theorem lkO_some (z v) : lkO false z (some (some v)) = some v := rfl
theorem lkO_none (z) : lkO false z (some none) = some z := rfl
def lkB (ok : Bool) (kk : Nat) (z : V) (k : D) : Blk → Option V
  | .map es => lkO ok z (findE kk k es)
  | _ => none
theorem lkB_map (ok kk z k es) : lkB ok kk z k (.map es) = lkO ok z (findE kk k es) := rfl
theorem evLkp_map (H ok kk z b c k) : evLkp H ok kk z (.map b) (.d c k) = o1 (lkB ok kk z k) (look H b) := by
  simp only [evLkp, o1]
  cases look H b with
  | none => rfl
  | some blk =>
    cases blk with
    | map es =>
      simp only [Blk.entries, Option.bind_some, lkB, lkO]
      cases findE kk k es with
      | none => rfl
      | some r => cases r <;> rfl
    | _ => rfl
def stM (H : List (Nat × Blk)) (nx b : Nat) (x : Option (List (D × V))) : Option (List (Nat × Blk) × V × Lost × Nat) := x.bind fun es => some (put H b (.map es), .junk, .none, nx)
def msB (H : List (Nat × Blk)) (nx b kk : Nat) (d : D) (x : V) : Blk → Option (List (Nat × Blk) × V × Lost × Nat)
  | .map es => stM H nx b (setE kk d x es)
  | _ => none
def wrMset (H : List (Nat × Blk)) (nx kk : Nat) (m k x : V) : Option (List (Nat × Blk) × V × Lost × Nat) := match m, k with
  | .map b, .d _ d => if x.laid then o1 (msB H nx b kk d x) (look H b) else none
  | _, _ => none
def mcB (H : List (Nat × Blk)) (nx b : Nat) : Blk → Option (List (Nat × Blk) × V × Lost × Nat)
  | .map es => if tagged es then none else some (put H b (.map []), .junk, .none, nx)
  | _ => none
theorem mcB_map (H nx b es) (h : tagged es = false) : mcB H nx b (.map es) = some (put H b (.map []), .junk, .none, nx) := by simp [mcB, h]
def wrMclr (H : List (Nat × Blk)) (nx : Nat) : V → Option (List (Nat × Blk) × V × Lost × Nat)
  | .map b => o1 (mcB H nx b) (look H b)
  | _ => none
theorem wrMclr_map (H nx b) : wrMclr H nx (.map b) = o1 (mcB H nx b) (look H b) := rfl
theorem evWr_mclr (K s H m) : evWr K s H (.mclr m) = o1 (wrMclr H s.nx) (ev K s m) := by
  simp only [evWr, o1]
  cases ev K s m with
  | none => rfl
  | some a =>
    cases a <;> try rfl
    rename_i b
    simp only [Option.bind_some, wrMclr, o1]
    cases look H b with
    | none => rfl
    | some blk => cases blk <;> rfl

def seenE (l : List (List UInt8)) : List (D × V) := l.map fun m => (.str m, .d false (.int .i64 1))
theorem findE_seen (n : List UInt8) (l : List (List UInt8)) : findE 2 (.str n) (seenE l) = some (if l.contains n then some (.d false (.int .i64 1)) else none) := by
  induction l with
  | nil => rfl
  | cons m l ih =>
    simp only [seenE, List.map_cons, findE, keyEq, List.contains_cons] at ih ⊢
    by_cases h : n = m
    · simp [h]
    · have : (n == m) = false := by simpa using h
      simp only [this, Bool.false_or]
      have hd : decide (n = m) = false := by simpa using h
      simp only [hd]
      exact ih
theorem seen_refs (l : List (List UInt8)) : (seenE l).flatMap (fun q => q.2.refs) = [] := by
  induction l with
  | nil => rfl
  | cons m l ih => simp [seenE, V.refs]
theorem seen_within (l : List (List UInt8)) (p : Nat → Bool) : (seenE l).all (fun q => q.2.within p) = true := by
  simp [seenE, V.within]
theorem seen_ren (l : List (List UInt8)) (g : Nat → Nat) : (seenE l).map (fun q => (q.1, q.2.ren g)) = seenE l := by
  simp [seenE, V.ren]
theorem cast7 : ((7 : Nat) : Int) = 7 := rfl
theorem evMk_bld (K s t e) : evMk K s (.bld t e) = some (.ptr s.nx 0 0, [.map [(.nils t, .bsl (s.nx + 1) 0 0)], .map [(.emps e, .d false .nilp), (.str [], .d false .nilp)]]) := rfl
theorem e_b2s (K s a) : ev K s (.b2s a) = o1 (evB2s s.heap) (ev K s a) := by
  simp only [ev]; cases ev K s a <;> rfl
theorem e_i2s (K s a) : ev K s (.i2s a) = o1 evI2s (ev K s a) := by
  simp only [ev]; cases ev K s a <;> rfl

end Go.Vm
end

section
namespace Go.Vm

theorem exec_scope (K c ls s) : exec K (.scope c ls) s = scopeF (fun l => exec.labelled K ls l) (exec K c s) := rfl
theorem scopeF_done (f : Nat → Option (S → Option (Ex × S))) (e : Ex) (s : S) (h : ∀ l, e ≠ .goto l) : scopeF f (some (e, s)) = some (e, s) := by
  refine scopeF_of (n := 1) ?_
  cases e with
  | goto l => exact absurd rfl (h l)
  | _ => rfl
theorem scopeF_ret (f : Nat → Option (S → Option (Ex × S))) (s : S) : scopeF f (some (.ret, s)) = some (.ret, s) := scopeF_done f .ret s (fun l h => by cases h)
theorem scopeF_goto {f : Nat → Option (S → Option (Ex × S))} {l : Nat} {g : S → Option (Ex × S)} (h : f l = some g) (s : S) : scopeF f (some (.goto l, s)) = scopeF f (g s) := by
  have step : ∀ n, jumps f (n + 1) (some (.goto l, s)) = jumps f n (g s) := fun n => by simp only [jumps, h]
  by_cases hex : ∃ n, (jumps f n (g s)).isSome
  · obtain ⟨n, hn⟩ := hex
    obtain ⟨r, hr⟩ := Option.isSome_iff_exists.1 hn
    rw [scopeF_of hr, scopeF_of (n := n + 1) (by rw [step]; exact hr)]
  · have hex2 : ¬ ∃ n, (jumps f n (some (.goto l, s))).isSome := by
      rintro ⟨n, hn⟩
      cases n with
      | zero => simp [jumps] at hn
      | succ n => rw [step] at hn; exact hex ⟨n, hn⟩
    unfold scopeF
    rw [dif_neg hex, dif_neg hex2]

def rwB (k i len : Nat) : Blk → Option Rows
  | .dat c k' rows => if k' = k ∧ i + len ≤ rows.length then some (.dat (c || flatRows rows) ((rows.drop i).take len)) else none
  | .mix k' rows => if k' = k ∧ i + len ≤ rows.length then some (.mix ((rows.drop i).take len)) else none
  | .map _ => none
theorem rows_bsl (H k b i len) : rowsOf H k (.bsl b i len) = o1 (rwB k i len) (look H b) := by
  simp only [rowsOf, o1]
  cases look H b with
  | none => rfl
  | some blk => cases blk <;> rfl
theorem rwB_dat (k i len c rows) : rwB k i len (.dat c k rows) = if i + len ≤ rows.length then some (.dat (c || flatRows rows) ((rows.drop i).take len)) else none := by simp [rwB]
end Go.Vm
end

section
namespace Go.Vm

theorem LN : type_of% (And.intro (And.intro (And.intro @List.length_map.{0,0} (And.intro @List.length_append.{0} @List.length_take.{0})) (And.intro @List.length_drop.{0} (And.intro @List.length_replicate.{0} @List.length_set.{0}))) (And.intro (And.intro @List.length_cons.{0} (And.intro @List.length_nil.{0} @Rows.n.eq_1)) (And.intro (And.intro @Rows.n.eq_2 @most_eq) (And.intro @Int.toNat_natCast @Nat.zero_add)))) :=
  (And.intro (And.intro (And.intro @List.length_map.{0,0} (And.intro @List.length_append.{0} @List.length_take.{0})) (And.intro @List.length_drop.{0} (And.intro @List.length_replicate.{0} @List.length_set.{0}))) (And.intro (And.intro @List.length_cons.{0} (And.intro @List.length_nil.{0} @Rows.n.eq_1)) (And.intro (And.intro @Rows.n.eq_2 @most_eq) (And.intro @Int.toNat_natCast @Nat.zero_add))))

theorem SV : type_of% (And.intro (And.intro (And.intro (And.intro (And.intro (And.intro (And.intro (And.intro @e_sl @look_cons) (And.intro @lookB_true @o2_some)) (And.intro (And.intro @lookB_false @o1_some) (And.intro @List.length_nil.{0} (And.intro @List.map_nil.{0,0} @evMks_nil)))) (And.intro (And.intro (And.intro @List.nil_append.{0} @List.append_nil.{0}) (And.intro @segL_eq (And.intro @wonB_nil @evChk_nil))) (And.intro (And.intro @evLets_cons @evLets_nil) (And.intro @letC_eq (And.intro @restrict_cons @resC_some))))) (And.intro (And.intro (And.intro (And.intro @restrict_nil @addBlks.eq_1) (And.intro @addBlks.eq_2 @List.map_cons.{0,0})) (And.intro (And.intro @exec_seq @evSeg_eq) (And.intro @segW_none (And.intro @List.cons_append.{0} @segs_nil)))) (And.intro (And.intro (And.intro @nrm_some @thn_nrm) (And.intro @List.zipIdx_nil.{0} (And.intro @exec_reg @evSegs_cons))) (And.intro (And.intro @tidyS_a @tidyA_eq) (And.intro @refsL.eq_1 (And.intro @refsL.eq_2 @reachB_nil)))))) (And.intro (And.intro (And.intro (And.intro (And.intro @tidyB_eq @List.nodup_nil.{0}) (And.intro @List.all_nil.{0} @closedB.eq_1)) (And.intro (And.intro @Blk.ren.eq_1 @Blk.ren.eq_2) (And.intro @Blk.ren.eq_3 (And.intro @List.filterMap_nil.{0,0} @List.filter_nil.{0})))) (And.intro (And.intro (And.intro @range0 @List.all_cons.{0}) (And.intro @V.within.eq_1 (And.intro @V.within.eq_2 @V.within.eq_3))) (And.intro (And.intro @V.within.eq_4 @V.within.eq_5) (And.intro @V.within.eq_6 (And.intro @V.within.eq_7 @V.within.eq_8))))) (And.intro (And.intro (And.intro (And.intro @V.within.eq_9 @V.within.eq_10) (And.intro @V.ren.eq_1 (And.intro @V.ren.eq_2 @V.ren.eq_3))) (And.intro (And.intro @V.ren.eq_4 @V.ren.eq_5) (And.intro @V.ren.eq_6 (And.intro @V.ren.eq_7 @V.ren.eq_8)))) (And.intro (And.intro (And.intro @V.ren.eq_9 @V.ren.eq_10) (And.intro @take_all (And.intro @e_bin @List.length_cons.{0}))) (And.intro (And.intro @Blk.within.eq_1 @Blk.within.eq_2) (And.intro @Blk.within.eq_3 (And.intro @exec_cond @Option.map_some.{0,0}))))))) (And.intro (And.intro (And.intro (And.intro (And.intro (And.intro @e_int @exec_tidy) (And.intro @mapO_cons @mapO_nil)) (And.intro (And.intro @mapC_eq @e_ld) (And.intro @exec_block (And.intro @List.drop_zero.{0} @put_cons)))) (And.intro (And.intro (And.intro @List.zipIdx_cons.{0} @evLd_ptr) (And.intro @ldB_eq (And.intro @ldR_eq @row_mix))) (And.intro (And.intro @part_one @evMks_cons) (And.intro @mksA_eq (And.intro @put_nil @mksB_eq))))) (And.intro (And.intro (And.intro (And.intro @e_fa @putB_false) (And.intro @List.drop_succ_cons.{0} @brn_false)) (And.intro (And.intro @exec_ret @brn_true) (And.intro @evMk_box (And.intro @mkBox.eq_1 @List.take_zero.{0})))) (And.intro (And.intro (And.intro @endF_ret @finish.eq_1) (And.intro @exec_skip (And.intro @runFun_eq @startS.eq_1))) (And.intro (And.intro @indexed.eq_1 @evChk_cons) (And.intro @Option.isSome_some.{0} (And.intro @e_bool @e_nil)))))) (And.intro (And.intro (And.intro (And.intro (And.intro @loseH.eq_1 @loseH.eq_2) (And.intro @loseH.eq_3 @Lost.ids.eq_1)) (And.intro (And.intro @Lost.ids.eq_2 @Lost.ids.eq_3) (And.intro @segW_some (And.intro @putB_true @segO_none)))) (And.intro (And.intro (And.intro @e_cons @consV_tup) (And.intro @splice.eq_1 (And.intro @evWr_store @wrStore_ptr))) (And.intro (And.intro @stA_eq @stB_some) (And.intro @set_mix0 (And.intro @part_true @blk_nrm))))) (And.intro (And.intro (And.intro (And.intro @e_ia @ilt_T) (And.intro @mkd.eq_1 (And.intro @eq_f @viewDepth.eq_1))) (And.intro (And.intro @evIa_dm @thn_ret) (And.intro @evLd_d (And.intro @List.any_cons.{0} @List.any_nil.{0})))) (And.intro (And.intro (And.intro @evCall_eq @passes_eq) (And.intro @callA_eq (And.intro @e_agg @aggV_tup))) (And.intro (And.intro @List.length_map.{0,0} @e_call) (And.intro @callV_tup (And.intro @e_len @e_and)))))))) (And.intro (And.intro (And.intro (And.intro (And.intro (And.intro (And.intro @andV_some @reachB_cons) (And.intro @List.contains_nil.{0} @reachC_false)) (And.intro (And.intro @refsO_some @Blk.refs.eq_1) (And.intro @Blk.refs.eq_2 (And.intro @Blk.refs.eq_3 @List.nodup_cons.{0})))) (And.intro (And.intro (And.intro @List.not_mem_nil.{0} @List.idxOf_cons.{0}) (And.intro @List.contains_cons.{0} (And.intro @callR_some @wrap64))) (And.intro (And.intro @List.filterMap_cons.{0,0} @e_nilsl) (And.intro @List.flatMap_cons.{0,0} (And.intro @List.flatMap_nil.{0,0} @withinL.eq_1))))) (And.intro (And.intro (And.intro (And.intro @withinL.eq_2 @renL.eq_1) (And.intro @renL.eq_2 @e_or)) (And.intro (And.intro @orV_some @blk_ret) (And.intro @segs_cons (And.intro @e_un @List.mem_cons.{0})))) (And.intro (And.intro (And.intro @ilt_F @ile_T) (And.intro @e_ext (And.intro @lpT_nrm @e_str))) (And.intro (And.intro @evIa_bsl @iaB_dat) (And.intro @lpT_ret (And.intro @nlt_T @exec_loop)))))) (And.intro (And.intro (And.intro (And.intro (And.intro @row_datm @look_nil) (And.intro @blk_exit @evMk_lits)) (And.intro (And.intro @mkLits_tup @mkBlk.eq_1) (And.intro @nle_T (And.intro @Option.map_none.{0,0} @List.take_succ_cons.{0})))) (And.intro (And.intro (And.intro @ile_F @exec_exit) (And.intro @thn_exit (And.intro @segO_some @e_set))) (And.intro (And.intro @Option.some.injEq.{0} @lpT_exit) (And.intro @o3_some (And.intro @forgetH.eq_1 @Blk.forget.eq_1))))) (And.intro (And.intro (And.intro (And.intro @Blk.forget.eq_2 @Blk.forget.eq_3) (And.intro @callR_pass (And.intro @e_eqs @set_datm))) (And.intro (And.intro @setD_some @evWr_app) (And.intro @Rows.n.eq_1 (And.intro @Rows.n.eq_2 @e_lkp)))) (And.intro (And.intro (And.intro @evLkp_map @lkB_map) (And.intro @findE_seen (And.intro @wonB_one @ne_t))) (And.intro (And.intro @seen_refs @seen_within) (And.intro @seen_ren (And.intro @rows_bsl @rwB_dat))))))) (And.intro (And.intro (And.intro (And.intro (And.intro (And.intro @flatRows_cons @flatRows_nil) (And.intro @forgetR.eq_1 @List.filter_cons.{0})) (And.intro (And.intro @evWr_calle @wrEff_tup) (And.intro @evEff_eq (And.intro @handed.eq_1 @Blk.dim.eq_1)))) (And.intro (And.intro (And.intro @Blk.dim.eq_2 @Blk.dim.eq_3) (And.intro @effA_eq (And.intro @V.dim.eq_1 @V.dim.eq_2))) (And.intro (And.intro @V.dim.eq_3 @V.dim.eq_4) (And.intro @V.dim.eq_5 (And.intro @V.dim.eq_6 @V.dim.eq_7))))) (And.intro (And.intro (And.intro (And.intro @V.dim.eq_8 @V.dim.eq_9) (And.intro @V.dim.eq_10 (And.intro @effR_eq @putAll.eq_1))) (And.intro (And.intro @putAll.eq_2 @backB_eq) (And.intro @Option.getD_some.{0} (And.intro @lkO_none @wrApp_bsl)))) (And.intro (And.intro (And.intro @apA_dat @Blk.app.eq_1) (And.intro @Blk.app.eq_2 (And.intro @Blk.app.eq_3 @Blk.app.eq_4))) (And.intro (And.intro @restH.eq_1 @nth_toNat) (And.intro @evMk_mkm (And.intro @evMk_callo @mkO_tup)))))) (And.intro (And.intro (And.intro (And.intro (And.intro @mkOA_eq @mkOR_some) (And.intro @Blk.plain.eq_1 @Blk.plain.eq_2)) (And.intro (And.intro @Blk.plain.eq_3 @Blk.new.eq_1) (And.intro @Blk.new.eq_2 (And.intro @Blk.new.eq_3 @wrApp_fs)))) (And.intro (And.intro (And.intro @Rows.blk.eq_1 @Rows.blk.eq_2) (And.intro @segW_off (And.intro @andV_false @evMk_mks))) (And.intro (And.intro @most_eq @reachC_true) (And.intro @blk_goto (And.intro @thn_goto @cast7))))) (And.intro (And.intro (And.intro (And.intro @ne_f @finB.eq_1) (And.intro @lkO_some (And.intro @evWr_mclr @wrMclr_map))) (And.intro (And.intro @mcB_map @List.set_cons_succ.{0}) (And.intro @List.set_cons_zero.{0} (And.intro @e_cond @condV_some)))) (And.intro (And.intro (And.intro @List.length_drop.{0} @List.length_take.{0}) (And.intro @e_ix (And.intro @evIx_str @toNat_add1))) (And.intro (And.intro @e_callv @callvV_tup) (And.intro @rows_d (And.intro @exec_goto @lpT_goto))))))))) :=
  (And.intro (And.intro (And.intro (And.intro (And.intro (And.intro (And.intro (And.intro @e_sl @look_cons) (And.intro @lookB_true @o2_some)) (And.intro (And.intro @lookB_false @o1_some) (And.intro @List.length_nil.{0} (And.intro @List.map_nil.{0,0} @evMks_nil)))) (And.intro (And.intro (And.intro @List.nil_append.{0} @List.append_nil.{0}) (And.intro @segL_eq (And.intro @wonB_nil @evChk_nil))) (And.intro (And.intro @evLets_cons @evLets_nil) (And.intro @letC_eq (And.intro @restrict_cons @resC_some))))) (And.intro (And.intro (And.intro (And.intro @restrict_nil @addBlks.eq_1) (And.intro @addBlks.eq_2 @List.map_cons.{0,0})) (And.intro (And.intro @exec_seq @evSeg_eq) (And.intro @segW_none (And.intro @List.cons_append.{0} @segs_nil)))) (And.intro (And.intro (And.intro @nrm_some @thn_nrm) (And.intro @List.zipIdx_nil.{0} (And.intro @exec_reg @evSegs_cons))) (And.intro (And.intro @tidyS_a @tidyA_eq) (And.intro @refsL.eq_1 (And.intro @refsL.eq_2 @reachB_nil)))))) (And.intro (And.intro (And.intro (And.intro (And.intro @tidyB_eq @List.nodup_nil.{0}) (And.intro @List.all_nil.{0} @closedB.eq_1)) (And.intro (And.intro @Blk.ren.eq_1 @Blk.ren.eq_2) (And.intro @Blk.ren.eq_3 (And.intro @List.filterMap_nil.{0,0} @List.filter_nil.{0})))) (And.intro (And.intro (And.intro @range0 @List.all_cons.{0}) (And.intro @V.within.eq_1 (And.intro @V.within.eq_2 @V.within.eq_3))) (And.intro (And.intro @V.within.eq_4 @V.within.eq_5) (And.intro @V.within.eq_6 (And.intro @V.within.eq_7 @V.within.eq_8))))) (And.intro (And.intro (And.intro (And.intro @V.within.eq_9 @V.within.eq_10) (And.intro @V.ren.eq_1 (And.intro @V.ren.eq_2 @V.ren.eq_3))) (And.intro (And.intro @V.ren.eq_4 @V.ren.eq_5) (And.intro @V.ren.eq_6 (And.intro @V.ren.eq_7 @V.ren.eq_8)))) (And.intro (And.intro (And.intro @V.ren.eq_9 @V.ren.eq_10) (And.intro @take_all (And.intro @e_bin @List.length_cons.{0}))) (And.intro (And.intro @Blk.within.eq_1 @Blk.within.eq_2) (And.intro @Blk.within.eq_3 (And.intro @exec_cond @Option.map_some.{0,0}))))))) (And.intro (And.intro (And.intro (And.intro (And.intro (And.intro @e_int @exec_tidy) (And.intro @mapO_cons @mapO_nil)) (And.intro (And.intro @mapC_eq @e_ld) (And.intro @exec_block (And.intro @List.drop_zero.{0} @put_cons)))) (And.intro (And.intro (And.intro @List.zipIdx_cons.{0} @evLd_ptr) (And.intro @ldB_eq (And.intro @ldR_eq @row_mix))) (And.intro (And.intro @part_one @evMks_cons) (And.intro @mksA_eq (And.intro @put_nil @mksB_eq))))) (And.intro (And.intro (And.intro (And.intro @e_fa @putB_false) (And.intro @List.drop_succ_cons.{0} @brn_false)) (And.intro (And.intro @exec_ret @brn_true) (And.intro @evMk_box (And.intro @mkBox.eq_1 @List.take_zero.{0})))) (And.intro (And.intro (And.intro @endF_ret @finish.eq_1) (And.intro @exec_skip (And.intro @runFun_eq @startS.eq_1))) (And.intro (And.intro @indexed.eq_1 @evChk_cons) (And.intro @Option.isSome_some.{0} (And.intro @e_bool @e_nil)))))) (And.intro (And.intro (And.intro (And.intro (And.intro @loseH.eq_1 @loseH.eq_2) (And.intro @loseH.eq_3 @Lost.ids.eq_1)) (And.intro (And.intro @Lost.ids.eq_2 @Lost.ids.eq_3) (And.intro @segW_some (And.intro @putB_true @segO_none)))) (And.intro (And.intro (And.intro @e_cons @consV_tup) (And.intro @splice.eq_1 (And.intro @evWr_store @wrStore_ptr))) (And.intro (And.intro @stA_eq @stB_some) (And.intro @set_mix0 (And.intro @part_true @blk_nrm))))) (And.intro (And.intro (And.intro (And.intro @e_ia @ilt_T) (And.intro @mkd.eq_1 (And.intro @eq_f @viewDepth.eq_1))) (And.intro (And.intro @evIa_dm @thn_ret) (And.intro @evLd_d (And.intro @List.any_cons.{0} @List.any_nil.{0})))) (And.intro (And.intro (And.intro @evCall_eq @passes_eq) (And.intro @callA_eq (And.intro @e_agg @aggV_tup))) (And.intro (And.intro @List.length_map.{0,0} @e_call) (And.intro @callV_tup (And.intro @e_len @e_and)))))))) (And.intro (And.intro (And.intro (And.intro (And.intro (And.intro (And.intro @andV_some @reachB_cons) (And.intro @List.contains_nil.{0} @reachC_false)) (And.intro (And.intro @refsO_some @Blk.refs.eq_1) (And.intro @Blk.refs.eq_2 (And.intro @Blk.refs.eq_3 @List.nodup_cons.{0})))) (And.intro (And.intro (And.intro @List.not_mem_nil.{0} @List.idxOf_cons.{0}) (And.intro @List.contains_cons.{0} (And.intro @callR_some @wrap64))) (And.intro (And.intro @List.filterMap_cons.{0,0} @e_nilsl) (And.intro @List.flatMap_cons.{0,0} (And.intro @List.flatMap_nil.{0,0} @withinL.eq_1))))) (And.intro (And.intro (And.intro (And.intro @withinL.eq_2 @renL.eq_1) (And.intro @renL.eq_2 @e_or)) (And.intro (And.intro @orV_some @blk_ret) (And.intro @segs_cons (And.intro @e_un @List.mem_cons.{0})))) (And.intro (And.intro (And.intro @ilt_F @ile_T) (And.intro @e_ext (And.intro @lpT_nrm @e_str))) (And.intro (And.intro @evIa_bsl @iaB_dat) (And.intro @lpT_ret (And.intro @nlt_T @exec_loop)))))) (And.intro (And.intro (And.intro (And.intro (And.intro @row_datm @look_nil) (And.intro @blk_exit @evMk_lits)) (And.intro (And.intro @mkLits_tup @mkBlk.eq_1) (And.intro @nle_T (And.intro @Option.map_none.{0,0} @List.take_succ_cons.{0})))) (And.intro (And.intro (And.intro @ile_F @exec_exit) (And.intro @thn_exit (And.intro @segO_some @e_set))) (And.intro (And.intro @Option.some.injEq.{0} @lpT_exit) (And.intro @o3_some (And.intro @forgetH.eq_1 @Blk.forget.eq_1))))) (And.intro (And.intro (And.intro (And.intro @Blk.forget.eq_2 @Blk.forget.eq_3) (And.intro @callR_pass (And.intro @e_eqs @set_datm))) (And.intro (And.intro @setD_some @evWr_app) (And.intro @Rows.n.eq_1 (And.intro @Rows.n.eq_2 @e_lkp)))) (And.intro (And.intro (And.intro @evLkp_map @lkB_map) (And.intro @findE_seen (And.intro @wonB_one @ne_t))) (And.intro (And.intro @seen_refs @seen_within) (And.intro @seen_ren (And.intro @rows_bsl @rwB_dat))))))) (And.intro (And.intro (And.intro (And.intro (And.intro (And.intro @flatRows_cons @flatRows_nil) (And.intro @forgetR.eq_1 @List.filter_cons.{0})) (And.intro (And.intro @evWr_calle @wrEff_tup) (And.intro @evEff_eq (And.intro @handed.eq_1 @Blk.dim.eq_1)))) (And.intro (And.intro (And.intro @Blk.dim.eq_2 @Blk.dim.eq_3) (And.intro @effA_eq (And.intro @V.dim.eq_1 @V.dim.eq_2))) (And.intro (And.intro @V.dim.eq_3 @V.dim.eq_4) (And.intro @V.dim.eq_5 (And.intro @V.dim.eq_6 @V.dim.eq_7))))) (And.intro (And.intro (And.intro (And.intro @V.dim.eq_8 @V.dim.eq_9) (And.intro @V.dim.eq_10 (And.intro @effR_eq @putAll.eq_1))) (And.intro (And.intro @putAll.eq_2 @backB_eq) (And.intro @Option.getD_some.{0} (And.intro @lkO_none @wrApp_bsl)))) (And.intro (And.intro (And.intro @apA_dat @Blk.app.eq_1) (And.intro @Blk.app.eq_2 (And.intro @Blk.app.eq_3 @Blk.app.eq_4))) (And.intro (And.intro @restH.eq_1 @nth_toNat) (And.intro @evMk_mkm (And.intro @evMk_callo @mkO_tup)))))) (And.intro (And.intro (And.intro (And.intro (And.intro @mkOA_eq @mkOR_some) (And.intro @Blk.plain.eq_1 @Blk.plain.eq_2)) (And.intro (And.intro @Blk.plain.eq_3 @Blk.new.eq_1) (And.intro @Blk.new.eq_2 (And.intro @Blk.new.eq_3 @wrApp_fs)))) (And.intro (And.intro (And.intro @Rows.blk.eq_1 @Rows.blk.eq_2) (And.intro @segW_off (And.intro @andV_false @evMk_mks))) (And.intro (And.intro @most_eq @reachC_true) (And.intro @blk_goto (And.intro @thn_goto @cast7))))) (And.intro (And.intro (And.intro (And.intro @ne_f @finB.eq_1) (And.intro @lkO_some (And.intro @evWr_mclr @wrMclr_map))) (And.intro (And.intro @mcB_map @List.set_cons_succ.{0}) (And.intro @List.set_cons_zero.{0} (And.intro @e_cond @condV_some)))) (And.intro (And.intro (And.intro @List.length_drop.{0} @List.length_take.{0}) (And.intro @e_ix (And.intro @evIx_str @toNat_add1))) (And.intro (And.intro @e_callv @callvV_tup) (And.intro @rows_d (And.intro @exec_goto @lpT_goto)))))))))

end Go.Vm
end

section
namespace Go.Vm

theorem zrefs_d   (c x) : (V.d c x).refs = [] := rfl
theorem zrefs_fs   (c k r) : (V.fs c k r).refs = [] := rfl
theorem zrefs_junk   : (V.junk).refs = [] := rfl
theorem znew1_ptr   (b i j) : (V.ptr b i j).new1 = false := rfl
theorem znew1_bsl   (b i n) : (V.bsl b i n).new1 = false := rfl
theorem znew1_map   (b) : (V.map b).new1 = false := rfl
theorem znew1_agg   (cs) : (V.agg cs).new1 = false := rfl
theorem znew1_tup   (vs) : (V.tup vs).new1 = false := rfl
theorem znew1_fn   (f cs) : (V.fn f cs).new1 = false := rfl
theorem znew1_iface   (t v) : (V.iface t v).new1 = false := rfl
theorem znew1_junk   : (V.junk).new1 = false := rfl
theorem znew_d   (c x) : (V.d c x).new = (V.d c x).new1 := rfl
theorem znew_fs   (c k r) : (V.fs c k r).new = (V.fs c k r).new1 := rfl
theorem znew_ptr   (b i j) : (V.ptr b i j).new = (V.ptr b i j).new1 := rfl
theorem znew_bsl   (b i n) : (V.bsl b i n).new = (V.bsl b i n).new1 := rfl
theorem znew_map   (b) : (V.map b).new = (V.map b).new1 := rfl
theorem znew_fn   (f cs) : (V.fn f cs).new = (V.fn f cs).new1 := rfl
theorem znew_iface   (t v) : (V.iface t v).new = (V.iface t v).new1 := rfl
theorem znew_junk   : (V.junk).new = (V.junk).new1 := rfl
theorem zown1_ptr   (b i j) : (V.ptr b i j).own1 = true := rfl
theorem zown1_bsl   (b i n) : (V.bsl b i n).own1 = true := rfl
theorem zown1_map   (b) : (V.map b).own1 = true := rfl
theorem zown1_agg   (cs) : (V.agg cs).own1 = true := rfl
theorem zown1_tup   (vs) : (V.tup vs).own1 = true := rfl
theorem zown1_fn   (f cs) : (V.fn f cs).own1 = true := rfl
theorem zown1_iface   (t v) : (V.iface t v).own1 = true := rfl
theorem zown1_junk   : (V.junk).own1 = true := rfl
theorem zown_d   (c x) : (V.d c x).own = (V.d c x).own1 := rfl
theorem zown_fs   (c k r) : (V.fs c k r).own = (V.fs c k r).own1 := rfl
theorem zown_ptr   (b i j) : (V.ptr b i j).own = (V.ptr b i j).own1 := rfl
theorem zown_bsl   (b i n) : (V.bsl b i n).own = (V.bsl b i n).own1 := rfl
theorem zown_map   (b) : (V.map b).own = (V.map b).own1 := rfl
theorem zown_tup   (vs) : (V.tup vs).own = (V.tup vs).own1 := rfl
theorem zown_iface   (t v) : (V.iface t v).own = (V.iface t v).own1 := rfl
theorem zown_junk   : (V.junk).own = (V.junk).own1 := rfl
theorem zflat1_fs   (c k r) : (V.fs c k r).flat1 = false := rfl
theorem zflat1_ptr   (b i j) : (V.ptr b i j).flat1 = false := rfl
theorem zflat1_bsl   (b i n) : (V.bsl b i n).flat1 = false := rfl
theorem zflat1_map   (b) : (V.map b).flat1 = false := rfl
theorem zflat1_agg   (cs) : (V.agg cs).flat1 = false := rfl
theorem zflat1_tup   (vs) : (V.tup vs).flat1 = false := rfl
theorem zflat1_fn   (f cs) : (V.fn f cs).flat1 = false := rfl
theorem zflat1_iface   (t v) : (V.iface t v).flat1 = false := rfl
theorem zflat1_junk   : (V.junk).flat1 = false := rfl
theorem zflatV_d   (c x) : (V.d c x).flatV = (V.d c x).flat1 := rfl
theorem zflatV_fs   (c k r) : (V.fs c k r).flatV = (V.fs c k r).flat1 := rfl
theorem zflatV_ptr   (b i j) : (V.ptr b i j).flatV = (V.ptr b i j).flat1 := rfl
theorem zflatV_bsl   (b i n) : (V.bsl b i n).flatV = (V.bsl b i n).flat1 := rfl
theorem zflatV_map   (b) : (V.map b).flatV = (V.map b).flat1 := rfl
theorem zflatV_tup   (vs) : (V.tup vs).flatV = (V.tup vs).flat1 := rfl
theorem zflatV_fn   (f cs) : (V.fn f cs).flatV = (V.fn f cs).flat1 := rfl
theorem zflatV_iface   (t v) : (V.iface t v).flatV = (V.iface t v).flat1 := rfl
theorem zflatV_junk   : (V.junk).flatV = (V.junk).flat1 := rfl
theorem zview_d (H)  (c x) : view H (V.d c x) = (viewD viewDepth H (V.d c x)).map (.d false) := rfl
theorem zview_fs (H)  (c k r) : view H (V.fs c k r) = (viewD viewDepth H (V.fs c k r)).map (.d false) := rfl
theorem zview_ptr (H)  (b i j) : view H (V.ptr b i j) = (viewD viewDepth H (V.ptr b i j)).map (.d false) := rfl
theorem zview_bsl (H)  (b i n) : view H (V.bsl b i n) = (viewD viewDepth H (V.bsl b i n)).map (.d false) := rfl
theorem zview_map (H)  (b) : view H (V.map b) = (viewD viewDepth H (V.map b)).map (.d false) := rfl
theorem zview_tup (H)  (vs) : view H (V.tup vs) = (viewD viewDepth H (V.tup vs)).map (.d false) := rfl
theorem zview_iface (H)  (t v) : view H (V.iface t v) = (viewD viewDepth H (V.iface t v)).map (.d false) := rfl
theorem zview_junk (H)  : view H (V.junk) = (viewD viewDepth H (V.junk)).map (.d false) := rfl
theorem zlaid_d   (c x) : (V.d c x).laid = (V.d c x).cell := rfl
theorem zlaid_fs   (c k r) : (V.fs c k r).laid = (V.fs c k r).cell := rfl
theorem zlaid_ptr   (b i j) : (V.ptr b i j).laid = (V.ptr b i j).cell := rfl
theorem zlaid_bsl   (b i n) : (V.bsl b i n).laid = (V.bsl b i n).cell := rfl
theorem zlaid_map   (b) : (V.map b).laid = (V.map b).cell := rfl
theorem zlaid_tup   (vs) : (V.tup vs).laid = (V.tup vs).cell := rfl
theorem zlaid_fn   (f cs) : (V.fn f cs).laid = (V.fn f cs).cell := rfl
theorem zlaid_iface   (t v) : (V.iface t v).laid = (V.iface t v).cell := rfl
theorem zlaid_junk   : (V.junk).laid = (V.junk).cell := rfl
theorem zcells_d   (c x) : (V.d c x).cells = [(V.d c x)] := rfl
theorem zcells_fs   (c k r) : (V.fs c k r).cells = [(V.fs c k r)] := rfl
theorem zcells_ptr   (b i j) : (V.ptr b i j).cells = [(V.ptr b i j)] := rfl
theorem zcells_bsl   (b i n) : (V.bsl b i n).cells = [(V.bsl b i n)] := rfl
theorem zcells_map   (b) : (V.map b).cells = [(V.map b)] := rfl
theorem zcells_tup   (vs) : (V.tup vs).cells = [(V.tup vs)] := rfl
theorem zcells_fn   (f cs) : (V.fn f cs).cells = [(V.fn f cs)] := rfl
theorem zcells_iface   (t v) : (V.iface t v).cells = [(V.iface t v)] := rfl
theorem zcells_junk   : (V.junk).cells = [(V.junk)] := rfl
theorem zfinV_d (z) (bs) (H)  (c x) : finV z bs H (V.d c x) = finA z bs H (V.d c x) := rfl
theorem zfinV_fs (z) (bs) (H)  (c k r) : finV z bs H (V.fs c k r) = finA z bs H (V.fs c k r) := rfl
theorem zfinV_ptr (z) (bs) (H)  (b i j) : finV z bs H (V.ptr b i j) = finA z bs H (V.ptr b i j) := rfl
theorem zfinV_bsl (z) (bs) (H)  (b i n) : finV z bs H (V.bsl b i n) = finA z bs H (V.bsl b i n) := rfl
theorem zfinV_map (z) (bs) (H)  (b) : finV z bs H (V.map b) = finA z bs H (V.map b) := rfl
theorem zfinV_agg (z) (bs) (H)  (cs) : finV z bs H (V.agg cs) = finA z bs H (V.agg cs) := rfl
theorem zfinV_fn (z) (bs) (H)  (f cs) : finV z bs H (V.fn f cs) = finA z bs H (V.fn f cs) := rfl
theorem zfinV_iface (z) (bs) (H)  (t v) : finV z bs H (V.iface t v) = finA z bs H (V.iface t v) := rfl
theorem zfinV_junk (z) (bs) (H)  : finV z bs H (V.junk) = finA z bs H (V.junk) := rfl
theorem zfinA_d (z) (bs) (H)  (c x) : finA z bs H (V.d c x) = finC z bs H (V.d c x) := rfl
theorem zfinA_fs (z) (bs) (H)  (c k r) : finA z bs H (V.fs c k r) = finC z bs H (V.fs c k r) := rfl
theorem zfinA_ptr (z) (bs) (H)  (b i j) : finA z bs H (V.ptr b i j) = finC z bs H (V.ptr b i j) := rfl
theorem zfinA_bsl (z) (bs) (H)  (b i n) : finA z bs H (V.bsl b i n) = finC z bs H (V.bsl b i n) := rfl
theorem zfinA_map (z) (bs) (H)  (b) : finA z bs H (V.map b) = finC z bs H (V.map b) := rfl
theorem zfinA_tup (z) (bs) (H)  (vs) : finA z bs H (V.tup vs) = finC z bs H (V.tup vs) := rfl
theorem zfinA_iface (z) (bs) (H)  (t v) : finA z bs H (V.iface t v) = finC z bs H (V.iface t v) := rfl
theorem zfinA_junk (z) (bs) (H)  : finA z bs H (V.junk) = finC z bs H (V.junk) := rfl
theorem zcell_agg   (cs) : (V.agg cs).cell = false := rfl
theorem zcell_tup   (vs) : (V.tup vs).cell = false := rfl
theorem zcell_junk   : (V.junk).cell = false := rfl
theorem zcell_d   (c x) : (V.d c x).cell = true := rfl
theorem zcell_fs   (c k r) : (V.fs c k r).cell = true := rfl
theorem zcell_ptr   (b i j) : (V.ptr b i j).cell = true := rfl
theorem zcell_bsl   (b i n) : (V.bsl b i n).cell = true := rfl
theorem zcell_map   (b) : (V.map b).cell = true := rfl
theorem zcell_fn   (f cs) : (V.fn f cs).cell = true := rfl
theorem zcell_iface   (t v) : (V.iface t v).cell = true := rfl
theorem zdf_int (k n) : (D.int k n).flat = true := rfl
theorem zdf_bool (b) : (D.bool b).flat = true := rfl
theorem zdf_str (s) : (D.str s).flat = true := rfl
theorem zdf_sl (k r) : (D.sl k r).flat = false := rfl
theorem zdf_ptr (c) : (D.ptr c).flat = false := rfl
theorem zdf_nilp : (D.nilp).flat = true := rfl
theorem zdf_nilif : (D.nilif).flat = true := rfl
theorem zdf_nilfn : (D.nilfn).flat = true := rfl
theorem zdf_iface (t c) : (D.iface t c).flat = false := rfl
theorem zdf_nils (k) : (D.nils k).flat = true := rfl
theorem zdf_emps (k) : (D.emps k).flat = true := rfl
theorem zdf_nilm : (D.nilm).flat = true := rfl

theorem SW : type_of% (And.intro (And.intro (And.intro (And.intro (And.intro (And.intro (And.intro @beq_self_eq_true.{0} (And.intro @if_true.{1} @Bool.and_self)) (And.intro (And.intro @decide_true @Nat.zero_add) (And.intro @if_false.{1} @Bool.false_eq_true))) (And.intro (And.intro @Bool.or_true (And.intro @Bool.or_self @Bool.and_false)) (And.intro (And.intro @Bool.not_true @List.getElem?_cons_zero.{0}) (And.intro @Bool.false_and @Bool.or_false)))) (And.intro (And.intro (And.intro @Nat.le_refl (And.intro @decide_false @and_self)) (And.intro (And.intro @not_false_eq_true @cond_true.{1}) (And.intro @Nat.add_zero @Bool.and_true))) (And.intro (And.intro @Bool.not_false (And.intro @List.getElem?_cons_succ.{0} @or_self)) (And.intro (And.intro @cond_false.{1} @bne_self_eq_false.{0}) (And.intro @e_cut @o4_some))))) (And.intro (And.intro (And.intro (And.intro @Bool.true_or (And.intro @beq_iff_eq.{0} @or_false)) (And.intro (And.intro @eq_t @or_true) (And.intro @e_nilif @List.length_append.{0}))) (And.intro (And.intro @Int.toNat_natCast (And.intro @and_true @true_or)) (And.intro (And.intro @e_conv @orV_true) (And.intro @Bool.true_and @Prod.mk.injEq.{0,0})))) (And.intro (And.intro (And.intro @evBin.eq_1 (And.intro @evBin.eq_2 @intBin.eq_1)) (And.intro (And.intro @intBin.eq_2 @intBin.eq_3) (And.intro @intBin.eq_4 @intBin.eq_5))) (And.intro (And.intro @intBin.eq_6 (And.intro @intBin.eq_7 @intBin.eq_8)) (And.intro (And.intro @intBin.eq_9 @intBin.eq_10) (And.intro @intBin.eq_11 @intBin.eq_12)))))) (And.intro (And.intro (And.intro (And.intro (And.intro @intBin.eq_13 (And.intro @intBin.eq_14 @intBin.eq_15)) (And.intro (And.intro @evLen.eq_1 @evLen.eq_2) (And.intro @evLen.eq_3 @evLen.eq_4))) (And.intro (And.intro @evFa.eq_1 (And.intro @evFa.eq_2 @strBin.eq_1)) (And.intro (And.intro @strBin.eq_2 @strBin.eq_3) (And.intro @strBin.eq_4 @strBin.eq_5)))) (And.intro (And.intro (And.intro @strBin.eq_6 (And.intro @strBin.eq_7 @evUn.eq_1)) (And.intro (And.intro @evUn.eq_2 @evExt.eq_1) (And.intro @evSet.eq_1 @asD.eq_1))) (And.intro (And.intro @asD.eq_2 (And.intro @V.refs.eq_1 @V.refs.eq_2)) (And.intro (And.intro @V.refs.eq_3 @V.refs.eq_4) (And.intro @V.refs.eq_5 @V.refs.eq_6))))) (And.intro (And.intro (And.intro (And.intro @V.refs.eq_7 (And.intro @V.new1.eq_1 @V.new1.eq_2)) (And.intro (And.intro @V.new.eq_1 @V.new.eq_2) (And.intro @V.own.eq_1 @V.own.eq_2))) (And.intro (And.intro @V.own1.eq_1 (And.intro @V.own1.eq_2 @V.flat1.eq_1)) (And.intro (And.intro @V.flatV.eq_1 @view.eq_1) (And.intro @view.eq_2 @V.laid.eq_1)))) (And.intro (And.intro (And.intro @V.cells.eq_1 (And.intro @finC.eq_1 @finC.eq_2)) (And.intro (And.intro @finC.eq_3 @finC.eq_4) (And.intro @finC.eq_5 @finC.eq_6))) (And.intro (And.intro (And.intro @finA.eq_1 @finA.eq_2) (And.intro @finV.eq_1 @zrefs_d)) (And.intro (And.intro @zrefs_fs @zrefs_junk) (And.intro @znew1_ptr @znew1_bsl))))))) (And.intro (And.intro (And.intro (And.intro (And.intro (And.intro @znew1_map (And.intro @znew1_agg @znew1_tup)) (And.intro (And.intro @znew1_fn @znew1_iface) (And.intro @znew1_junk @znew_d))) (And.intro (And.intro @znew_fs (And.intro @znew_ptr @znew_bsl)) (And.intro (And.intro @znew_map @znew_fn) (And.intro @znew_iface @znew_junk)))) (And.intro (And.intro (And.intro @zown1_ptr (And.intro @zown1_bsl @zown1_map)) (And.intro (And.intro @zown1_agg @zown1_tup) (And.intro @zown1_fn @zown1_iface))) (And.intro (And.intro @zown1_junk (And.intro @zown_d @zown_fs)) (And.intro (And.intro @zown_ptr @zown_bsl) (And.intro @zown_map @zown_tup))))) (And.intro (And.intro (And.intro (And.intro @zown_iface (And.intro @zown_junk @zflat1_fs)) (And.intro (And.intro @zflat1_ptr @zflat1_bsl) (And.intro @zflat1_map @zflat1_agg))) (And.intro (And.intro @zflat1_tup (And.intro @zflat1_fn @zflat1_iface)) (And.intro (And.intro @zflat1_junk @zflatV_d) (And.intro @zflatV_fs @zflatV_ptr)))) (And.intro (And.intro (And.intro @zflatV_bsl (And.intro @zflatV_map @zflatV_tup)) (And.intro (And.intro @zflatV_fn @zflatV_iface) (And.intro @zflatV_junk @zview_d))) (And.intro (And.intro @zview_fs (And.intro @zview_ptr @zview_bsl)) (And.intro (And.intro @zview_map @zview_tup) (And.intro @zview_iface @zview_junk)))))) (And.intro (And.intro (And.intro (And.intro (And.intro @zlaid_d (And.intro @zlaid_fs @zlaid_ptr)) (And.intro (And.intro @zlaid_bsl @zlaid_map) (And.intro @zlaid_tup @zlaid_fn))) (And.intro (And.intro @zlaid_iface (And.intro @zlaid_junk @zcells_d)) (And.intro (And.intro @zcells_fs @zcells_ptr) (And.intro @zcells_bsl @zcells_map)))) (And.intro (And.intro (And.intro @zcells_tup (And.intro @zcells_fn @zcells_iface)) (And.intro (And.intro @zcells_junk @zfinV_d) (And.intro @zfinV_fs @zfinV_ptr))) (And.intro (And.intro @zfinV_bsl (And.intro @zfinV_map @zfinV_agg)) (And.intro (And.intro @zfinV_fn @zfinV_iface) (And.intro @zfinV_junk @zfinA_d))))) (And.intro (And.intro (And.intro (And.intro @zfinA_fs (And.intro @zfinA_ptr @zfinA_bsl)) (And.intro (And.intro @zfinA_map @zfinA_tup) (And.intro @zfinA_iface @zfinA_junk))) (And.intro (And.intro @zcell_agg (And.intro @zcell_tup @zcell_junk)) (And.intro (And.intro @zcell_d @zcell_fs) (And.intro @zcell_ptr @zcell_bsl)))) (And.intro (And.intro (And.intro @zcell_map (And.intro @zcell_fn @zcell_iface)) (And.intro (And.intro @zdf_int @zdf_bool) (And.intro @zdf_str @zdf_sl))) (And.intro (And.intro (And.intro @zdf_ptr @zdf_nilp) (And.intro @zdf_nilif @zdf_nilfn)) (And.intro (And.intro @zdf_iface @zdf_nils) (And.intro @zdf_emps @zdf_nilm)))))))) :=
  (And.intro (And.intro (And.intro (And.intro (And.intro (And.intro (And.intro @beq_self_eq_true.{0} (And.intro @if_true.{1} @Bool.and_self)) (And.intro (And.intro @decide_true @Nat.zero_add) (And.intro @if_false.{1} @Bool.false_eq_true))) (And.intro (And.intro @Bool.or_true (And.intro @Bool.or_self @Bool.and_false)) (And.intro (And.intro @Bool.not_true @List.getElem?_cons_zero.{0}) (And.intro @Bool.false_and @Bool.or_false)))) (And.intro (And.intro (And.intro @Nat.le_refl (And.intro @decide_false @and_self)) (And.intro (And.intro @not_false_eq_true @cond_true.{1}) (And.intro @Nat.add_zero @Bool.and_true))) (And.intro (And.intro @Bool.not_false (And.intro @List.getElem?_cons_succ.{0} @or_self)) (And.intro (And.intro @cond_false.{1} @bne_self_eq_false.{0}) (And.intro @e_cut @o4_some))))) (And.intro (And.intro (And.intro (And.intro @Bool.true_or (And.intro @beq_iff_eq.{0} @or_false)) (And.intro (And.intro @eq_t @or_true) (And.intro @e_nilif @List.length_append.{0}))) (And.intro (And.intro @Int.toNat_natCast (And.intro @and_true @true_or)) (And.intro (And.intro @e_conv @orV_true) (And.intro @Bool.true_and @Prod.mk.injEq.{0,0})))) (And.intro (And.intro (And.intro @evBin.eq_1 (And.intro @evBin.eq_2 @intBin.eq_1)) (And.intro (And.intro @intBin.eq_2 @intBin.eq_3) (And.intro @intBin.eq_4 @intBin.eq_5))) (And.intro (And.intro @intBin.eq_6 (And.intro @intBin.eq_7 @intBin.eq_8)) (And.intro (And.intro @intBin.eq_9 @intBin.eq_10) (And.intro @intBin.eq_11 @intBin.eq_12)))))) (And.intro (And.intro (And.intro (And.intro (And.intro @intBin.eq_13 (And.intro @intBin.eq_14 @intBin.eq_15)) (And.intro (And.intro @evLen.eq_1 @evLen.eq_2) (And.intro @evLen.eq_3 @evLen.eq_4))) (And.intro (And.intro @evFa.eq_1 (And.intro @evFa.eq_2 @strBin.eq_1)) (And.intro (And.intro @strBin.eq_2 @strBin.eq_3) (And.intro @strBin.eq_4 @strBin.eq_5)))) (And.intro (And.intro (And.intro @strBin.eq_6 (And.intro @strBin.eq_7 @evUn.eq_1)) (And.intro (And.intro @evUn.eq_2 @evExt.eq_1) (And.intro @evSet.eq_1 @asD.eq_1))) (And.intro (And.intro @asD.eq_2 (And.intro @V.refs.eq_1 @V.refs.eq_2)) (And.intro (And.intro @V.refs.eq_3 @V.refs.eq_4) (And.intro @V.refs.eq_5 @V.refs.eq_6))))) (And.intro (And.intro (And.intro (And.intro @V.refs.eq_7 (And.intro @V.new1.eq_1 @V.new1.eq_2)) (And.intro (And.intro @V.new.eq_1 @V.new.eq_2) (And.intro @V.own.eq_1 @V.own.eq_2))) (And.intro (And.intro @V.own1.eq_1 (And.intro @V.own1.eq_2 @V.flat1.eq_1)) (And.intro (And.intro @V.flatV.eq_1 @view.eq_1) (And.intro @view.eq_2 @V.laid.eq_1)))) (And.intro (And.intro (And.intro @V.cells.eq_1 (And.intro @finC.eq_1 @finC.eq_2)) (And.intro (And.intro @finC.eq_3 @finC.eq_4) (And.intro @finC.eq_5 @finC.eq_6))) (And.intro (And.intro (And.intro @finA.eq_1 @finA.eq_2) (And.intro @finV.eq_1 @zrefs_d)) (And.intro (And.intro @zrefs_fs @zrefs_junk) (And.intro @znew1_ptr @znew1_bsl))))))) (And.intro (And.intro (And.intro (And.intro (And.intro (And.intro @znew1_map (And.intro @znew1_agg @znew1_tup)) (And.intro (And.intro @znew1_fn @znew1_iface) (And.intro @znew1_junk @znew_d))) (And.intro (And.intro @znew_fs (And.intro @znew_ptr @znew_bsl)) (And.intro (And.intro @znew_map @znew_fn) (And.intro @znew_iface @znew_junk)))) (And.intro (And.intro (And.intro @zown1_ptr (And.intro @zown1_bsl @zown1_map)) (And.intro (And.intro @zown1_agg @zown1_tup) (And.intro @zown1_fn @zown1_iface))) (And.intro (And.intro @zown1_junk (And.intro @zown_d @zown_fs)) (And.intro (And.intro @zown_ptr @zown_bsl) (And.intro @zown_map @zown_tup))))) (And.intro (And.intro (And.intro (And.intro @zown_iface (And.intro @zown_junk @zflat1_fs)) (And.intro (And.intro @zflat1_ptr @zflat1_bsl) (And.intro @zflat1_map @zflat1_agg))) (And.intro (And.intro @zflat1_tup (And.intro @zflat1_fn @zflat1_iface)) (And.intro (And.intro @zflat1_junk @zflatV_d) (And.intro @zflatV_fs @zflatV_ptr)))) (And.intro (And.intro (And.intro @zflatV_bsl (And.intro @zflatV_map @zflatV_tup)) (And.intro (And.intro @zflatV_fn @zflatV_iface) (And.intro @zflatV_junk @zview_d))) (And.intro (And.intro @zview_fs (And.intro @zview_ptr @zview_bsl)) (And.intro (And.intro @zview_map @zview_tup) (And.intro @zview_iface @zview_junk)))))) (And.intro (And.intro (And.intro (And.intro (And.intro @zlaid_d (And.intro @zlaid_fs @zlaid_ptr)) (And.intro (And.intro @zlaid_bsl @zlaid_map) (And.intro @zlaid_tup @zlaid_fn))) (And.intro (And.intro @zlaid_iface (And.intro @zlaid_junk @zcells_d)) (And.intro (And.intro @zcells_fs @zcells_ptr) (And.intro @zcells_bsl @zcells_map)))) (And.intro (And.intro (And.intro @zcells_tup (And.intro @zcells_fn @zcells_iface)) (And.intro (And.intro @zcells_junk @zfinV_d) (And.intro @zfinV_fs @zfinV_ptr))) (And.intro (And.intro @zfinV_bsl (And.intro @zfinV_map @zfinV_agg)) (And.intro (And.intro @zfinV_fn @zfinV_iface) (And.intro @zfinV_junk @zfinA_d))))) (And.intro (And.intro (And.intro (And.intro @zfinA_fs (And.intro @zfinA_ptr @zfinA_bsl)) (And.intro (And.intro @zfinA_map @zfinA_tup) (And.intro @zfinA_iface @zfinA_junk))) (And.intro (And.intro @zcell_agg (And.intro @zcell_tup @zcell_junk)) (And.intro (And.intro @zcell_d @zcell_fs) (And.intro @zcell_ptr @zcell_bsl)))) (And.intro (And.intro (And.intro @zcell_map (And.intro @zcell_fn @zcell_iface)) (And.intro (And.intro @zdf_int @zdf_bool) (And.intro @zdf_str @zdf_sl))) (And.intro (And.intro (And.intro @zdf_ptr @zdf_nilp) (And.intro @zdf_nilif @zdf_nilfn)) (And.intro (And.intro @zdf_iface @zdf_nils) (And.intro @zdf_emps @zdf_nilm))))))))

end Go.Vm
end

section
namespace Go.Vm
open Go.RowKit

section
variable {P : Program} {w : World}

def Same (w : World) (v v' : Value) : Prop := v'.ownBlock = v.ownBlock ∨ ∃ g, v'.ownBlock = some g ∧ w.heap.size ≤ g

theorem append_ownX (t ty e : TypeId) (i : TypeInfo) (ht : P.underlying t = some (.slice e)) (hi : P.info? e = some i) (hz : i.zero = some (.int .u8 0)) (hsize : i.size = 1) (hby : i.bytes = 1)
    (v : Value) (n : Nat) (xs : List Value) (hown : w.ownsRowF 0 e 1 v n xs)
    (a : Addr) (m c : Nat) (news : List Value) (hl : news.length = m) (hnews : ∀ j u, news[j]? = some u → w.cell? (a.add j) = some u) (h1 : ∀ u ∈ news, u.oneCell' = true) (h63 : n + m ≤ maxLen) (hbytes : n + m ≤ 140737488355328) :
    ∃ v' w', (Builtin.append_ #[t, t] ty #[v, .slice (some a) m c]).run P w = .ok v' w' ∧ w'.ownsRowF 0 e 1 v' (n + m) (xs ++ news) ∧ w.grownBy w' v.ownBlock ∧ (v' = .slice none 0 0 ↔ v = .slice none 0 0 ∧ m = 0) ∧ Same w v v' := by
  obtain ⟨v', w', r1, r2, r3, r4⟩ := run_append_ownF (P := P) w 0 t ty e i (.int .u8 0) 1 1 ht hi hz hsize hby rfl (by decide) v n xs hown a m c news (by omega) hnews h1 h63 (by omega) (Nat.zero_le _)
  refine ⟨v', w', r1, r2, r3, r4, ?_⟩
  rcases hown.2 with ⟨rfl, rfl⟩ | ⟨g, cap, cur, fz, rfl, hbg, hg, hfz, hnc, hcm, hcs, htake⟩
  · obtain ⟨v2, w2, q1, q2, q3, q4⟩ := run_append_ownF (P := P) w w.heap.size t ty e i (.int .u8 0) 1 1 ht hi hz hsize hby rfl (by decide) (.slice none 0 0) 0 xs ⟨hown.1, .inl ⟨rfl, rfl⟩⟩ a m c news (by omega) hnews h1 h63 (by omega) (Nat.le_refl _)
    rw [r1] at q1
    obtain ⟨rfl, rfl⟩ : v' = v2 ∧ w' = w2 := by injection q1 with e1 e2; exact ⟨e1, e2⟩
    cases ho : v'.ownBlock with
    | none => exact .inl (by rw [ho]; rfl)
    | some g => exact .inr ⟨g, ho, (q2.lt g ho).1⟩
  · by_cases hroom : n + m ≤ cap
    · have hr := run_append_roomF (P := P) w t ty e i ht hi g n cap cur fz hg (by rw [hsize]; exact hfz) a m c news (by rw [hsize]; omega) hnews h1 hroom (by rw [hsize]; omega)
      rw [r1] at hr
      obtain ⟨rfl, _⟩ : v' = .slice (some ⟨g, 0, none⟩) (n + m) cap ∧ True := by injection hr with e1 e2; exact ⟨e1, trivial⟩
      exact .inl rfl
    · have holds : ∀ j u, xs[j]? = some u → w.cell? ((⟨g, 0, none⟩ : Addr).add j) = some u := hown.cells (g := g) rfl
      have hsmall : n + m ≤ 9223372036854775807 := by simp only [maxLen] at h63; omega
      have hr := run_append_grow (P := P) w t ty e i (.int .u8 0) ht hi hz ⟨g, 0, none⟩ n cap xs (by rw [hsize]; exact hown.1) holds a m c news (by rw [hsize]; omega) hnews (by omega) (by omega) (growslice_fits (by omega) (by rw [hby]; omega))
      rw [r1] at hr
      obtain ⟨rfl, _⟩ : v' = .slice (some ⟨w.heap.size, 0, none⟩) (n + m) (grownCap w (n + m) cap e) ∧ True := by injection hr with e1 e2; exact ⟨e1, trivial⟩
      exact .inr ⟨w.heap.size, rfl, Nat.le_refl _⟩

theorem append_own_strX (t u ty e : TypeId) (i : TypeInfo) (ht : P.underlying t = some (.slice e)) (hu : P.underlying u = some .string) (hi : P.info? e = some i) (hz : i.zero = some (.int .u8 0)) (hsize : i.size = 1) (hby : i.bytes = 1)
    (v : Value) (n : Nat) (xs : List Value) (hown : w.ownsRowF 0 e 1 v n xs) (s : ByteArray) (h63 : n + s.size ≤ maxLen) (hbytes : n + s.size ≤ 140737488355328) :
    ∃ v' w', (Builtin.append_ #[t, u] ty #[v, .string s]).run P w = .ok v' w' ∧ w'.ownsRowF 0 e 1 v' (n + s.size) (xs ++ Lib.strCells s) ∧ w.grownBy w' v.ownBlock ∧ (v' = .slice none 0 0 ↔ v = .slice none 0 0 ∧ s.size = 0) ∧ Same w v v' := by
  obtain ⟨v', w', r1, r2, r3, r4⟩ := Lib.run_append_own_stringF (P := P) w 0 t u ty e i ht hu hi hz hsize hby v n xs hown s h63 hbytes (Nat.zero_le _)
  refine ⟨v', w', r1, r2, r3, r4, ?_⟩
  rcases hown.2 with ⟨rfl, rfl⟩ | ⟨g, cap, cur, fz, rfl, hbg, hg, hfz, hnc, hcm, hcs, htake⟩
  · obtain ⟨v2, w2, q1, q2, q3, q4⟩ := Lib.run_append_own_stringF (P := P) w w.heap.size t u ty e i ht hu hi hz hsize hby (.slice none 0 0) 0 xs ⟨hown.1, .inl ⟨rfl, rfl⟩⟩ s h63 hbytes (Nat.le_refl _)
    rw [r1] at q1
    obtain ⟨rfl, rfl⟩ : v' = v2 ∧ w' = w2 := by injection q1 with e1 e2; exact ⟨e1, e2⟩
    cases ho : v'.ownBlock with
    | none => exact .inl (by rw [ho]; rfl)
    | some g => exact .inr ⟨g, ho, (q2.lt g ho).1⟩
  · by_cases hroom : n + s.size ≤ cap
    · have hr := Lib.run_append_room_stringF (P := P) w t u ty e i ht hu hi hsize g n cap cur fz hg (by omega) s hroom (by omega)
      rw [r1] at hr
      obtain ⟨rfl, _⟩ : v' = .slice (some ⟨g, 0, none⟩) (n + s.size) cap ∧ True := by injection hr with e1 e2; exact ⟨e1, trivial⟩
      exact .inl rfl
    · have holds : ∀ j u, xs[j]? = some u → w.cell? ((⟨g, 0, none⟩ : Addr).add j) = some u := hown.cells (g := g) rfl
      have hsmall : n + s.size ≤ 9223372036854775807 := by simp only [maxLen] at h63; omega
      have hr := Lib.run_append_grow_string (P := P) w t u ty e i (.int .u8 0) ht hu hi hz ⟨g, 0, none⟩ n cap xs (by rw [hsize]; exact hown.1) holds s (by omega) (by omega) (growslice_fits (by omega) (by rw [hby]; omega))
      rw [r1] at hr
      obtain ⟨rfl, _⟩ : v' = .slice (some ⟨w.heap.size, 0, none⟩) (n + s.size) (grownCap w (n + s.size) cap e) ∧ True := by injection hr with e1 e2; exact ⟨e1, trivial⟩
      exact .inr ⟨w.heap.size, rfl, Nat.le_refl _⟩

theorem wp_append_ownX {ops : Array Oper} {rest : List Oper} {o : Oper} {a : Act} {Q : Exit → Act → World → Prop} (hgd : o.guard = none) (s x : Operand) (t : TypeId)
    (ho : o.op = .call { callee := .builtin .append, args := #[s, x], argTypes := #[t, t] })
    (e : TypeId) (i : TypeInfo) (ht : P.underlying t = some (.slice e)) (hi : P.info? e = some i) (hz : i.zero = some (.int .u8 0)) (hsize : i.size = 1) (hby : i.bytes = 1)
    (v : Value) (n : Nat) (xs : List Value) (hs : a.eval s = v) (hown : w.ownsRowF 0 e 1 v n xs)
    (ad : Addr) (m c : Nat) (news : List Value) (hx : a.eval x = .slice (some ad) m c) (hl : news.length = m) (hnews : ∀ j u, news[j]? = some u → w.cell? (ad.add j) = some u) (h1 : ∀ u ∈ news, u.oneCell' = true) (h63 : n + m ≤ maxLen) (hbytes : n + m ≤ 140737488355328)
    (h : ∀ v' w', w'.ownsRowF 0 e 1 v' (n + m) (xs ++ news) → w.grownBy w' v.ownBlock → (v' = .slice none 0 0 ↔ v = .slice none 0 0 ∧ m = 0) → Same w v v' → wpList P ops Q rest (a.put o.dst v') w') : wpList P ops Q (o :: rest) a w := by
  refine wpList_plain hgd fun K hK => ?_
  obtain ⟨v', w', hr, h2, h3, h4, h5⟩ := append_ownX (P := P) (w := w) t o.type e i ht hi hz hsize hby v n xs hown ad m c news hl hnews h1 h63 hbytes
  unfold Oper.wp execOp
  simp only [ho, resolve, invoke, builtin, Sem.run_bind, Sem.run_pure, Result.andThen_ok, List.map_toArray, List.map_cons, List.map_nil, hs, hx, hr]
  exact hK _ _ (h v' w' h2 h3 h4 h5)
theorem wp_append_own_strX {ops : Array Oper} {rest : List Oper} {o : Oper} {a : Act} {Q : Exit → Act → World → Prop} (hgd : o.guard = none) (sl x : Operand) (t u : TypeId)
    (ho : o.op = .call { callee := .builtin .append, args := #[sl, x], argTypes := #[t, u] })
    (e : TypeId) (i : TypeInfo) (ht : P.underlying t = some (.slice e)) (hu : P.underlying u = some .string) (hi : P.info? e = some i) (hz : i.zero = some (.int .u8 0)) (hsize : i.size = 1) (hby : i.bytes = 1)
    (v : Value) (n : Nat) (xs : List Value) (hs : a.eval sl = v) (hown : w.ownsRowF 0 e 1 v n xs) (s : ByteArray) (hx : a.eval x = .string s) (h63 : n + s.size ≤ maxLen) (hbytes : n + s.size ≤ 140737488355328)
    (h : ∀ v' w', w'.ownsRowF 0 e 1 v' (n + s.size) (xs ++ Lib.strCells s) → w.grownBy w' v.ownBlock → (v' = .slice none 0 0 ↔ v = .slice none 0 0 ∧ s.size = 0) → Same w v v' → wpList P ops Q rest (a.put o.dst v') w') : wpList P ops Q (o :: rest) a w := by
  refine wpList_plain hgd fun K hK => ?_
  obtain ⟨v', w', hr, h2, h3, h4, h5⟩ := append_own_strX (P := P) (w := w) t u o.type e i ht hu hi hz hsize hby v n xs hown s h63 hbytes
  unfold Oper.wp execOp
  simp only [ho, resolve, invoke, builtin, Sem.run_bind, Sem.run_pure, Result.andThen_ok, List.map_toArray, List.map_cons, List.map_nil, hs, hx, hr]
  exact hK _ _ (h v' w' h2 h3 h4 h5)
end

end Go.Vm
end

section
set_option linter.unusedVariables false
namespace Go.Vm
open Go.RowKit Go.Shelf Go.Proofs

section
variable {P : Program} {ρ : Ren}

structure BAt (T e : TypeId) (w : World) (b : Nat) (p v : Value) (bs : List Value) : Prop where
  hp : p = .pointer none ∨ p = .pointer (some ⟨b, 0, none⟩)
  hb : w.heap[b]? = some (.cells #[p, v] T (0, 0))
  own : w.ownsRowF 0 e 1 v bs.length bs
  ne : v.ownBlock ≠ some b
theorem BAt.isB {T e : TypeId} {w : World} {b : Nat} {p v : Value} {bs : List Value} (h : BAt T e w b p v bs) : Lib.IsBuilderF T e 0 b bs w := by
  rcases h.hp with rfl | rfl
  · exact .inl ⟨Nat.zero_le _, v, h.hb, h.own, h.ne⟩
  · exact .inr ⟨Nat.zero_le _, v, h.hb, h.own, h.ne⟩
theorem BAt.lt {T e : TypeId} {w : World} {b : Nat} {p v : Value} {bs : List Value} (h : BAt T e w b p v bs) : b < w.heap.size := by
  rcases Nat.lt_or_ge b w.heap.size with h' | h'
  · exact h'
  · have := h.hb; simp [Array.getElem?_eq_none h'] at this

structure Kept (w w' : World) (b : Nat) (v v' : Value) : Prop where
  os : w'.os = w.os
  tape : w'.tape = w.tape
  output : w'.output = w.output
  size : w.heap.size ≤ w'.heap.size
  blk : ∀ k, k < w.heap.size → k ≠ b → some k ≠ v.ownBlock → w'.heap[k]? = w.heap[k]?
  same : Same w v v'

def SizeEq (w1 w : World) : Prop := w1.heap.size = w.heap.size
theorem SizeEq.eq {w1 w : World} (h : SizeEq w1 w) : w1.heap.size = w.heap.size := h

theorem bld_put {T e : TypeId} {w w1 w2 : World} {b : Nat} {v v' : Value} {bs' : List Value} (hTe : T ≠ e) (hsz : w1.heap.size = w.heap.size ∨ w1.heap.size = w.heap.size + 1) (hos : w1.os = w.os ∧ w1.tape = w.tape ∧ w1.output = w.output) (hold : ∀ k, k < w.heap.size → k ≠ b → w1.heap[k]? = w.heap[k]?)
    (hb2 : w2.heap[b]? = some (.cells #[.pointer (some ⟨b, 0, none⟩), v] T (0, 0))) (hgrow : w1.grownBy w2 v.ownBlock) (hown : w2.ownsRowF 0 e 1 v' bs'.length bs') (hs : Same w1 v v') (hv : ∀ g, v.ownBlock = some g → g < w.heap.size) :
    BAt T e (w2.setCell ⟨b, 1, none⟩ v') b (.pointer (some ⟨b, 0, none⟩)) v' bs' ∧ Kept w (w2.setCell ⟨b, 1, none⟩ v') b v v' := by
  have hne := Lib.ownBlock_neF hown hb2 hTe
  refine ⟨⟨.inr rfl, ?_, ?_, hne⟩, ⟨hgrow.os.trans hos.1, hgrow.tape.trans hos.2.1, hgrow.output.trans hos.2.2, by have := hgrow.size; simp; omega, fun k hk h1 h2 => ?_, ?_⟩⟩
  · simp [World.setCell, Array.getElem?_modify, hb2]
  · exact hown.kept (row := some b) ⟨rfl, rfl, rfl, by simp [World.setCell], fun k _ hk => Below.heap_setCell _ _ _ _ (fun e => hk (by simp [e]))⟩ (Or.inr hne)
  · rw [Below.heap_setCell _ _ _ _ h1, hgrow.block k (by omega) h2, hold k hk h1]
  · rcases hs with h | ⟨g, h1, h2⟩
    · exact .inl h
    · exact .inr ⟨g, h1, by omega⟩

end
end Go.Vm
end

section
set_option linter.unusedVariables false
namespace Go.Vm
open Go.RowKit Go.Shelf Go.Proofs

section
variable {P : Program} {ρ : Ren}

theorem freeze_other (w : World) (a : Addr) (n k : Nat) (h : k ≠ a.block) : (w.freeze a n).heap[k]? = w.heap[k]? := by
  unfold World.freeze
  split
  · rfl
  · simp [Array.getElem?_modify, h.symm]

set_option maxHeartbeats 2000000 in
set_option maxRecDepth 100000 in
theorem bld_String_nil (L : Lays.n169 P ρ) (X : Builder.Extra P ρ) {w : World} {b : Nat} {p : Value} (h : BAt (ρ.t 72) (ρ.t 5) w b p (.slice none 0 0) []) :
    Calls P (ρ.f 169) #[.pointer (some ⟨b, 0, none⟩)] w fun e w' => e = .returned (.string ⟨#[]⟩) ∧ w' = w.drew := by
  have hUS := Any.unsafeString_none L X
  have c1 : w.drew.cell? ⟨b, 1, none⟩ = some (.slice none 0 0) := by
    have : w.drew.heap[b]? = some (.cells #[p, .slice none 0 0] (ρ.t 72) (0, 0)) := h.hb
    rw [Lib.cell_of_heap this]; rfl
  have hSD : (Builtin.unsafeSliceData_ #[(ρ.t 37)] (ρ.t 127) #[.slice none 0 0]).run P w.drew = .ok (.pointer none) w.drew := rfl
  have mixed := L.mixed
  have t72 := L.t72; have a72 := L.a72; have z72 := L.z72; have v72 := L.v72; have u72 := run_underlying L.t72
  have t70 := L.t70; have a70 := L.a70; have z70 := L.z70; have v70 := L.v70; have u70 := run_underlying L.t70
  have t37 := L.t37; have a37 := L.a37; have z37 := L.z37; have v37 := L.v37; have u37 := run_underlying L.t37
  have t127 := L.t127; have a127 := L.a127; have z127 := L.z127; have v127 := L.v127; have u127 := run_underlying L.t127
  have t3 := L.t3; have a3 := L.a3; have z3 := L.z3; have v3 := L.v3; have u3 := run_underlying L.t3
  have t9 := L.t9; have a9 := L.a9; have z9 := L.z9; have v9 := L.v9; have u9 := run_underlying L.t9
  have t5 := X.t5; have a5 := X.a5; have z5 := X.z5; have v5 := X.v5; have u5 := run_underlying X.t5
  go_enter L.f169, Body.n169_ntmps ρ
  go_wp2
  go_region_o
  all_goals (go_wp2; go_ret; exact ⟨rfl, rfl⟩)

set_option maxHeartbeats 2000000 in
set_option maxRecDepth 100000 in
theorem bld_String_some (L : Lays.n169 P ρ) (X : Builder.Extra P ρ) {w : World} {b g cap : Nat} {p : Value} {l : List UInt8} (h0 : l ≠ []) (h : BAt (ρ.t 72) (ρ.t 5) w b p (.slice (some ⟨g, 0, none⟩) l.length cap) (Lib.byteCells l)) :
    Calls P (ρ.f 169) #[.pointer (some ⟨b, 0, none⟩)] w fun e w' => e = .returned (.string ⟨l.toArray⟩) ∧ w' = w.drew.freeze ⟨g, 0, none⟩ l.length := by
  have hl0 : l.length ≠ 0 := by simpa using h0
  have hbk := h.hb
  have hown := h.own
  rw [Lib.byteCells_length] at hown
  obtain ⟨cur, fz, hg, hfz, hnc, hcm, hcs, htake⟩ : ∃ cur fz, w.heap[g]? = some (.cells cur (ρ.t 5) fz) ∧ fz.2 ≤ l.length * 1 ∧ l.length ≤ cap ∧ cap ≤ maxLen ∧ cur.size = cap * 1 ∧ cur.toList.take (l.length * 1) = Lib.byteCells l := by
    rcases hown.2 with ⟨_, hz⟩ | ⟨g', cap', cur, fz, hv, hB, r⟩
    · exact absurd hz hl0
    · injection hv with e1 e2 e3
      injection e1 with e1
      injection e1 with e1 _
      subst e1; subst e3
      exact ⟨cur, fz, r⟩
  have c1 : w.drew.cell? ⟨b, 1, none⟩ = some (.slice (some ⟨g, 0, none⟩) l.length cap) := by
    have : w.drew.heap[b]? = some (.cells #[p, .slice (some ⟨g, 0, none⟩) l.length cap] (ρ.t 72) (0, 0)) := hbk
    rw [Lib.cell_of_heap this]; rfl
  have hSD : (Builtin.unsafeSliceData_ #[(ρ.t 37)] (ρ.t 127) #[.slice (some ⟨g, 0, none⟩) l.length cap]).run P w.drew = .ok (.pointer (some ⟨g, 0, none⟩)) w.drew :=
    Lib.run_unsafeSliceData_row _ _ _ _ _ _ (by omega)
  have hUS : (Builtin.unsafeString_ #[(ρ.t 127), (ρ.t 3)] (ρ.t 9) #[.pointer (some ⟨g, 0, none⟩), .int .i64 l.length]).run P w.drew = .ok (.string ⟨l.toArray⟩) (w.drew.freeze ⟨g, 0, none⟩ l.length) := by
    refine Lib.run_unsafeString_row w.drew (ρ.t 127) (ρ.t 3) (ρ.t 9) (ρ.t 5) L.t127 X.cellsByte g cur.size (by have hg' : w.drew.heap[g]? = some (.cells cur (ρ.t 5) fz) := hg; simp [World.shape?, hg']) l h0 (by omega) (by unfold maxLen at hcm; omega) ?_
    intro j x hx
    have := hown.cells (g := g) rfl j (.int .u8 x.toNat) (by simp [Lib.byteCells, hx])
    exact this
  have mixed := L.mixed
  have t72 := L.t72; have a72 := L.a72; have z72 := L.z72; have v72 := L.v72; have u72 := run_underlying L.t72
  have t70 := L.t70; have a70 := L.a70; have z70 := L.z70; have v70 := L.v70; have u70 := run_underlying L.t70
  have t37 := L.t37; have a37 := L.a37; have z37 := L.z37; have v37 := L.v37; have u37 := run_underlying L.t37
  have t127 := L.t127; have a127 := L.a127; have z127 := L.z127; have v127 := L.v127; have u127 := run_underlying L.t127
  have t3 := L.t3; have a3 := L.a3; have z3 := L.z3; have v3 := L.v3; have u3 := run_underlying L.t3
  have t9 := L.t9; have a9 := L.a9; have z9 := L.z9; have v9 := L.v9; have u9 := run_underlying L.t9
  have t5 := X.t5; have a5 := X.a5; have z5 := X.z5; have v5 := X.v5; have u5 := run_underlying X.t5
  go_enter L.f169, Body.n169_ntmps ρ
  go_wp2
  go_region_o
  all_goals (go_wp2; go_ret; exact ⟨rfl, rfl⟩)

end
end Go.Vm
end

section
set_option linter.unusedVariables false
namespace Go.Vm
open Go.RowKit Go.Shelf Go.Proofs

@[reducible] def bldB (T b n : Nat) : Blk := .map [(.nils T, .bsl b 0 n)]
@[reducible] def bufB (e : Nat) (bytes : List UInt8) : Blk := .map [(.emps e, .d false .nilp), (.str bytes, .d false .nilp)]

section
variable {P : Program} {ρ : Ren} {w w' : World} {F : Nat → Prop} {σ : Nat → Option Loc}

theorem bCells_len (l : List UInt8) : (bCells l).length = l.length := by simp [bCells]

theorem bld_open {T e : Nat} {bytes : List UInt8} (hH : HeapRel w F (OwnB σ) w.heap.size σ 2 (indexed [bldB T 1 bytes.length, bufB e bytes])) :
    ∃ l0 p v, σ 0 = some l0 ∧ l0.k = 0 ∧ BAt T e w l0.blk p v (bCells bytes) ∧ (bytes = [] → v = .slice none 0 0) ∧ ∀ g, v.ownBlock = some g → ∃ l, σ 1 = some l ∧ l.blk = g := by
  have h0 := hH.blk 0 (bldB T 1 bytes.length) rfl
  have h1 := hH.blk 1 (bufB e bytes) rfl
  rcases h0 with ⟨hn, _⟩ | ⟨l0, es, ck, ds, hds, hs0, hm, hk, _, _⟩ | ⟨_, _, _, _, _, _, _, _, _, he⟩
  · simp [Blk.n, nilBuf, nilKeys] at hn
  · obtain rfl : [(D.nils T, V.bsl 1 0 bytes.length)] = ds := by injection hds
    rcases hm with ⟨_, _, ht⟩ | ⟨T', p, v, x, hx, hw, hp, hv⟩ | ⟨T', cur, fz, bs, hx, _⟩
    · simp [tagged] at ht
    · simp only [List.cons.injEq, Prod.mk.injEq, D.nils.injEq, and_true] at hx
      obtain ⟨rfl, rfl⟩ := hx
      obtain ⟨_, hv⟩ := hv
      refine ⟨l0, p, v, hs0, hk, ?_⟩
      rcases hv with ⟨hb, rfl⟩ | ⟨l, hl, hpos, rfl⟩
      · obtain rfl : bytes = [] := List.eq_nil_of_length_eq_zero hb
        exact ⟨⟨hp, hw, World.ownsRowF_nil _ _ _ _, by simp [Value.ownBlock]⟩, fun _ => rfl, fun g hg => by simp [Value.ownBlock] at hg⟩
      · rcases h1 with ⟨_, hn⟩ | ⟨l1, es1, ck1, ds1, hds1, hs1, hm1, hk1, _, _⟩ | ⟨_, _, _, _, _, _, _, _, _, he⟩
        · rw [hl] at hn; cases hn
        · obtain rfl : [(D.emps e, V.d false .nilp), (.str bytes, .d false .nilp)] = ds1 := by injection hds1
          rw [hl] at hs1
          obtain rfl := Option.some.inj hs1
          rcases hm1 with ⟨_, _, ht⟩ | ⟨T', p', v', x', hx, _⟩ | ⟨T', cur, fz, bs, hx, hg, f1, f2, f3, f4, f5⟩
          · simp [tagged] at ht
          · simp at hx
          · simp only [List.map_cons, List.map_nil, List.cons.injEq, D.emps.injEq, D.str.injEq, and_true] at hx
            obtain ⟨rfl, rfl⟩ := hx
            refine ⟨⟨hp, hw, ⟨by simp, .inr ⟨l.blk, l.ext, cur, fz, by rw [bCells_len], Nat.zero_le _, hg, by rw [bCells_len]; omega, by rw [bCells_len]; exact f2, f4, by omega, ?_⟩⟩, ?_⟩, fun h => ?_, fun g hg => ⟨l, hl, ?_⟩⟩
            · rw [bCells_len, Nat.mul_one]; exact f5
            · intro h
              simp only [Value.ownBlock, Option.some.injEq] at h
              have := hH.inj 0 1 l0 l hs0 hl h.symm
              cases this
            · rw [h] at hpos; simp at hpos
            · simpa [Value.ownBlock] using hg
        · simp [Blk.entries] at he
    · simp at hx
  · simp [Blk.entries] at he

theorem bld_close {T e : Nat} {l0 : Loc} {p' v v' : Value} {bytes' : List UInt8} {H : List (Nat × Blk)} (hH : HeapRel w F (OwnB σ) w.heap.size σ 2 H) (hs0 : σ 0 = some l0) (hk0 : l0.k = 0) (hv : ∀ g, v.ownBlock = some g → ∃ l, σ 1 = some l ∧ l.blk = g)
    (hb : BAt T e w' l0.blk p' v' (bCells bytes')) (hK : Kept w w' l0.blk v v') (hnil : bytes' = [] → v' = .slice none 0 0) :
    ∃ σ', Frame (OwnB σ) w.heap.size w w' ∧ HeapRel w' F (OwnB σ) w.heap.size σ' 2 (indexed [bldB T 1 bytes'.length, bufB e bytes']) ∧ ∀ i l, i < 2 → σ i = some l → i ∉ [1] → σ' i = some l := by
  have hF : ∀ b, F b → b < w'.heap.size := fun b hf => Nat.lt_of_lt_of_le (hH.fro b hf) hK.size
  have hframe : Frame (OwnB σ) w.heap.size w w' := ⟨hK.os, hK.tape, hK.output, hK.size, fun k hk hX => hK.blk k hk (fun h => hX 0 ⟨l0, hs0, h.symm⟩) (fun h => by
    obtain ⟨l, h1, h2⟩ := hv k h.symm
    exact hX 1 ⟨l, h1, h2⟩)⟩
  obtain ⟨o1, o2, o3, o4⟩ := hH.own 0 l0 hs0
  have hlt0 := hb.lt
  rcases hb.own.2 with ⟨rfl, hz⟩ | ⟨g, cap, cur, fz, rfl, _, hg, f1, f2, f3, f4, f5⟩
  · -- no buffer
    have hz' : bytes' = [] := by rw [bCells_len] at hz; exact List.eq_nil_of_length_eq_zero hz
    subst hz'
    refine ⟨fun i => if i = 0 then some l0 else none, hframe, ⟨fun i blk hi => ?_, fun i j l l' h1 h2 _ => ?_, fun i l h => ?_, hF⟩, fun i l hi hl hm => ?_⟩
    · have : (i = 0 ∧ blk = bldB T 1 0) ∨ (i = 1 ∧ blk = bufB e []) := by
        simp only [indexed, List.zipIdx_cons, List.zipIdx_nil, List.map_cons, List.map_nil, look, List.length_nil] at hi
        split at hi
        · rename_i h; exact .inl ⟨h.symm, (Option.some.inj hi).symm⟩
        · split at hi
          · rename_i h; exact .inr ⟨by omega, (Option.some.inj hi).symm⟩
          · cases hi
      rcases this with ⟨rfl, rfl⟩ | ⟨rfl, rfl⟩
      · exact .inr (.inl ⟨l0, #[⟨.slice none 0 0, .slice none 0 0, 0⟩], 0, _, rfl, rfl, .inr (.inl ⟨T, p', .slice none 0 0, _, rfl, hb.hb, hb.hp, rfl, .inl ⟨rfl, rfl⟩⟩), hk0, trivial, rfl, fun i e p he hp => by
          match i, he, hp with
          | 0, he, hp =>
            simp at he hp
            subst he; subst hp
            exact ⟨rfl, .nils T, .bsl0 none 1 0⟩
          | i + 1, he, hp => simp at he⟩)
      · exact .inl ⟨rfl, rfl⟩
    · split at h1
      · split at h2
        · omega
        · cases h2
      · cases h1
    · split at h
      · rename_i h0
        subst h0
        obtain rfl := Option.some.inj h
        exact ⟨by omega, o2, o3, hlt0⟩
      · cases h
    · have : i = 0 := by simp at hm; omega
      subst this
      show some l0 = some l
      rw [← hs0]; exact hl
  · have hgne : g ≠ l0.blk := fun h => hb.ne (by simp [Value.ownBlock, h])
    have hpos : 0 < bytes'.length := by
      rcases Nat.eq_zero_or_pos bytes'.length with h | h
      · have := hnil (List.eq_nil_of_length_eq_zero h)
        simp at this
      · exact h
    have hgl : g < w'.heap.size := by
      rcases Nat.lt_or_ge g w'.heap.size with h' | h'
      · exact h'
      · simp [Array.getElem?_eq_none h'] at hg
    rw [bCells_len, Nat.mul_one] at f1 f5
    rw [bCells_len] at f2
    -- where the buffer is
    have gown : ¬ F g ∧ (w.heap.size ≤ g ∨ OwnB σ 1 g) := by
      rcases hK.same with h | ⟨g', h1, h2⟩
      · obtain ⟨l, h1, h2⟩ := hv g (by rw [← h]; rfl)
        obtain ⟨q1, q2, q3, q4⟩ := hH.own 1 l h1
        rw [h2] at q2
        exact ⟨q2, .inr ⟨l, h1, h2⟩⟩
      · simp only [Value.ownBlock, Option.some.injEq] at h1
        subst h1
        exact ⟨fun hf => by have := hH.fro _ hf; omega, .inl h2⟩
    let l1 : Loc := ⟨g, 0, cap⟩
    refine ⟨fun i => if i = 0 then some l0 else if i = 1 then some l1 else none, hframe, ⟨fun i blk hi => ?_, fun i j l l' h1 h2 he => ?_, fun i l h => ?_, hF⟩, fun i l hi hl hm => ?_⟩
    · have : (i = 0 ∧ blk = bldB T 1 bytes'.length) ∨ (i = 1 ∧ blk = bufB e bytes') := by
        simp only [indexed, List.zipIdx_cons, List.zipIdx_nil, List.map_cons, List.map_nil, look] at hi
        split at hi
        · rename_i h; exact .inl ⟨h.symm, (Option.some.inj hi).symm⟩
        · split at hi
          · rename_i h; exact .inr ⟨by omega, (Option.some.inj hi).symm⟩
          · cases hi
      rcases this with ⟨rfl, rfl⟩ | ⟨rfl, rfl⟩
      · refine .inr (.inl ⟨l0, #[⟨.slice none 0 0, .slice (some ⟨g, 0, none⟩) bytes'.length cap, 0⟩], 0, _, rfl, rfl, .inr (.inl ⟨T, p', _, _, rfl, hb.hb, hb.hp, rfl, .inr ⟨l1, rfl, hpos, by rw [bCells_len]⟩⟩), hk0, trivial, rfl, fun i e p he hp => ?_⟩)
        match i, he, hp with
        | 0, he, hp =>
          simp at he hp
          subst he; subst hp
          exact ⟨rfl, .nils T, by
            have := RepV.bsl (w := w') (F := F) (base := w.heap.size) (σ := fun i => if i = 0 then some l0 else if i = 1 then some l1 else none) 1 0 bytes'.length cap l1 rfl f2 (by simp [l1])
            simpa [l1] using this⟩
        | i + 1, he, hp => simp at he
      · refine .inr (.inl ⟨l1, #[⟨.slice (some ⟨0, 0, none⟩) 0 0, .pointer none, 0⟩, ⟨.string ⟨bytes'.toArray⟩, .pointer none, 0⟩], 0, _, rfl, rfl, .inr (.inr ⟨e, cur, fz, bytes', rfl, hg, f1, f2, by simpa using f4, f3, f5⟩), rfl, trivial, rfl, fun i e' p he hp => ?_⟩)
        match i, he, hp with
        | 0, he, hp =>
          simp at he hp
          subst he; subst hp
          exact ⟨rfl, .emps _ _ e, .d _ _ _ .nilp⟩
        | 1, he, hp =>
          simp at he hp
          subst he; subst hp
          exact ⟨rfl, .str ⟨bytes'.toArray⟩, .d _ _ _ .nilp⟩
        | i + 2, he, hp => simp at he
    · have two : ∀ {i : Nat} {l : Loc}, (if i = 0 then some l0 else if i = 1 then some l1 else none) = some l → (i = 0 ∧ l = l0) ∨ (i = 1 ∧ l = l1) := by
        intro i l h
        split at h
        · rename_i h0; exact .inl ⟨h0, (Option.some.inj h).symm⟩
        · split at h
          · rename_i h0; exact .inr ⟨h0, (Option.some.inj h).symm⟩
          · cases h
      rcases two h1 with ⟨rfl, rfl⟩ | ⟨rfl, rfl⟩ <;> rcases two h2 with ⟨rfl, rfl⟩ | ⟨rfl, rfl⟩
      · rfl
      · exact absurd he.symm hgne
      · exact absurd he hgne
      · rfl
    · split at h
      · rename_i h0
        subst h0
        obtain rfl := Option.some.inj h
        exact ⟨by omega, o2, o3, hlt0⟩
      · split at h
        · rename_i h0
          subst h0
          obtain rfl := Option.some.inj h
          exact ⟨by omega, gown.1, gown.2, hgl⟩
        · cases h
    · have : i = 0 := by simp at hm; omega
      subst this
      show some l0 = some l
      rw [← hs0]; exact hl

theorem ptr0_inv {base : Nat} {v : Value} {l0 : Loc} (hs0 : σ 0 = some l0) (h : RepV w F base σ v (.ptr 0 0 0)) : v = .pointer (some ⟨l0.blk, 0, none⟩) := by
  cases h with
  | ptr _ _ _ l hl =>
    rw [hs0] at hl
    obtain rfl := Option.some.inj hl
    simp

variable {G : Nat → Option (List D)}

def WbOk (P : Program) (f : FuncId) (T e : TypeId) : Prop := ∀ {w : World} {b : Nat} {p v : Value} {bs : List Value}, BAt T e w b p v bs → ∀ (c : Int), bs.length + 1 ≤ 140737488355328 →
    Calls P f #[.pointer (some ⟨b, 0, none⟩), .int .u8 c] w fun x w' => x = .returned .nilIface ∧ ∃ v', BAt T e w' b (.pointer (some ⟨b, 0, none⟩)) v' (bs ++ [.int .u8 c]) ∧ Kept w w' b v v'
def WsOk (P : Program) (f : FuncId) (T e : TypeId) : Prop := ∀ {w : World} {b : Nat} {p v : Value} {bs : List Value}, BAt T e w b p v bs → ∀ (s : ByteArray), bs.length + s.size ≤ 140737488355328 →
    Calls P f #[.pointer (some ⟨b, 0, none⟩), .string s] w fun x w' => x = .returned (.tuple #[.int .i64 s.size, .nilIface]) ∧ ∃ v', BAt T e w' b (.pointer (some ⟨b, 0, none⟩)) v' (bs ++ Lib.strCells s) ∧ Kept w w' b v v' ∧ (v = .slice none 0 0 → s.size = 0 → v' = .slice none 0 0)

theorem eff_WriteByte {f T e : Nat} (hW : WbOk P f T e) (bytes : List UInt8) (c : UInt8) (hlen : bytes.length + 1 ≤ 140737488355328) :
    EffCall P G f [.ptr 0 0 0, .d false (.int .u8 c.toNat)] [bldB T 1 bytes.length, bufB e bytes] (.d false .nilif) [bldB T 1 (bytes ++ [c]).length, bufB e (bytes ++ [c])] [1] := by
  intro w F σ vals hG hH hR
  obtain ⟨l0, p, v, hs0, hk0, hB, hn0, hv⟩ := bld_open hH
  obtain ⟨hsz, hval⟩ := hR
  obtain ⟨l⟩ := vals
  match l, hsz, hval with
  | [v0, v1], hsz, hval =>
    have e0 := ptr0_inv hs0 (hval 0 v0 (.ptr 0 0 0) rfl rfl)
    have e1 := (hval 1 v1 (.d false (.int .u8 c.toNat)) rfl rfl).int_inv
    subst e0; subst e1
    refine (hW hB c.toNat (by rw [bCells_len]; exact hlen)).mono ?_
    rintro x w' ⟨rfl, v', hB', hK⟩
    have hB'' : BAt T e w' l0.blk (.pointer (some ⟨l0.blk, 0, none⟩)) v' (bCells (bytes ++ [c])) := by
      have : bCells (bytes ++ [c]) = bCells bytes ++ [.int .u8 c.toNat] := by simp [bCells]
      rw [this]; exact hB'
    obtain ⟨σ', h1, h2, h3⟩ := bld_close hH hs0 hk0 hv hB'' hK (fun h => by simp at h)
    exact ⟨.nilIface, F, σ', rfl, h1, fun _ h => h, fun _ h => .inl h, .d _ _ _ .nilif, h2, h3⟩
  | [], hsz, _ => simp at hsz
  | [_], hsz, _ => simp at hsz
  | _ :: _ :: _ :: _, hsz, _ => simp at hsz

theorem eff_WriteString {f T e : Nat} (hW : WsOk P f T e) (bytes s : List UInt8) (hlen : bytes.length + s.length ≤ 140737488355328) :
    EffCall P G f [.ptr 0 0 0, .d false (.str s)] [bldB T 1 bytes.length, bufB e bytes] (.tup [.d false (.int .i64 s.length), .d false .nilif]) [bldB T 1 (bytes ++ s).length, bufB e (bytes ++ s)] [1] := by
  intro w F σ vals hG hH hR
  obtain ⟨l0, p, v, hs0, hk0, hB, hn0, hv⟩ := bld_open hH
  obtain ⟨hsz, hval⟩ := hR
  obtain ⟨l⟩ := vals
  match l, hsz, hval with
  | [v0, v1], hsz, hval =>
    have e0 := ptr0_inv hs0 (hval 0 v0 (.ptr 0 0 0) rfl rfl)
    obtain ⟨t, e1, e2⟩ := (hval 1 v1 (.d false (.str s)) rfl rfl).str_inv
    subst e0; subst e1; subst e2
    have hst : t.size = t.data.toList.length := rfl
    refine (hW hB t (by rw [bCells_len, hst]; exact hlen)).mono ?_
    rintro x w' ⟨rfl, v', hB', hK, hnil⟩
    have hB'' : BAt T e w' l0.blk (.pointer (some ⟨l0.blk, 0, none⟩)) v' (bCells (bytes ++ t.data.toList)) := by
      have : bCells (bytes ++ t.data.toList) = bCells bytes ++ Lib.strCells t := by simp [bCells, Lib.strCells]
      rw [this]; exact hB'
    obtain ⟨σ', h1, h2, h3⟩ := bld_close hH hs0 hk0 hv hB'' hK (fun h => by
      rw [List.append_eq_nil_iff] at h
      exact hnil (hn0 h.1) (by rw [hst, h.2]; rfl))
    refine ⟨_, F, σ', rfl, h1, fun _ h => h, fun _ h => .inl h, .tup _ _ rfl (fun j u x hu hx => ?_), h2, h3⟩
    match j, hu, hx with
    | 0, hu, hx => simp at hu hx; subst hu; subst hx; rw [hst]; exact .d _ _ _ (.int _ _)
    | 1, hu, hx => simp at hu hx; subst hu; subst hx; exact .d _ _ _ .nilif
    | j + 2, hu, hx => simp at hu
  | [], hsz, _ => simp at hsz
  | [_], hsz, _ => simp at hsz
  | _ :: _ :: _ :: _, hsz, _ => simp at hsz

theorem eff_Len (L : Lays.n170 P ρ) (bytes : List UInt8) :
    EffCall P G (ρ.f 170) [.ptr 0 0 0] [bldB (ρ.t 72) 1 bytes.length, bufB (ρ.t 5) bytes] (.d false (.int .i64 bytes.length)) [bldB (ρ.t 72) 1 bytes.length, bufB (ρ.t 5) bytes] [] := by
  intro w F σ vals hG hH hR
  obtain ⟨l0, p, v, hs0, hk0, hB, hn0, hv⟩ := bld_open hH
  obtain ⟨hsz, hval⟩ := hR
  obtain ⟨l⟩ := vals
  match l, hsz, hval with
  | [v0], hsz, hval =>
    have e0 := ptr0_inv hs0 (hval 0 v0 (.ptr 0 0 0) rfl rfl)
    subst e0
    refine (Any.Builder_Len_f L 0 l0.blk (bCells bytes) w hB.isB).mono ?_
    rintro e w' ⟨rfl, rfl⟩
    exact ⟨_, F, σ, rfl, .refl _ _ _, fun _ h => h, fun _ h => .inl h, by rw [bCells_len]; exact .d _ _ _ (.int _ _), hH, fun _ _ _ h _ => h⟩
  | [], hsz, _ => simp at hsz
  | _ :: _ :: _, hsz, _ => simp at hsz

theorem eff_String (L : Lays.n169 P ρ) (X : Builder.Extra P ρ) (bytes : List UInt8) :
    EffCall P G (ρ.f 169) [.ptr 0 0 0] [bldB (ρ.t 72) 1 bytes.length, bufB (ρ.t 5) bytes] (.d false (.str bytes)) [bldB (ρ.t 72) 1 bytes.length, bufB (ρ.t 5) bytes] [1] := by
  intro w F σ vals hG hH hR
  obtain ⟨l0, p, v, hs0, hk0, hB, hn0, hv⟩ := bld_open hH
  obtain ⟨hsz, hval⟩ := hR
  obtain ⟨l⟩ := vals
  match l, hsz, hval with
  | [v0], hsz, hval =>
    have e0 := ptr0_inv hs0 (hval 0 v0 (.ptr 0 0 0) rfl rfl)
    subst e0
    by_cases h0 : bytes = []
    · subst h0
      have := hn0 rfl
      subst this
      refine (bld_String_nil L X hB).mono ?_
      rintro e w' ⟨rfl, rfl⟩
      have hB' : BAt (ρ.t 72) (ρ.t 5) w.drew l0.blk p (.slice none 0 0) (bCells []) := ⟨hB.hp, hB.hb, hB.own, hB.ne⟩
      have hK : Kept w w.drew l0.blk (.slice none 0 0) (.slice none 0 0) := ⟨rfl, rfl, rfl, Nat.le_refl _, fun _ _ _ _ => rfl, .inl rfl⟩
      obtain ⟨σ', h1, h2, h3⟩ := bld_close hH hs0 hk0 hv hB' hK (fun _ => rfl)
      exact ⟨_, F, σ', rfl, h1, fun _ h => h, fun _ h => .inl h, .d _ _ _ (.str ⟨#[]⟩), h2, h3⟩
    · obtain ⟨g, cap, rfl⟩ : ∃ g cap, v = .slice (some ⟨g, 0, none⟩) bytes.length cap := by
        rcases hB.own.2 with ⟨_, hz⟩ | ⟨g, cap, cur, fz, hv, _⟩
        · rw [bCells_len] at hz; exact absurd (List.eq_nil_of_length_eq_zero hz) h0
        · rw [bCells_len] at hv; exact ⟨g, cap, hv⟩
      refine (bld_String_some L X h0 hB).mono ?_
      rintro e w' ⟨rfl, rfl⟩
      have hlen : (bCells bytes).length = bytes.length := bCells_len _
      have hA : Lib.BuilderAtF (ρ.t 72) (ρ.t 5) 0 l0.blk p (bCells bytes) w.drew := ⟨Nat.zero_le _, _, hB.hb, hB.own, hB.ne⟩
      have c1 : w.drew.cell? ⟨l0.blk, 1, none⟩ = some (.slice (some ⟨g, 0, none⟩) (bCells bytes).length cap) := by
        have : w.drew.heap[l0.blk]? = some (.cells #[p, .slice (some ⟨g, 0, none⟩) bytes.length cap] (ρ.t 72) (0, 0)) := hB.hb
        rw [Lib.cell_of_heap this, hlen]; rfl
      have hne : g ≠ l0.blk := fun h => hB.ne (by simp [Value.ownBlock, h])
      have hF' := hA.froze (g := g) (cap := cap) c1
      rw [hlen] at hF'
      have hbk : (w.drew.freeze ⟨g, 0, none⟩ bytes.length).heap[l0.blk]? = some (.cells #[p, .slice (some ⟨g, 0, none⟩) bytes.length cap] (ρ.t 72) (0, 0)) := by
        rw [freeze_other _ _ _ _ (fun h => hne h.symm)]; exact hB.hb
      have hB' : BAt (ρ.t 72) (ρ.t 5) (w.drew.freeze ⟨g, 0, none⟩ bytes.length) l0.blk p (.slice (some ⟨g, 0, none⟩) bytes.length cap) (bCells bytes) := by
        obtain ⟨_, v2, hb2, hown2, hne2⟩ := hF'
        rw [hbk] at hb2
        have : v2 = .slice (some ⟨g, 0, none⟩) bytes.length cap := by
          injection hb2 with e1
          injection e1 with e2
          have e2' := congrArg Array.toList e2
          simp at e2'
          exact e2'.symm
        subst this
        exact ⟨hB.hp, hbk, hown2, hne2⟩
      have hsz' : (w.drew.freeze ⟨g, 0, none⟩ bytes.length).heap.size = w.heap.size := by
        unfold World.freeze
        split
        · rfl
        · show (w.heap.modify _ _).size = _
          simp only [Array.size_modify]
      have hos : (w.drew.freeze ⟨g, 0, none⟩ bytes.length).os = w.os ∧ (w.drew.freeze ⟨g, 0, none⟩ bytes.length).tape = w.tape ∧ (w.drew.freeze ⟨g, 0, none⟩ bytes.length).output = w.output := by
        unfold World.freeze
        split <;> exact ⟨rfl, rfl, rfl⟩
      have hK : Kept w (w.drew.freeze ⟨g, 0, none⟩ bytes.length) l0.blk (.slice (some ⟨g, 0, none⟩) bytes.length cap) (.slice (some ⟨g, 0, none⟩) bytes.length cap) :=
        ⟨hos.1, hos.2.1, hos.2.2, by rw [hsz']; exact Nat.le_refl _, fun k _ _ hk => by rw [freeze_other _ _ _ _ (fun h => hk (by simp [Value.ownBlock, h]))]; rfl, .inl rfl⟩
      obtain ⟨σ', h1, h2, h3⟩ := bld_close hH hs0 hk0 hv hB' hK (fun h => absurd h h0)
      exact ⟨_, F, σ', rfl, h1, fun _ h => h, fun _ h => .inl h, .d _ _ _ (.str ⟨bytes.toArray⟩), h2, h3⟩
  | [], hsz, _ => simp at hsz
  | _ :: _ :: _, hsz, _ => simp at hsz

end
end Go.Vm
end

section
namespace Go.Vm

structure Sp where
  α : Type
  f : FuncId
  ok : α → Prop
  args : α → List V
  res : α → V × List Blk
  inj : ∀ a b, ok a → ok b → args a = args b → res a = res b

structure Se where
  α : Type
  f : FuncId
  ok : α → Prop
  args : α → List V
  blks : α → List Blk
  res : α → V × List Blk × List Nat
  inj : ∀ a b, ok a → ok b → args a = args b → blks a = blks b → res a = res b

open Classical in
noncomputable def callOf : List Sp → FuncId → List V → Option (V × List Blk)
  | [], _, _ => none
  | s :: L, f, vs => if s.f = f then (if h : ∃ a, s.ok a ∧ s.args a = vs then some (s.res h.choose) else none) else callOf L f vs
open Classical in
noncomputable def effOf : List Se → FuncId → List V → List Blk → Option (V × List Blk × List Nat)
  | [], _, _, _ => none
  | s :: L, f, vs, bs => if s.f = f then (if h : ∃ a, s.ok a ∧ s.args a = vs ∧ s.blks a = bs then some (s.res h.choose) else none) else effOf L f vs bs

noncomputable def cx (G : Nat → Option (List D)) (L : List Sp) (E : List Se) : Cx := ⟨callOf L, effOf E, G, fun _ => false⟩

def Has (L : List Sp) (s : Sp) : Prop := ∀ a, s.ok a → callOf L s.f (s.args a) = some (s.res a)
def HasE (L : List Se) (s : Se) : Prop := ∀ a, s.ok a → effOf L s.f (s.args a) (s.blks a) = some (s.res a)

theorem has_head (s : Sp) (L : List Sp) : Has (s :: L) s := by
  intro a ha
  have h : ∃ b, s.ok b ∧ s.args b = s.args a := ⟨a, ha, rfl⟩
  simp only [callOf, if_true]
  rw [dif_pos h]
  exact congrArg some (s.inj _ _ h.choose_spec.1 ha h.choose_spec.2)
theorem has_tail {s t : Sp} {L : List Sp} (h : Has L s) (hne : t.f ≠ s.f) : Has (t :: L) s := by
  intro a ha
  simp only [callOf]
  rw [if_neg hne]
  exact h a ha
theorem hasE_head (s : Se) (L : List Se) : HasE (s :: L) s := by
  intro a ha
  have h : ∃ b, s.ok b ∧ s.args b = s.args a ∧ s.blks b = s.blks a := ⟨a, ha, rfl, rfl⟩
  simp only [effOf, if_true]
  rw [dif_pos h]
  exact congrArg some (s.inj _ _ h.choose_spec.1 ha h.choose_spec.2.1 h.choose_spec.2.2)

variable {P : Program} {G : Nat → Option (List D)}

def Sp.Holds (P : Program) (G : Nat → Option (List D)) (s : Sp) : Prop := ∀ a, s.ok a → callable P s.f = true ∧ PureCall P G s.f (s.args a) (s.res a).1 (s.res a).2
def Se.Holds (P : Program) (G : Nat → Option (List D)) (s : Se) : Prop := ∀ a, s.ok a → callable P s.f = true ∧ EffCall P G s.f (s.args a) (s.blks a) (s.res a).1 (s.res a).2.1 (s.res a).2.2

theorem callOf_from : ∀ (L : List Sp) (f : FuncId) (vs : List V) (p : V × List Blk), callOf L f vs = some p → ∃ s ∈ L, s.f = f ∧ ∃ a, s.ok a ∧ s.args a = vs ∧ s.res a = p
  | [], f, vs, p, h => by cases h
  | s :: L, f, vs, p, h => by
    simp only [callOf] at h
    split at h
    · rename_i hf
      split at h
      · rename_i hx
        obtain ⟨h1, h2⟩ := hx.choose_spec
        exact ⟨s, by simp, hf, _, h1, h2, Option.some.inj h⟩
      · cases h
    · obtain ⟨t, ht, r⟩ := callOf_from L f vs p h
      exact ⟨t, List.mem_cons_of_mem _ ht, r⟩
theorem effOf_from : ∀ (L : List Se) (f : FuncId) (vs : List V) (bs : List Blk) (p : V × List Blk × List Nat), effOf L f vs bs = some p → ∃ s ∈ L, s.f = f ∧ ∃ a, s.ok a ∧ s.args a = vs ∧ s.blks a = bs ∧ s.res a = p
  | [], f, vs, bs, p, h => by cases h
  | s :: L, f, vs, bs, p, h => by
    simp only [effOf] at h
    split at h
    · rename_i hf
      split at h
      · rename_i hx
        obtain ⟨h1, h2, h3⟩ := hx.choose_spec
        exact ⟨s, by simp, hf, _, h1, h2, h3, Option.some.inj h⟩
      · cases h
    · obtain ⟨t, ht, r⟩ := effOf_from L f vs bs p h
      exact ⟨t, List.mem_cons_of_mem _ ht, r⟩

theorem cx_sound {L : List Sp} {E : List Se} (h1 : ∀ s ∈ L, s.Holds P G) (h2 : ∀ s ∈ E, s.Holds P G) : (cx G L E).Sound P := by
  refine ⟨fun f args r news h => ?_, fun f args r news hl _ => absurd hl (by simp [cx]), fun f args blks r blks' mv h => ?_⟩
  · obtain ⟨s, hs, rfl, a, ha, rfl, hr⟩ := callOf_from L f args (r, news) h
    have := h1 s hs a ha
    rw [hr] at this
    exact this
  · obtain ⟨s, hs, rfl, a, ha, rfl, rfl, hr⟩ := effOf_from E f args blks (r, blks', mv) h
    have := h2 s hs a ha
    rw [hr] at this
    exact this

theorem holds_of {L : List Sp} {E : List Se} (hm : P.follows .mixedOrders = true) (hK : (cx G L E).Sound P) {s : Sp} {g : Fun} (hok : ∀ a, s.ok a → funOk P s.f 0 (s.args a).length g = true)
    (hev : ∀ a, s.ok a → ∃ mv, runFun (cx G L E) g (s.args a) [] = some ((s.res a).1, (s.res a).2, mv)) : s.Holds P G := by
  intro a ha
  obtain ⟨mv, h⟩ := hev a ha
  exact pure_sound hm hK (hok a ha) h
structure Known (P : Program) (G : Nat → Option (List D)) (L : List Sp) (E : List Se) : Prop where
  one : ∀ s ∈ L, s.Holds P G
  eff : ∀ s ∈ E, s.Holds P G
theorem Known.sound {L : List Sp} {E : List Se} (h : Known P G L E) : (cx G L E).Sound P := cx_sound h.one h.eff
theorem Known.nil : Known P G [] [] := ⟨fun s h => by simp at h, fun s h => by simp at h⟩
theorem Known.add {L : List Sp} {E : List Se} (h : Known P G L E) (hm : P.follows .mixedOrders = true) {s : Sp} {g : Fun} (hok : ∀ a, s.ok a → funOk P s.f 0 (s.args a).length g = true)
    (hev : ∀ a, s.ok a → ∃ mv, runFun (cx G L E) g (s.args a) [] = some ((s.res a).1, (s.res a).2, mv)) : Known P G (s :: L) E := by
  refine ⟨fun t ht => ?_, h.eff⟩
  rcases List.mem_cons.1 ht with rfl | ht
  · exact holds_of hm h.sound hok hev
  · exact h.one t ht
def V.ease1 : V → V
  | .fs c k rows => .d c (.sl k rows)
  | v => v
def V.ease : V → V
  | .tup vs => .tup (vs.map V.ease1)
  | v => v.ease1
theorem ease1_sound {w : World} {F : Nat → Prop} {base : Nat} {σ : Nat → Option Loc} {v : Value} {r : V} (h : RepV w F base σ v r) : RepV w F base σ v r.ease1 := by
  cases h with
  | fs c a len k rows h => exact .d _ _ _ h
  | d c v x h => exact .d _ _ _ h
  | ptr b i j l h => exact .ptr b i j l h
  | bsl0 a b i => exact .bsl0 a b i
  | bsl b i len cap l h h1 h2 => exact .bsl b i len cap l h h1 h2
  | agg cs vs h1 h2 h3 => exact .agg cs vs h1 h2 h3
  | tup cs vs h1 h2 => exact .tup cs vs h1 h2
  | fn f cs vs h1 h2 => exact .fn f cs vs h1 h2
  | iface t v x h => exact .iface t v x h
  | map b l h => exact .map b l h
  | junk v => exact .junk v
theorem ease_sound {w : World} {F : Nat → Prop} {base : Nat} {σ : Nat → Option Loc} {v : Value} {r : V} (h : RepV w F base σ v r) : RepV w F base σ v r.ease := by
  cases h with
  | tup cs vs h1 h2 =>
    refine .tup cs _ (by simpa using h1) (fun j v x hv hx => ?_)
    rw [List.getElem?_map, Option.map_eq_some_iff] at hx
    obtain ⟨y, hy, rfl⟩ := hx
    exact ease1_sound (h2 j v y hv hy)
  | fs c a len k rows h => exact .d _ _ _ h
  | d c v x h => exact .d _ _ _ h
  | ptr b i j l h => exact .ptr b i j l h
  | bsl0 a b i => exact .bsl0 a b i
  | bsl b i len cap l h h1 h2 => exact .bsl b i len cap l h h1 h2
  | agg cs vs h1 h2 h3 => exact .agg cs vs h1 h2 h3
  | fn f cs vs h1 h2 => exact .fn f cs vs h1 h2
  | iface t v x h => exact .iface t v x h
  | map b l h => exact .map b l h
  | junk v => exact .junk v
theorem Known.addEase {L : List Sp} {E : List Se} (h : Known P G L E) (hm : P.follows .mixedOrders = true) {s : Sp} {g : Fun} (hok : ∀ a, s.ok a → funOk P s.f 0 (s.args a).length g = true)
    (hev : ∀ a, s.ok a → ∃ r mv, runFun (cx G L E) g (s.args a) [] = some (r, (s.res a).2, mv) ∧ r.ease = (s.res a).1) : Known P G (s :: L) E := by
  refine ⟨fun t ht => ?_, h.eff⟩
  rcases List.mem_cons.1 ht with rfl | ht
  · intro a ha
    obtain ⟨r, mv, h1, h2⟩ := hev a ha
    obtain ⟨q1, q2⟩ := pure_sound hm h.sound (hok a ha) h1
    refine ⟨q1, fun w F vals hF hG hR => (q2 w F vals hF hG hR).mono ?_⟩
    rintro e w' ⟨v, F', σ', he, hb, hF', hv, hH⟩
    exact ⟨v, F', σ', he, hb, hF', by rw [← h2]; exact ease_sound hv, hH⟩
  · exact h.one t ht
theorem Known.put {L : List Sp} {E : List Se} (h : Known P G L E) {s : Sp} (hs : s.Holds P G) : Known P G (s :: L) E := by
  refine ⟨fun t ht => ?_, h.eff⟩
  rcases List.mem_cons.1 ht with rfl | ht
  · exact hs
  · exact h.one t ht
theorem Known.putE {L : List Sp} {E : List Se} (h : Known P G L E) {s : Se} (hs : s.Holds P G) : Known P G L (s :: E) := by
  refine ⟨h.one, fun t ht => ?_⟩
  rcases List.mem_cons.1 ht with rfl | ht
  · exact hs
  · exact h.eff t ht
theorem hasE_tail {s t : Se} {L : List Se} (h : HasE L s) (hne : t.f ≠ s.f) : HasE (t :: L) s := by
  intro a ha
  simp only [effOf]
  rw [if_neg hne]
  exact h a ha

end Go.Vm
end

section
namespace Go.Vm
/- 'sloth/lex.class' -/
def f27 : Fun := ⟨
 (.seq
  (.reg [⟨[], [], [(.int .u8 0)], none, [0, 1], 1, [], [], []⟩])
  (.seq
   (.seq
    (.reg [⟨[], [(18, (.or (.or (.bin .lss (.sl 1) (.int .i64 0)) (.bin .geq (.sl 1) (.len true (.sl 0)))) (.bin .geq (.ix (.sl 0) (.sl 1)) (.int .u8 128))))], [], none, [0, 1], 14, [], [], []⟩])
    (.cond (.sl 18)
     (.seq
      (.reg [⟨[], [(4, (.int .u8 0))], [], none, [], 1, [], [], []⟩])
      (.seq
       (.tidy 0 [4])
       .ret))
     .skip))
   (.seq
    (.reg [⟨[], [(4, (.ld 1 false (.aa 128 1 (.glob 0) (.ix (.sl 0) (.sl 1)))))], [], none, [], 6, [], [], []⟩])
    (.seq
     (.tidy 0 [4])
     .ret)))),
 [(.sl 4)], false⟩
theorem f27_ok : funOk Go.Proofs.Tryz.prog 12 0 2 f27 = true := by kernel_rfl

/- 'strings.HasPrefix' -/
def f28 : Fun := ⟨
 (.seq
  (.reg [⟨[], [], [(.bool false)], none, [0, 1], 1, [], [], []⟩])
  (.seq
   (.reg [⟨[], [(4, (.call 38 (.cons (.sl 0) (.cons (.sl 1) .nil))))], [], none, [], 4, [], [], []⟩])
   (.seq
    (.tidy 0 [4])
    .ret))),
 [(.sl 4)], false⟩
theorem f28_ok : funOk Go.Proofs.Tryz.prog 13 0 2 f28 = true := by kernel_rfl

/- 'sloth/lex.run' -/
def f30_L0 : C :=
 (.seq
  (.seq
   (.reg [⟨[], [(11, (.bin .eql (.call 12 (.cons (.sl 0) (.cons (.sl 1) .nil))) (.sl 2)))], [], none, [0, 1, 2], 5, [], [], []⟩])
   (.cond (.sl 11)
    .skip
    (.seq
     (.tidy 0 [1])
     (.exit 0))))
  (.block 1
   (.reg [⟨[], [(1, (.bin .add (.sl 1) (.int .i64 1)))], [], none, [0, 2], 3, [], [], []⟩])))
def f30 : Fun := ⟨
 (.seq
  (.reg [⟨[], [], [(.int .i64 0)], none, [0, 1, 2], 1, [], [], []⟩])
  (.seq
   (.block 0
    (.seq (.tidy 0 [0, 1, 2]) (.loop (.seq (.tidy 0 [0, 1, 2]) f30_L0))))
   (.seq
    (.reg [⟨[], [(6, (.sl 1))], [], none, [], 2, [], [], []⟩])
    (.seq
     (.tidy 0 [6])
     .ret)))),
 [(.sl 6)], false⟩
theorem f30_ok : funOk Go.Proofs.Tryz.prog 15 0 3 f30 = true := by kernel_rfl

/- 'internal/stringslite.HasPrefix' -/
def f40 : Fun := ⟨
 (.seq
  (.reg [⟨[], [], [(.bool false)], none, [0, 1], 1, [], [], []⟩])
  (.seq
   (.reg [⟨[], [(4, (.and (.bin .geq (.len true (.sl 0)) (.len true (.sl 1))) (.bin .eql (.cut true false true false 0 (.sl 0) .nil (.len true (.sl 1)) .nil) (.sl 1))))], [], none, [], 14, [], [], []⟩])
   (.seq
    (.tidy 0 [4])
    .ret))),
 [(.sl 4)], false⟩
theorem f40_ok : funOk Go.Proofs.Tryz.prog 38 0 2 f40 = true := by kernel_rfl

/- 'sloth/lex.name' -/
def f42_L0 : C :=
 (.seq
  (.seq
   (.reg [⟨[], [(7, (.call 46 (.cons (.sl 0) (.cons (.sl 1) .nil))))], [], none, [0, 1], 3, [], [], []⟩])
   (.cond (.sl 7)
    .skip
    (.seq
     (.tidy 0 [1])
     (.exit 0))))
  (.block 1
   (.reg [⟨[], [(1, (.bin .add (.sl 1) (.int .i64 1)))], [], none, [0], 3, [], [], []⟩])))
def f42 : Fun := ⟨
 (.seq
  (.reg [⟨[], [], [(.int .i64 0)], none, [0, 1], 1, [], [], []⟩])
  (.seq
   (.block 0
    (.seq (.tidy 0 [0, 1]) (.loop (.seq (.tidy 0 [0, 1]) f42_L0))))
   (.seq
    (.reg [⟨[], [(4, (.sl 1))], [], none, [], 2, [], [], []⟩])
    (.seq
     (.tidy 0 [4])
     .ret)))),
 [(.sl 4)], false⟩
theorem f42_ok : funOk Go.Proofs.Tryz.prog 40 0 2 f42 = true := by kernel_rfl

/- 'sloth/lex.inName' -/
def f48 : Fun := ⟨
 (.seq
  (.reg [⟨[], [], [(.bool false)], none, [0, 1], 1, [], [], []⟩])
  (.seq
   (.reg [⟨[], [(5, (.call 12 (.cons (.sl 0) (.cons (.sl 1) .nil))))], [], none, [], 4, [], [], []⟩])
   (.seq
    (.reg [⟨[], [(4, (.and (.bin .geq (.sl 5) (.int .u8 1)) (.bin .leq (.sl 5) (.int .u8 4))))], [], none, [], 7, [], [], []⟩])
    (.seq
     (.tidy 0 [4])
     .ret)))),
 [(.sl 4)], false⟩
theorem f48_ok : funOk Go.Proofs.Tryz.prog 46 0 2 f48 = true := by kernel_rfl

abbrev BS := List UInt8
def clTab : List Nat := [
  0, 0, 0, 0, 0, 0, 0, 0, 0, 7, 7, 0, 0, 7, 0, 0,
  0, 0, 0, 0, 0, 0, 0, 0, 0, 0, 0, 0, 0, 0, 0, 0,
  7, 5, 0, 5, 5, 5, 5, 4, 6, 6, 5, 5, 6, 5, 5, 5,
  3, 3, 3, 3, 3, 3, 3, 3, 3, 3, 5, 6, 5, 5, 5, 5,
  5, 2, 2, 2, 2, 2, 2, 2, 2, 2, 2, 2, 2, 2, 2, 2,
  2, 2, 2, 2, 2, 2, 2, 2, 2, 2, 2, 6, 6, 6, 5, 4,
  6, 1, 1, 1, 1, 1, 1, 1, 1, 1, 1, 1, 1, 1, 1, 1,
  1, 1, 1, 1, 1, 1, 1, 1, 1, 1, 1, 6, 5, 6, 5, 0]
def clB (c : UInt8) : Nat := clTab.getD c.toNat 0
def cls : BS → Nat
  | [] => 0
  | c :: _ => clB c
def inNm (l : BS) : Bool := decide (1 ≤ cls l) && decide (cls l ≤ 4)
def runL (k : Nat) : BS → Nat
  | [] => 0
  | c :: r => if clB c = k then runL k r + 1 else 0
def nameL : BS → Nat
  | [] => 0
  | c :: r => if inNm (c :: r) then nameL r + 1 else 0
def pre (p s : BS) : Bool := decide (p.length ≤ s.length) && decide (s.take p.length = p)

theorem cast1 (i : Nat) : (i : Int) + 1 = ((i + 1 : Nat) : Int) := rfl
theorem cast2 (i : Nat) : (i : Int) + 2 = ((i + 2 : Nat) : Int) := rfl
theorem cast4 (i : Nat) : (i : Int) + 4 = ((i + 4 : Nat) : Int) := rfl

def GlobOk (K : Cx) : Prop := K.glob 0 = some (clTab.map fun n => .int .u8 n)
def K27 (K : Cx) : Prop := ∀ (s : BS) (i : Nat), i ≤ s.length → K.call 12 [.d false (.str s), .d false (.int .i64 i)] = some (.d false (.int .u8 (cls (s.drop i))), [])
def K30 (K : Cx) : Prop := ∀ (s : BS) (i k : Nat), i ≤ s.length → s.length ≤ 2000000 → k ≠ 0 → K.call 15 [.d false (.str s), .d false (.int .i64 i), .d false (.int .u8 k)] = some (.d false (.int .i64 ((i + runL k (s.drop i) : Nat))), [])
def K42 (K : Cx) : Prop := ∀ (s : BS) (i : Nat), i ≤ s.length → s.length ≤ 2000000 → K.call 40 [.d false (.str s), .d false (.int .i64 i)] = some (.d false (.int .i64 ((i + nameL (s.drop i) : Nat))), [])
def K48 (K : Cx) : Prop := ∀ (s : BS) (i : Nat), i ≤ s.length → K.call 46 [.d false (.str s), .d false (.int .i64 i)] = some (.d false (.bool (inNm (s.drop i))), [])
def K28 (K : Cx) : Prop := ∀ (p s : BS), s.length ≤ 2000000 → p.length ≤ 2000000 → K.call 13 [.d false (.str s), .d false (.str p)] = some (.d false (.bool (pre p s)), [])
def K40 (K : Cx) : Prop := ∀ (p s : BS), s.length ≤ 2000000 → p.length ≤ 2000000 → K.call 38 [.d false (.str s), .d false (.str p)] = some (.d false (.bool (pre p s)), [])

theorem e_glob (K : Cx) (s g cs) (h : K.glob g = some cs) (hh : isHandle cs = false := by rfl) : ev K s (.glob g) = some (.d false (.ptr cs)) := by
  simp only [ev, h, hh]
  rfl
theorem ld_cl (n : Nat) (h : n < 128) : part false 1 (List.map (mkd false) ((clTab.map fun n => D.int .u8 (n : Nat)).drop n)) = some (.d false (.int .u8 (clTab.getD n 0 : Nat))) := by
  have hl : n < clTab.length := h
  rw [← List.map_drop, List.drop_eq_getElem_cons hl]
  simp [part, mkd, D.flat, hl]

theorem ev_class (K : Cx) (hg : GlobOk K) (s : BS) (i : Nat) (hi : i ≤ s.length) : runFun K f27 [.d false (.str s), .d false (.int .i64 i)] [] = some (.d false (.int .u8 (cls (s.drop i))), [], []) := by
  by_cases h : i < s.length
  · have hd : s.drop i = s[i] :: s.drop (i + 1) := List.drop_eq_getElem_cons h
    have hn : nth s (i : Int) = s[i] := by simp [nth, h]
    rw [hd]
    simp only [cls, clB]
    generalize s[i] = c at hn
    clear hd
    by_cases h2 : c.toNat < 128
    · have hl := ld_cl c.toNat h2
      simp (disch := first | decide | omega | (simp only [LN]; omega) | (simp only [LN]; done) | fail) only [SV, SW, f27, Nat.reduceAdd, Nat.reduceBEq, hn, e_aa, e_glob K _ 0 _ hg, evAa, Nat.mul_one, hl, oneOr]
    · have hz : clTab.getD c.toNat 0 = 0 := by
        rw [List.getD_eq_getElem?_getD, List.getElem?_eq_none (by simp [clTab]; omega)]; rfl
      rw [hz]
      simp (disch := first | decide | omega | (simp only [LN]; omega) | (simp only [LN]; done) | fail) only [SV, SW, f27, Nat.reduceAdd, Nat.reduceBEq, hn, oneOr, Int.natCast_zero]
  · have : i = s.length := by omega
    subst this
    rw [List.drop_length]
    simp only [cls]
    simp (disch := first | decide | omega | (simp only [LN]; omega) | (simp only [LN]; done) | fail) only [SV, SW, f27, Nat.reduceAdd, Nat.reduceBEq, oneOr, Int.natCast_zero]

theorem run_loop (K : Cx) (h27 : K27 K) (s : BS) (kd : Nat) (hs : s.length ≤ 2000000) (hk : kd ≠ 0) : ∀ (k i : Nat), i + k = s.length →
    lp K 0 [0, 1, 2] f30_L0 ⟨[(0, .d false (.str s)), (1, .d false (.int .i64 i)), (2, .d false (.int .u8 kd))], [], 0, []⟩ = some (.exit 0, ⟨[(1, .d false (.int .i64 ((i + runL kd (s.drop i) : Nat))))], [], 0, []⟩) := by
  intro k
  induction k with
  | zero =>
    intro i hi
    have h := h27 s i (by omega)
    have hd : s.drop i = [] := by rw [List.drop_eq_nil_iff]; omega
    rw [hd] at h ⊢
    simp only [cls, runL] at h ⊢
    have hk' : ¬ ((0 : Int) = (kd : Int)) := by omega
    rw [lp_un f30_L0.eq_1]
    simp (disch := first | decide | omega | (simp only [LN]; omega) | (simp only [LN]; done) | fail) only [SV, SW, Nat.reduceBEq, viewD, h, Int.natCast_zero]
  | succ k ih =>
    intro i hi
    have h := h27 s i (by omega)
    have ih := ih (i + 1) (by omega)
    have hlt : i < s.length := by omega
    rw [List.drop_eq_getElem_cons hlt] at h ⊢
    generalize s[i] = c at h ⊢
    simp only [cls, runL] at h ⊢
    rw [lp_un f30_L0.eq_1]
    by_cases g : clB c = kd
    · rw [if_pos g]
      have e : i + (runL kd (s.drop (i + 1)) + 1) = i + 1 + runL kd (s.drop (i + 1)) := by omega
      rw [e]
      rw [g] at h
      simp (disch := first | decide | omega | (simp only [LN]; omega) | (simp only [LN]; done) | fail) only [SV, SW, Nat.reduceBEq, viewD, h, cast1]
      exact ih
    · have g' : ¬ ((clB c : Int) = (kd : Int)) := by omega
      rw [if_neg g]
      simp (disch := first | decide | omega | (simp only [LN]; omega) | (simp only [LN]; done) | fail) only [SV, SW, Nat.reduceBEq, viewD, h]

theorem ev_run (K : Cx) (h27 : K27 K) (s : BS) (i kd : Nat) (hi : i ≤ s.length) (hs : s.length ≤ 2000000) (hk : kd ≠ 0) : runFun K f30 [.d false (.str s), .d false (.int .i64 i), .d false (.int .u8 kd)] [] = some (.d false (.int .i64 ((i + runL kd (s.drop i) : Nat))), [], []) := by
  have h := run_loop K h27 s kd hs hk (s.length - i) i (by omega)
  simp (disch := first | decide | omega | (simp only [LN]; omega) | (simp only [LN]; done) | fail) only [SV, SW, f30, Nat.reduceAdd, Nat.reduceBEq, h, oneOr]

theorem name_loop (K : Cx) (h48 : K48 K) (s : BS) (hs : s.length ≤ 2000000) : ∀ (k i : Nat), i + k = s.length →
    lp K 0 [0, 1] f42_L0 ⟨[(0, .d false (.str s)), (1, .d false (.int .i64 i))], [], 0, []⟩ = some (.exit 0, ⟨[(1, .d false (.int .i64 ((i + nameL (s.drop i) : Nat))))], [], 0, []⟩) := by
  intro k
  induction k with
  | zero =>
    intro i hi
    have h := h48 s i (by omega)
    have hd : s.drop i = [] := by rw [List.drop_eq_nil_iff]; omega
    have hn : inNm [] = false := rfl
    rw [hd] at h ⊢
    rw [hn] at h
    simp only [nameL] at h ⊢
    rw [lp_un f42_L0.eq_1]
    simp (disch := first | decide | omega | (simp only [LN]; omega) | (simp only [LN]; done) | fail) only [SV, SW, Nat.reduceBEq, viewD, h]
  | succ k ih =>
    intro i hi
    have h := h48 s i (by omega)
    have ih := ih (i + 1) (by omega)
    have hlt : i < s.length := by omega
    rw [List.drop_eq_getElem_cons hlt] at h ⊢
    generalize s[i] = c at h ⊢
    simp only [nameL] at h ⊢
    rw [lp_un f42_L0.eq_1]
    by_cases g : inNm (c :: s.drop (i + 1)) = true
    · rw [if_pos g]
      have e : i + (nameL (s.drop (i + 1)) + 1) = i + 1 + nameL (s.drop (i + 1)) := by omega
      rw [e]
      rw [g] at h
      simp (disch := first | decide | omega | (simp only [LN]; omega) | (simp only [LN]; done) | fail) only [SV, SW, Nat.reduceBEq, viewD, h, cast1]
      exact ih
    · rw [if_neg g]
      rw [Bool.not_eq_true] at g
      rw [g] at h
      simp (disch := first | decide | omega | (simp only [LN]; omega) | (simp only [LN]; done) | fail) only [SV, SW, Nat.reduceBEq, viewD, h]

theorem ev_name (K : Cx) (h48 : K48 K) (s : BS) (i : Nat) (hi : i ≤ s.length) (hs : s.length ≤ 2000000) : runFun K f42 [.d false (.str s), .d false (.int .i64 i)] [] = some (.d false (.int .i64 ((i + nameL (s.drop i) : Nat))), [], []) := by
  have h := name_loop K h48 s hs (s.length - i) i (by omega)
  simp (disch := first | decide | omega | (simp only [LN]; omega) | (simp only [LN]; done) | fail) only [SV, SW, f42, Nat.reduceAdd, Nat.reduceBEq, h, oneOr]

theorem ev_inName (K : Cx) (h27 : K27 K) (s : BS) (i : Nat) (hi : i ≤ s.length) : runFun K f48 [.d false (.str s), .d false (.int .i64 i)] [] = some (.d false (.bool (inNm (s.drop i))), [], []) := by
  have h := h27 s i hi
  unfold inNm
  generalize cls (s.drop i) = n at h ⊢
  by_cases g : 1 ≤ n
  · by_cases g2 : n ≤ 4
    · have a : (1 : Int) ≤ n := by omega
      have b : (n : Int) ≤ 4 := by omega
      simp (disch := first | decide | omega | (simp only [LN]; omega) | (simp only [LN]; done) | fail) only [SV, SW, f48, Nat.reduceAdd, Nat.reduceBEq, viewD, h, oneOr, g, g2]
    · simp (disch := first | decide | omega | (simp only [LN]; omega) | (simp only [LN]; done) | fail) only [SV, SW, f48, Nat.reduceAdd, Nat.reduceBEq, viewD, h, oneOr, g, g2]
  · simp (disch := first | decide | omega | (simp only [LN]; omega) | (simp only [LN]; done) | fail) only [SV, SW, f48, Nat.reduceAdd, Nat.reduceBEq, viewD, h, oneOr, g]

theorem ev_pre (K : Cx) (p s : BS) (hs : s.length ≤ 2000000) (hp : p.length ≤ 2000000) : runFun K f40 [.d false (.str s), .d false (.str p)] [] = some (.d false (.bool (pre p s)), [], []) := by
  unfold pre
  by_cases g : p.length ≤ s.length
  · have hc : evCutS [] true false true false 0 (V.d false (.str s)) (.tup []) (.d false (.int .i64 (p.length : Int))) (.tup []) = some (.d false (.str (s.take p.length))) := by
      simp [evCutS, V.isStr, evCut, bound, g]
    by_cases g2 : s.take p.length = p
    · simp (disch := first | decide | omega | (simp only [LN]; omega) | (simp only [LN]; done) | fail) only [SV, SW, f40, Nat.reduceAdd, Nat.reduceBEq, hc, g2, oneOr, g]
    · simp (disch := first | decide | omega | (simp only [LN]; omega) | (simp only [LN]; done) | fail) only [SV, SW, f40, Nat.reduceAdd, Nat.reduceBEq, hc, g2, oneOr, g]
  · simp (disch := first | decide | omega | (simp only [LN]; omega) | (simp only [LN]; done) | fail) only [SV, SW, f40, Nat.reduceAdd, Nat.reduceBEq, oneOr, g]
theorem ev_hasPrefix (K : Cx) (h40 : K40 K) (p s : BS) (hs : s.length ≤ 2000000) (hp : p.length ≤ 2000000) : runFun K f28 [.d false (.str s), .d false (.str p)] [] = some (.d false (.bool (pre p s)), [], []) := by
  have h := h40 p s hs hp
  simp (disch := first | decide | omega | (simp only [LN]; omega) | (simp only [LN]; done) | fail) only [SV, SW, f28, Nat.reduceAdd, Nat.reduceBEq, viewD, h, oneOr]
end Go.Vm
end

section
namespace Go.Vm
set_option maxRecDepth 20000
/- 'sloth/lex.comment' -/
def f29_L0 : C :=
 (.seq
  (.seq
   (.reg [⟨[], [(10, (.bin .lss (.bin .add (.sl 1) (.int .i64 1)) (.len true (.sl 0))))], [], none, [0, 1, 5], 5, [], [], []⟩])
   (.cond (.sl 10)
    .skip
    (.seq
     (.tidy 0 [])
     (.exit 0))))
  (.block 1
   (.seq
    (.reg [⟨[], [(15, (.cut true true true false 0 (.sl 0) (.sl 1) (.bin .add (.sl 1) (.int .i64 2)) .nil))], [], none, [0, 1, 5], 5, [], [], []⟩])
    (.block 2
     (.seq
      (.reg [⟨[], [(18, (.bin .eql (.sl 15) (.str [123, 45])))], [], none, [0, 1, 5, 15], 2, [], [], []⟩])
      (.cond (.sl 18)
       (.seq
        (.reg [⟨[], [(5, (.bin .add (.sl 5) (.int .i64 1)))], [], none, [0, 1], 3, [], [], []⟩])
        (.reg [⟨[], [(1, (.bin .add (.sl 1) (.int .i64 2)))], [], none, [0, 5], 3, [], [], []⟩]))
       (.seq
        (.reg [⟨[], [(24, (.bin .eql (.sl 15) (.str [45, 125])))], [], none, [0, 1, 5], 2, [], [], []⟩])
        (.cond (.sl 24)
         (.seq
          (.reg [⟨[], [(5, (.bin .sub (.sl 5) (.int .i64 1)))], [], none, [0, 1], 3, [], [], []⟩])
          (.seq
           (.reg [⟨[], [(1, (.bin .add (.sl 1) (.int .i64 2)))], [], none, [0, 5], 3, [], [], []⟩])
           (.seq
            (.reg [⟨[], [(31, (.bin .eql (.sl 5) (.int .i64 0)))], [], none, [0, 1, 5], 2, [], [], []⟩])
            (.cond (.sl 31)
             (.seq
              (.reg [⟨[], [(4, (.sl 1))], [], none, [], 2, [], [], []⟩])
              (.seq
               (.tidy 0 [4])
               .ret))
             .skip))))
         (.reg [⟨[], [(1, (.bin .add (.sl 1) (.int .i64 1)))], [], none, [0, 5], 3, [], [], []⟩])))))))))
def f29 : Fun := ⟨
 (.seq
  (.reg [⟨[], [], [(.int .i64 0)], none, [0, 1], 1, [], [], []⟩])
  (.seq
   (.reg [⟨[], [(5, (.int .i64 0))], [], none, [0, 1], 1, [], [], []⟩])
   (.seq
    (.block 0
     (.seq (.tidy 0 [0, 1, 5]) (.loop (.seq (.tidy 0 [0, 1, 5]) f29_L0))))
    (.seq
     (.reg [⟨[], [(4, (.int .i64 (-1)))], [], none, [], 1, [], [], []⟩])
     (.seq
      (.tidy 0 [4])
      .ret))))),
 [(.sl 4)], false⟩
theorem f29_ok : funOk Go.Proofs.Tryz.prog 14 0 2 f29 = true := by kernel_rfl

/- 'sloth/lex.dashes' -/
def f31 : Fun := ⟨
 (.seq
  (.reg [⟨[], [], [(.bool false)], none, [0], 1, [], [], []⟩])
  (.seq
   (.reg [⟨[], [(2, (.and (.bin .geq (.len true (.sl 0)) (.int .i64 2)) (.bin .eql (.call 39 (.cons (.sl 0) (.cons (.str [45]) .nil))) (.str []))))], [], none, [], 9, [], [], []⟩])
   (.seq
    (.tidy 0 [2])
    .ret))),
 [(.sl 2)], false⟩
theorem f31_ok : funOk Go.Proofs.Tryz.prog 16 0 1 f31 = true := by kernel_rfl

/- 'strings.Trim' -/
def f41 : Fun := ⟨
 (.seq
  (.reg [⟨[], [], [(.str [])], none, [0, 1], 1, [], [], []⟩])
  (.seq
   (.seq
    (.reg [⟨[], [(12, (.or (.bin .eql (.sl 0) (.str [])) (.bin .eql (.sl 1) (.str []))))], [], none, [0, 1], 6, [], [], []⟩])
    (.cond (.sl 12)
     (.seq
      (.reg [⟨[], [(4, (.sl 0))], [], none, [], 2, [], [], []⟩])
      (.seq
       (.tidy 0 [4])
       .ret))
     .skip))
   (.seq
    (.seq
     (.reg [⟨[], [(21, (.and (.bin .eql (.len true (.sl 1)) (.int .i64 1)) (.bin .lss (.ix (.sl 1) (.int .i64 0)) (.int .u8 128))))], [], none, [0, 1], 8, [], [], []⟩])
     (.cond (.sl 21)
      (.seq
       (.reg [⟨[], [(4, (.call 62 (.cons (.call 63 (.cons (.sl 0) (.cons (.ix (.sl 1) (.int .i64 0)) .nil))) (.cons (.ix (.sl 1) (.int .i64 0)) .nil))))], [], none, [], 8, [[], [], [1], [1, 2, 0], [], [4], [4, 5, 0, 2, 1, 3], [3, 1, 2, 0, 5, 4, 6]], [], []⟩])
       (.seq
        (.tidy 0 [4])
        .ret))
      .skip))
    (.seq
     (.seq
      (.reg [⟨[(5, .box (.agg (.cons (.bool false) (.cons (.bool false) (.cons (.bool false) (.cons (.bool false) (.cons (.bool false) (.cons (.bool false) (.cons (.bool false) (.cons (.bool false) (.cons (.bool false) (.cons (.bool false) (.cons (.bool false) (.cons (.bool false) (.cons (.bool false) (.cons (.bool false) (.cons (.bool false) (.cons (.bool false) (.cons (.bool false) (.cons (.bool false) (.cons (.bool false) (.cons (.bool false) (.cons (.bool false) (.cons (.bool false) (.cons (.bool false) (.cons (.bool false) (.cons (.bool false) (.cons (.bool false) (.cons (.bool false) (.cons (.bool false) (.cons (.bool false) (.cons (.bool false) (.cons (.bool false) (.cons (.bool false) (.cons (.bool false) (.cons (.bool false) (.cons (.bool false) (.cons (.bool false) (.cons (.bool false) (.cons (.bool false) (.cons (.bool false) (.cons (.bool false) (.cons (.bool false) (.cons (.bool false) (.cons (.bool false) (.cons (.bool false) (.cons (.bool false) (.cons (.bool false) (.cons (.bool false) (.cons (.bool false) (.cons (.bool false) (.cons (.bool false) (.cons (.bool false) (.cons (.bool false) (.cons (.bool false) (.cons (.bool false) (.cons (.bool false) (.cons (.bool false) (.cons (.bool false) (.cons (.bool false) (.cons (.bool false) (.cons (.bool false) (.cons (.bool false) (.cons (.bool false) (.cons (.bool false) (.cons (.bool false) (.cons (.bool false) (.cons (.bool false) (.cons (.bool false) (.cons (.bool false) (.cons (.bool false) (.cons (.bool false) (.cons (.bool false) (.cons (.bool false) (.cons (.bool false) (.cons (.bool false) (.cons (.bool false) (.cons (.bool false) (.cons (.bool false) (.cons (.bool false) (.cons (.bool false) (.cons (.bool false) (.cons (.bool false) (.cons (.bool false) (.cons (.bool false) (.cons (.bool false) (.cons (.bool false) (.cons (.bool false) (.cons (.bool false) (.cons (.bool false) (.cons (.bool false) (.cons (.bool false) (.cons (.bool false) (.cons (.bool false) (.cons (.bool false) (.cons (.bool false) (.cons (.bool false) (.cons (.bool false) (.cons (.bool false) (.cons (.bool false) (.cons (.bool false) (.cons (.bool false) (.cons (.bool false) (.cons (.bool false) (.cons (.bool false) (.cons (.bool false) (.cons (.bool false) (.cons (.bool false) (.cons (.bool false) (.cons (.bool false) (.cons (.bool false) (.cons (.bool false) (.cons (.bool false) (.cons (.bool false) (.cons (.bool false) (.cons (.bool false) (.cons (.bool false) (.cons (.bool false) (.cons (.bool false) (.cons (.bool false) (.cons (.bool false) (.cons (.bool false) (.cons (.bool false) (.cons (.bool false) (.cons (.bool false) (.cons (.bool false) (.cons (.bool false) (.cons (.bool false) (.cons (.bool false) (.cons (.bool false) (.cons (.bool false) (.cons (.bool false) (.cons (.bool false) (.cons (.bool false) (.cons (.bool false) (.cons (.bool false) (.cons (.bool false) (.cons (.bool false) (.cons (.bool false) (.cons (.bool false) (.cons (.bool false) (.cons (.bool false) (.cons (.bool false) (.cons (.bool false) (.cons (.bool false) (.cons (.bool false) (.cons (.bool false) (.cons (.bool false) (.cons (.bool false) (.cons (.bool false) (.cons (.bool false) (.cons (.bool false) (.cons (.bool false) (.cons (.bool false) (.cons (.bool false) (.cons (.bool false) (.cons (.bool false) (.cons (.bool false) (.cons (.bool false) (.cons (.bool false) (.cons (.bool false) (.cons (.bool false) (.cons (.bool false) (.cons (.bool false) (.cons (.bool false) (.cons (.bool false) (.cons (.bool false) (.cons (.bool false) (.cons (.bool false) (.cons (.bool false) (.cons (.bool false) (.cons (.bool false) (.cons (.bool false) (.cons (.bool false) (.cons (.bool false) (.cons (.bool false) (.cons (.bool false) (.cons (.bool false) (.cons (.bool false) (.cons (.bool false) (.cons (.bool false) (.cons (.bool false) (.cons (.bool false) (.cons (.bool false) (.cons (.bool false) (.cons (.bool false) (.cons (.bool false) (.cons (.bool false) (.cons (.bool false) (.cons (.bool false) (.cons (.bool false) (.cons (.bool false) (.cons (.bool false) (.cons (.bool false) (.cons (.bool false) (.cons (.bool false) (.cons (.bool false) (.cons (.bool false) (.cons (.bool false) (.cons (.bool false) (.cons (.bool false) (.cons (.bool false) (.cons (.bool false) (.cons (.bool false) (.cons (.bool false) (.cons (.bool false) (.cons (.bool false) (.cons (.bool false) (.cons (.bool false) (.cons (.bool false) (.cons (.bool false) (.cons (.bool false) (.cons (.bool false) (.cons (.bool false) (.cons (.bool false) (.cons (.bool false) (.cons (.bool false) (.cons (.bool false) (.cons (.bool false) (.cons (.bool false) (.cons (.bool false) (.cons (.bool false) (.cons (.bool false) (.cons (.bool false) (.cons (.bool false) (.cons (.bool false) (.cons (.bool false) (.cons (.bool false) (.cons (.bool false) (.cons (.bool false) (.cons (.bool false) (.cons (.bool false) (.cons (.bool false) (.cons (.bool false) (.cons (.bool false) (.cons (.bool false) (.cons (.bool false) (.cons (.bool false) (.cons (.bool false) (.cons (.bool false) (.cons (.bool false) (.cons (.bool false) (.cons (.bool false) (.cons (.bool false) (.cons (.bool false) (.cons (.bool false) (.cons (.bool false) (.cons (.bool false) (.cons (.bool false) (.cons (.bool false) (.cons (.bool false) (.cons (.bool false) (.cons (.bool false) (.cons (.bool false) (.cons (.bool false) (.cons (.bool false) (.cons (.bool false) (.cons (.bool false) .nil))))))))))))))))))))))))))))))))))))))))))))))))))))))))))))))))))))))))))))))))))))))))))))))))))))))))))))))))))))))))))))))))))))))))))))))))))))))))))))))))))))))))))))))))))))))))))))))))))))))))))))))))))))))))))))))))))))))))))))))))))))))))))))))))))], [(33, (.ext 1 (.call 64 (.cons (.sl 1) .nil))))], [], some (none, .store 256 (.sl 5) (.ext 0 (.call 64 (.cons (.sl 1) .nil)))), [0, 1, 5], 7, [], [], []⟩, ⟨[], [(6, (.sl 33))], [], none, [0, 1, 5], 1, [], [], []⟩])
      (.seq
       (.reg [⟨[], [(34, (.sl 6))], [], none, [0, 1, 5], 1, [], [], []⟩])
       (.cond (.sl 34)
        (.seq
         (.reg [⟨[], [(4, (.call 65 (.cons (.call 66 (.cons (.sl 0) (.cons (.sl 5) .nil))) (.cons (.sl 5) .nil))))], [], none, [], 4, [], [], []⟩])
         (.seq
          (.tidy 0 [4])
          .ret))
        .skip)))
     (.seq
      (.reg [⟨[], [(4, (.call 67 (.cons (.call 68 (.cons (.sl 0) (.cons (.sl 1) .nil))) (.cons (.sl 1) .nil))))], [], none, [], 6, [], [], []⟩])
      (.seq
       (.tidy 0 [4])
       .ret)))))),
 [(.sl 4)], false⟩
theorem f41_ok : funOk Go.Proofs.Tryz.prog 39 0 2 f41 = true := by kernel_rfl

/- 'sloth/lex.reserved' -/
def f43 : Fun := ⟨
 (.seq
  (.reg [⟨[], [], [(.bool false)], none, [0], 1, [], [], []⟩])
  (.seq
   (.seq
    (.reg [⟨[], [(3, (.sl 0))], [], none, [], 1, [], [], []⟩])
    (.block 0
     (.seq
      (.seq
       (.reg [⟨[], [(4, (.bin .eql (.sl 3) (.str [109, 111, 100, 117, 108, 101])))], [], none, [3], 2, [], [], []⟩])
       (.cond (.sl 4)
        .skip
        (.seq
         (.reg [⟨[], [(4, (.bin .eql (.sl 3) (.str [105, 109, 112, 111, 114, 116])))], [], none, [3], 2, [], [], []⟩])
         (.cond (.sl 4)
          .skip
          (.seq
           (.reg [⟨[], [(4, (.bin .eql (.sl 3) (.str [100, 97, 116, 97])))], [], none, [3], 2, [], [], []⟩])
           (.cond (.sl 4)
            .skip
            (.seq
             (.reg [⟨[], [(4, (.bin .eql (.sl 3) (.str [105, 110, 102, 105, 120, 108])))], [], none, [3], 2, [], [], []⟩])
             (.cond (.sl 4)
              .skip
              (.seq
               (.reg [⟨[], [(4, (.bin .eql (.sl 3) (.str [105, 110, 102, 105, 120, 114])))], [], none, [3], 2, [], [], []⟩])
               (.cond (.sl 4)
                .skip
                (.seq
                 (.reg [⟨[], [(4, (.bin .eql (.sl 3) (.str [105, 110, 102, 105, 120])))], [], none, [3], 2, [], [], []⟩])
                 (.cond (.sl 4)
                  .skip
                  (.seq
                   (.reg [⟨[], [(4, (.bin .eql (.sl 3) (.str [108, 101, 116])))], [], none, [3], 2, [], [], []⟩])
                   (.cond (.sl 4)
                    .skip
                    (.seq
                     (.reg [⟨[], [(4, (.bin .eql (.sl 3) (.str [105, 110])))], [], none, [3], 2, [], [], []⟩])
                     (.cond (.sl 4)
                      .skip
                      (.seq
                       (.reg [⟨[], [(4, (.bin .eql (.sl 3) (.str [99, 97, 115, 101])))], [], none, [3], 2, [], [], []⟩])
                       (.cond (.sl 4)
                        .skip
                        (.seq
                         (.reg [⟨[], [(4, (.bin .eql (.sl 3) (.str [111, 102])))], [], none, [3], 2, [], [], []⟩])
                         (.cond (.sl 4)
                          .skip
                          (.seq
                           (.reg [⟨[], [(4, (.bin .eql (.sl 3) (.str [105, 102])))], [], none, [3], 2, [], [], []⟩])
                           (.cond (.sl 4)
                            .skip
                            (.seq
                             (.reg [⟨[], [(4, (.bin .eql (.sl 3) (.str [116, 104, 101, 110])))], [], none, [3], 2, [], [], []⟩])
                             (.cond (.sl 4)
                              .skip
                              (.reg [⟨[], [(4, (.bin .eql (.sl 3) (.str [101, 108, 115, 101])))], [], none, [], 2, [], [], []⟩])))))))))))))))))))))))))
      (.cond (.sl 4)
       (.seq
        (.reg [⟨[], [(2, (.bool true))], [], none, [], 1, [], [], []⟩])
        (.seq
         (.tidy 0 [2])
         .ret))
       .skip))))
   (.seq
    (.reg [⟨[], [(2, (.bool false))], [], none, [], 1, [], [], []⟩])
    (.seq
     (.tidy 0 [2])
     .ret)))),
 [(.sl 2)], false⟩
theorem f43_ok : funOk Go.Proofs.Tryz.prog 41 0 1 f43 = true := by kernel_rfl

/- 'sloth/lex.isSign' -/
def f46 : Fun := ⟨
 (.seq
  (.reg [⟨[], [], [(.bool false)], none, [0], 1, [], [], []⟩])
  (.seq
   (.reg [⟨[], [(2, (.or (.or (.or (.bin .eql (.sl 0) (.str [61])) (.bin .eql (.sl 0) (.str [124]))) (.bin .eql (.sl 0) (.str [45, 62]))) (.bin .eql (.sl 0) (.str [58, 58]))))], [], none, [], 15, [], [], []⟩])
   (.seq
    (.tidy 0 [2])
    .ret))),
 [(.sl 2)], false⟩
theorem f46_ok : funOk Go.Proofs.Tryz.prog 44 0 1 f46 = true := by kernel_rfl

/- 'strings.trimLeftByte' -/
def f61_L0 : C :=
 (.seq
  (.seq
   (.reg [⟨[], [(13, (.and (.bin .gtr (.len true (.sl 0)) (.int .i64 0)) (.bin .eql (.ix (.sl 0) (.int .i64 0)) (.sl 1))))], [], none, [0, 1], 9, [], [], []⟩])
   (.cond (.sl 13)
    .skip
    (.seq
     (.tidy 0 [0])
     (.exit 0))))
  (.block 1
   (.reg [⟨[], [(0, (.cut true true false false 0 (.sl 0) (.int .i64 1) .nil .nil))], [], none, [1], 3, [], [], []⟩])))
def f61 : Fun := ⟨
 (.seq
  (.reg [⟨[], [], [(.str [])], none, [0, 1], 1, [], [], []⟩])
  (.seq
   (.block 0
    (.seq (.tidy 0 [0, 1]) (.loop (.seq (.tidy 0 [0, 1]) f61_L0))))
   (.seq
    (.reg [⟨[], [(4, (.sl 0))], [], none, [], 2, [], [], []⟩])
    (.seq
     (.tidy 0 [4])
     .ret)))),
 [(.sl 4)], false⟩
theorem f61_ok : funOk Go.Proofs.Tryz.prog 62 0 2 f61 = true := by kernel_rfl

/- 'strings.trimRightByte' -/
def f62_L0 : C :=
 (.seq
  (.seq
   (.reg [⟨[], [(16, (.and (.bin .gtr (.len true (.sl 0)) (.int .i64 0)) (.bin .eql (.ix (.sl 0) (.bin .sub (.len true (.sl 0)) (.int .i64 1))) (.sl 1))))], [], none, [0, 1], 12, [], [], []⟩])
   (.cond (.sl 16)
    .skip
    (.seq
     (.tidy 0 [0])
     (.exit 0))))
  (.block 1
   (.reg [⟨[], [(0, (.cut true false true false 0 (.sl 0) .nil (.bin .sub (.len true (.sl 0)) (.int .i64 1)) .nil))], [], none, [1], 6, [], [], []⟩])))
def f62 : Fun := ⟨
 (.seq
  (.reg [⟨[], [], [(.str [])], none, [0, 1], 1, [], [], []⟩])
  (.seq
   (.block 0
    (.seq (.tidy 0 [0, 1]) (.loop (.seq (.tidy 0 [0, 1]) f62_L0))))
   (.seq
    (.reg [⟨[], [(4, (.sl 0))], [], none, [], 2, [], [], []⟩])
    (.seq
     (.tidy 0 [4])
     .ret)))),
 [(.sl 4)], false⟩
theorem f62_ok : funOk Go.Proofs.Tryz.prog 63 0 2 f62 = true := by kernel_rfl

/- 'sloth/lex.byteAt' -/
def f68 : Fun := ⟨
 (.seq
  (.reg [⟨[], [], [(.int .u8 0)], none, [0, 1], 1, [], [], []⟩])
  (.seq
   (.seq
    (.reg [⟨[], [(8, (.bin .geq (.sl 1) (.len true (.sl 0))))], [], none, [0, 1], 4, [], [], []⟩])
    (.cond (.sl 8)
     (.seq
      (.reg [⟨[], [(4, (.int .u8 0))], [], none, [], 1, [], [], []⟩])
      (.seq
       (.tidy 0 [4])
       .ret))
     .skip))
   (.seq
    (.reg [⟨[], [(4, (.ix (.sl 0) (.sl 1)))], [], none, [], 4, [], [], []⟩])
    (.seq
     (.tidy 0 [4])
     .ret)))),
 [(.sl 4)], false⟩
theorem f68_ok : funOk Go.Proofs.Tryz.prog 69 0 2 f68 = true := by kernel_rfl

/- 'sloth/lex.hex' -/
def f69 : Fun := ⟨
 (.seq
  (.reg [⟨[], [], [(.int .i64 0)], none, [0, 1], 1, [], [], []⟩])
  (.seq
   (.reg [⟨[], [(4, (.call 84 (.cons (.str [48, 49, 50, 51, 52, 53, 54, 55, 56, 57, 97, 98, 99, 100, 101, 102]) (.cons (.call 69 (.cons (.sl 0) (.cons (.sl 1) .nil))) .nil))))], [], none, [], 5, [], [], []⟩])
   (.seq
    (.tidy 0 [4])
    .ret))),
 [(.sl 4)], false⟩
theorem f69_ok : funOk Go.Proofs.Tryz.prog 70 0 2 f69 = true := by kernel_rfl

theorem cut_sh (H : List (Nat × Blk)) (s : BS) (x y : V) (n : Nat) (h : n ≤ s.length) : evCutS H true false true false 0 (.d false (.str s)) (.tup []) (.d false (.int .i64 (n : Int))) (.tup []) = some (.d false (.str (s.take n))) := by
  simp [evCutS, V.isStr, evCut, bound, h]
theorem cut_sl (H : List (Nat × Blk)) (s : BS) (n : Nat) (h : n ≤ s.length) : evCutS H true true false false 0 (.d false (.str s)) (.d false (.int .i64 (n : Int))) (.tup []) (.tup []) = some (.d false (.str (s.drop n))) := by
  have : (s.drop n).take (s.length - n) = s.drop n := List.take_of_length_le (by simp)
  simp [evCutS, V.isStr, evCut, bound, h, this]
theorem cut_slh (H : List (Nat × Blk)) (s : BS) (n m : Nat) (h1 : n ≤ m) (h : m ≤ s.length) : evCutS H true true true false 0 (.d false (.str s)) (.d false (.int .i64 (n : Int))) (.d false (.int .i64 (m : Int))) (.tup []) = some (.d false (.str ((s.drop n).take (m - n)))) := by
  simp [evCutS, V.isStr, evCut, bound, h, h1]

def words : List BS := [[109, 111, 100, 117, 108, 101], [105, 109, 112, 111, 114, 116], [100, 97, 116, 97], [105, 110, 102, 105, 120, 108], [105, 110, 102, 105, 120, 114], [105, 110, 102, 105, 120], [108, 101, 116], [105, 110], [99, 97, 115, 101], [111, 102], [105, 102], [116, 104, 101, 110], [101, 108, 115, 101]]
def resv (s : BS) : Bool := decide (s ∈ words)
def signs : List BS := [[61], [124], [45, 62], [58, 58]]
def isSg (s : BS) : Bool := decide (s ∈ signs)
def dsh (s : BS) : Bool := decide (2 ≤ s.length) && s.all (· == 45)
def trR (c : UInt8) (s : BS) : BS := (s.reverse.dropWhile (· == c)).reverse
def trL (c : UInt8) (s : BS) : BS := s.dropWhile (· == c)
def bAt : BS → UInt8
  | [] => 0
  | c :: _ => c
def comL : Int → BS → Option Nat
  | d, x :: y :: r => if x = 123 ∧ y = 45 then (comL (d + 1) r).map (· + 2) else if x = 45 ∧ y = 125 then (if d - 1 = 0 then some 2 else (comL (d - 1) r).map (· + 2)) else (comL d (y :: r)).map (· + 1)
  | _, _ => none
def hexB (c : UInt8) : Int := if 48 ≤ c.toNat ∧ c.toNat ≤ 57 then c.toNat - 48 else if 97 ≤ c.toNat ∧ c.toNat ≤ 102 then c.toNat - 87 else -1
def hexL (l : BS) : Int := hexB (bAt l)

def K43 (K : Cx) : Prop := ∀ s : BS, K.call 41 [.d false (.str s)] = some (.d false (.bool (resv s)), [])
def K46 (K : Cx) : Prop := ∀ s : BS, K.call 44 [.d false (.str s)] = some (.d false (.bool (isSg s)), [])
def K31 (K : Cx) : Prop := ∀ s : BS, s.length ≤ 2000000 → K.call 16 [.d false (.str s)] = some (.d false (.bool (dsh s)), [])
def K41 (K : Cx) : Prop := ∀ s : BS, s ≠ [] → s.length ≤ 2000000 → K.call 39 [.d false (.str s), .d false (.str [45])] = some (.d false (.str (trL 45 (trR 45 s))), [])
def K61 (K : Cx) : Prop := ∀ (s : BS) (c : UInt8), s.length ≤ 2000000 → K.call 62 [.d false (.str s), .d false (.int .u8 c.toNat)] = some (.d false (.str (trL c s)), [])
def K62 (K : Cx) : Prop := ∀ (s : BS) (c : UInt8), s.length ≤ 2000000 → K.call 63 [.d false (.str s), .d false (.int .u8 c.toNat)] = some (.d false (.str (trR c s)), [])
def K29 (K : Cx) : Prop := ∀ (s : BS) (i : Nat), i ≤ s.length → s.length ≤ 2000000 → K.call 14 [.d false (.str s), .d false (.int .i64 i)] = some (.d false (.int .i64 (match comL 0 (s.drop i) with | some n => ((i + n : Nat) : Int) | none => -1)), [])
def K68 (K : Cx) : Prop := ∀ (s : BS) (i : Nat), s.length ≤ 2000000 → K.call 69 [.d false (.str s), .d false (.int .i64 i)] = some (.d false (.int .u8 (bAt (s.drop i)).toNat), [])
def K85 (K : Cx) : Prop := ∀ c : UInt8, K.call 84 [.d false (.str [48, 49, 50, 51, 52, 53, 54, 55, 56, 57, 97, 98, 99, 100, 101, 102]), .d false (.int .u8 c.toNat)] = some (.d false (.int .i64 (hexB c)), [])
def K69 (K : Cx) : Prop := ∀ (s : BS) (i : Nat), s.length ≤ 2000000 → K.call 70 [.d false (.str s), .d false (.int .i64 i)] = some (.d false (.int .i64 (hexL (s.drop i))), [])

theorem ev_reserved (K : Cx) (s : BS) : runFun K f43 [.d false (.str s)] [] = some (.d false (.bool (resv s)), [], []) := by
  unfold resv words
  by_cases g1 : s = [109, 111, 100, 117, 108, 101]
  · have e : (s = [109, 111, 100, 117, 108, 101]) = True := eq_true g1
    clear g1
    simp (disch := first | decide | omega | (simp only [LN]; omega) | (simp only [LN]; done) | fail) only [SV, SW, f43, e, oneOr]
  by_cases g2 : s = [105, 109, 112, 111, 114, 116]
  · have e : (s = [105, 109, 112, 111, 114, 116]) = True := eq_true g2
    clear g2
    simp (disch := first | decide | omega | (simp only [LN]; omega) | (simp only [LN]; done) | fail) only [SV, SW, f43, g1, Nat.reduceBEq, e, oneOr]
  by_cases g3 : s = [100, 97, 116, 97]
  · have e : (s = [100, 97, 116, 97]) = True := eq_true g3
    clear g3
    simp (disch := first | decide | omega | (simp only [LN]; omega) | (simp only [LN]; done) | fail) only [SV, SW, f43, g1, Nat.reduceBEq, g2, e, oneOr]
  by_cases g4 : s = [105, 110, 102, 105, 120, 108]
  · have e : (s = [105, 110, 102, 105, 120, 108]) = True := eq_true g4
    clear g4
    simp (disch := first | decide | omega | (simp only [LN]; omega) | (simp only [LN]; done) | fail) only [SV, SW, f43, g1, Nat.reduceBEq, g2, g3, e, oneOr]
  by_cases g5 : s = [105, 110, 102, 105, 120, 114]
  · have e : (s = [105, 110, 102, 105, 120, 114]) = True := eq_true g5
    clear g5
    simp (disch := first | decide | omega | (simp only [LN]; omega) | (simp only [LN]; done) | fail) only [SV, SW, f43, g1, Nat.reduceBEq, g2, g3, g4, e, oneOr]
  by_cases g6 : s = [105, 110, 102, 105, 120]
  · have e : (s = [105, 110, 102, 105, 120]) = True := eq_true g6
    clear g6
    simp (disch := first | decide | omega | (simp only [LN]; omega) | (simp only [LN]; done) | fail) only [SV, SW, f43, g1, Nat.reduceBEq, g2, g3, g4, g5, e, oneOr]
  by_cases g7 : s = [108, 101, 116]
  · have e : (s = [108, 101, 116]) = True := eq_true g7
    clear g7
    simp (disch := first | decide | omega | (simp only [LN]; omega) | (simp only [LN]; done) | fail) only [SV, SW, f43, g1, Nat.reduceBEq, g2, g3, g4, g5, g6, e, oneOr]
  by_cases g8 : s = [105, 110]
  · have e : (s = [105, 110]) = True := eq_true g8
    clear g8
    simp (disch := first | decide | omega | (simp only [LN]; omega) | (simp only [LN]; done) | fail) only [SV, SW, f43, g1, Nat.reduceBEq, g2, g3, g4, g5, g6, g7, e, oneOr]
  by_cases g9 : s = [99, 97, 115, 101]
  · have e : (s = [99, 97, 115, 101]) = True := eq_true g9
    clear g9
    simp (disch := first | decide | omega | (simp only [LN]; omega) | (simp only [LN]; done) | fail) only [SV, SW, f43, g1, Nat.reduceBEq, g2, g3, g4, g5, g6, g7, g8, e, oneOr]
  by_cases g10 : s = [111, 102]
  · have e : (s = [111, 102]) = True := eq_true g10
    clear g10
    simp (disch := first | decide | omega | (simp only [LN]; omega) | (simp only [LN]; done) | fail) only [SV, SW, f43, g1, Nat.reduceBEq, g2, g3, g4, g5, g6, g7, g8, g9, e, oneOr]
  by_cases g11 : s = [105, 102]
  · have e : (s = [105, 102]) = True := eq_true g11
    clear g11
    simp (disch := first | decide | omega | (simp only [LN]; omega) | (simp only [LN]; done) | fail) only [SV, SW, f43, g1, Nat.reduceBEq, g2, g3, g4, g5, g6, g7, g8, g9, g10, e, oneOr]
  by_cases g12 : s = [116, 104, 101, 110]
  · have e : (s = [116, 104, 101, 110]) = True := eq_true g12
    clear g12
    simp (disch := first | decide | omega | (simp only [LN]; omega) | (simp only [LN]; done) | fail) only [SV, SW, f43, g1, Nat.reduceBEq, g2, g3, g4, g5, g6, g7, g8, g9, g10, g11, e, oneOr]
  by_cases g13 : s = [101, 108, 115, 101]
  · have e : (s = [101, 108, 115, 101]) = True := eq_true g13
    clear g13
    simp (disch := first | decide | omega | (simp only [LN]; omega) | (simp only [LN]; done) | fail) only [SV, SW, f43, g1, Nat.reduceBEq, g2, g3, g4, g5, g6, g7, g8, g9, g10, g11, g12, e, oneOr]
  simp (disch := first | decide | omega | (simp only [LN]; omega) | (simp only [LN]; done) | fail) only [SV, SW, f43, g1, Nat.reduceBEq, g2, g3, g4, g5, g6, g7, g8, g9, g10, g11, g12, g13, oneOr]

theorem ev_isSign (K : Cx) (s : BS) : runFun K f46 [.d false (.str s)] [] = some (.d false (.bool (isSg s)), [], []) := by
  unfold isSg signs
  by_cases g1 : s = [61]
  · have e : (s = [61]) = True := eq_true g1
    clear g1
    simp (disch := first | decide | omega | (simp only [LN]; omega) | (simp only [LN]; done) | fail) only [SV, SW, f46, e, oneOr]
  by_cases g2 : s = [124]
  · have e : (s = [124]) = True := eq_true g2
    clear g2
    simp (disch := first | decide | omega | (simp only [LN]; omega) | (simp only [LN]; done) | fail) only [SV, SW, f46, g1, e, oneOr]
  by_cases g3 : s = [45, 62]
  · have e : (s = [45, 62]) = True := eq_true g3
    clear g3
    simp (disch := first | decide | omega | (simp only [LN]; omega) | (simp only [LN]; done) | fail) only [SV, SW, f46, g1, g2, e, oneOr]
  by_cases g4 : s = [58, 58]
  · have e : (s = [58, 58]) = True := eq_true g4
    clear g4
    simp (disch := first | decide | omega | (simp only [LN]; omega) | (simp only [LN]; done) | fail) only [SV, SW, f46, g1, g2, g3, e, oneOr]
  simp (disch := first | decide | omega | (simp only [LN]; omega) | (simp only [LN]; done) | fail) only [SV, SW, f46, g1, g2, g3, g4, oneOr]

theorem u8eq (a b : UInt8) : ((a.toNat : Int) = (b.toNat : Int)) = (a = b) := by
  apply propext
  constructor
  · intro h; exact UInt8.toNat_inj.1 (by omega)
  · rintro rfl; rfl

theorem ev_byteAt (K : Cx) (s : BS) (i : Nat) (hs : s.length ≤ 2000000) : runFun K f68 [.d false (.str s), .d false (.int .i64 i)] [] = some (.d false (.int .u8 (bAt (s.drop i)).toNat), [], []) := by
  by_cases h : i < s.length
  · have hd : s.drop i = s[i] :: s.drop (i + 1) := List.drop_eq_getElem_cons h
    have hn : nth s (i : Int) = s[i] := by simp [nth, h]
    rw [hd]
    simp only [bAt]
    simp (disch := first | decide | omega | (simp only [LN]; omega) | (simp only [LN]; done) | fail) only [SV, SW, f68, Nat.reduceAdd, Nat.reduceBEq, hn, oneOr]
  · have hd : s.drop i = [] := by rw [List.drop_eq_nil_iff]; omega
    have hz : ((0 : UInt8).toNat : Int) = 0 := rfl
    rw [hd]
    simp only [bAt, hz]
    simp (disch := first | decide | omega | (simp only [LN]; omega) | (simp only [LN]; done) | fail) only [SV, SW, f68, Nat.reduceAdd, Nat.reduceBEq, oneOr]

theorem ev_hex (K : Cx) (h68 : K68 K) (h85 : K85 K) (s : BS) (i : Nat) (hs : s.length ≤ 2000000) : runFun K f69 [.d false (.str s), .d false (.int .i64 i)] [] = some (.d false (.int .i64 (hexL (s.drop i))), [], []) := by
  have h1 := h68 s i hs
  have h2 := h85 (bAt (s.drop i))
  simp (disch := first | decide | omega | (simp only [LN]; omega) | (simp only [LN]; done) | fail) only [SV, SW, f69, Nat.reduceAdd, Nat.reduceBEq, viewD, h1, h2, oneOr, hexL]

theorem triml_loop (K : Cx) (c : UInt8) : ∀ s : BS, s.length ≤ 2000000 →
    lp K 0 [0, 1] f61_L0 ⟨[(0, .d false (.str s)), (1, .d false (.int .u8 c.toNat))], [], 0, []⟩ = some (.exit 0, ⟨[(0, .d false (.str (trL c s)))], [], 0, []⟩) := by
  intro s
  induction s with
  | nil =>
    intro _
    rw [lp_un f61_L0.eq_1]
    simp (disch := first | decide | omega | (simp only [LN]; omega) | (simp only [LN]; done) | fail) only [SV, SW, Int.natCast_zero, Nat.reduceBEq, trL, List.dropWhile_nil]
  | cons x r ih =>
    intro hs
    simp only [List.length_cons] at hs
    have ih := ih (by omega)
    have hn : nth (x :: r) 0 = x := rfl
    have hc := cut_sl [] (x :: r) 1 (by simp)
    rw [Int.natCast_one, List.drop_one, List.tail_cons] at hc
    rw [lp_un f61_L0.eq_1]
    by_cases g : x = c
    · subst g
      have e : trL x (x :: r) = trL x r := by simp [trL]
      rw [e]
      have h0 : (0 : Int) < ((r.length + 1 : Nat) : Int) := by omega
      simp (disch := first | decide | omega | (simp only [LN]; omega) | (simp only [LN]; done) | fail) only [SV, SW, h0, hn, Nat.reduceBEq, hc]
      exact ih
    · have e : trL c (x :: r) = x :: r := by simp [trL, g]
      rw [e]
      have h0 : (0 : Int) < ((r.length + 1 : Nat) : Int) := by omega
      have g' : ¬ ((x.toNat : Int) = (c.toNat : Int)) := by rw [u8eq]; exact g
      simp (disch := first | decide | omega | (simp only [LN]; omega) | (simp only [LN]; done) | fail) only [SV, SW, h0, hn, Nat.reduceBEq]
end Go.Vm
end

section
namespace Go.Vm

theorem trimr_loop (K : Cx) (c : UInt8) : ∀ (n : Nat) (s : BS), s.length = n → n ≤ 2000000 →
    lp K 0 [0, 1] f62_L0 ⟨[(0, .d false (.str s)), (1, .d false (.int .u8 c.toNat))], [], 0, []⟩ = some (.exit 0, ⟨[(0, .d false (.str (trR c s)))], [], 0, []⟩) := by
  intro n
  induction n with
  | zero =>
    intro s hs _
    have : s = [] := List.length_eq_zero_iff.1 hs
    subst this
    rw [lp_un f62_L0.eq_1]
    simp (disch := first | decide | omega | (simp only [LN]; omega) | (simp only [LN]; done) | fail) only [SV, SW, Int.natCast_zero, Int.reduceSub, Int.reduceNeg, Nat.reduceBEq, trR, List.reverse_nil, List.dropWhile_nil]
  | succ n ih =>
    intro s hs hl
    have hne : s ≠ [] := by intro h; subst h; simp at hs
    obtain ⟨t, x, rfl⟩ : ∃ t x, s = t ++ [x] := ⟨s.dropLast, s.getLast hne, (List.dropLast_concat_getLast hne).symm⟩
    have ht : t.length = n := by simpa using hs
    subst ht
    have ih := ih t rfl (by omega)
    have hn : nth (t ++ [x]) (t.length : Int) = x := by simp [nth]
    have hc := cut_sh [] (t ++ [x]) (.tup []) (.tup []) t.length (by simp)
    have et : (t ++ [x]).take t.length = t := by simp
    rw [et] at hc
    have ha : (((t.length + 1 : Nat) : Int) - 1) = (t.length : Int) := by omega
    have h0 : (0 : Int) < ((t.length + 1 : Nat) : Int) := by omega
    rw [lp_un f62_L0.eq_1]
    by_cases g : x = c
    · subst g
      have e : trR x (t ++ [x]) = trR x t := by simp [trR]
      rw [e]
      clear hne
      simp (disch := first | decide | omega | (simp only [LN]; omega) | (simp only [LN]; done) | fail) only [SV, SW, h0, ha, hn, Nat.reduceBEq, hc]
      exact ih
    · have e : trR c (t ++ [x]) = t ++ [x] := by simp [trR, g]
      rw [e]
      have g' : ¬ ((x.toNat : Int) = (c.toNat : Int)) := by rw [u8eq]; exact g
      clear hne
      simp (disch := first | decide | omega | (simp only [LN]; omega) | (simp only [LN]; done) | fail) only [SV, SW, h0, ha, hn, Nat.reduceBEq]

theorem ev_trimLeft (K : Cx) (s : BS) (c : UInt8) (hs : s.length ≤ 2000000) : runFun K f61 [.d false (.str s), .d false (.int .u8 c.toNat)] [] = some (.d false (.str (trL c s)), [], []) := by
  have h := triml_loop K c s hs
  simp (disch := first | decide | omega | (simp only [LN]; omega) | (simp only [LN]; done) | fail) only [SV, SW, f61, Nat.reduceAdd, Nat.reduceBEq, h, oneOr]
theorem ev_trimRight (K : Cx) (s : BS) (c : UInt8) (hs : s.length ≤ 2000000) : runFun K f62 [.d false (.str s), .d false (.int .u8 c.toNat)] [] = some (.d false (.str (trR c s)), [], []) := by
  have h := trimr_loop K c s.length s rfl hs
  simp (disch := first | decide | omega | (simp only [LN]; omega) | (simp only [LN]; done) | fail) only [SV, SW, f62, Nat.reduceAdd, Nat.reduceBEq, h, oneOr]

theorem trR_len (c : UInt8) (s : BS) : (trR c s).length ≤ s.length := by
  unfold trR
  rw [List.length_reverse]
  exact Nat.le_trans (List.dropWhile_sublist _).length_le (by simp)

set_option maxRecDepth 20000 in
theorem ev_trim (K : Cx) (h61 : K61 K) (h62 : K62 K) (s : BS) (hne : s ≠ []) (hs : s.length ≤ 2000000) : runFun K f41 [.d false (.str s), .d false (.str [45])] [] = some (.d false (.str (trL 45 (trR 45 s))), [], []) := by
  have h1 := h62 s 45 hs
  have h2 := h61 (trR 45 s) 45 (Nat.le_trans (trR_len _ _) hs)
  have e45 : ((45 : UInt8).toNat : Int) = 45 := rfl
  have hn : nth ([45] : BS) 0 = 45 := rfl
  have e1 : (s = []) = False := eq_false hne
  have e2 : (([45] : BS) = []) = False := eq_false (by simp)
  rw [e45] at h1 h2
  clear hne
  simp (disch := first | decide | omega | (simp only [LN]; omega) | (simp only [LN]; done) | fail) only [SV, SW, f41, Nat.reduceAdd, Nat.reduceBEq, e1, e2, Int.natCast_one, hn, e45, viewD, h1, h2, oneOr]

theorem dropWhile_nil (p : UInt8 → Bool) : ∀ l : BS, l.dropWhile p = [] ↔ ∀ x ∈ l, p x = true
  | [] => by simp
  | a :: l => by
    by_cases g : p a = true
    · rw [List.dropWhile_cons_of_pos g, dropWhile_nil p l]; simp [g]
    · rw [List.dropWhile_cons_of_neg g]; simp [g]

theorem dsh_trim (s : BS) : (trL 45 (trR 45 s) = []) ↔ s.all (· == 45) = true := by
  unfold trL trR
  rw [dropWhile_nil]
  constructor
  · intro h
    rw [List.all_eq_true]
    have key : ∀ l : BS, (∀ x, x ∈ (l.dropWhile (· == 45)).reverse → (x == 45) = true) → ∀ x, x ∈ l → (x == 45) = true := by
      intro l
      induction l with
      | nil => intro _ x hx; cases hx
      | cons a l ih =>
        intro h x hx
        by_cases g : (a == 45) = true
        · rw [List.dropWhile_cons_of_pos (by exact g)] at h
          rcases List.mem_cons.1 hx with rfl | hx
          · exact g
          · exact ih h x hx
        · rw [List.dropWhile_cons_of_neg (by exact g)] at h
          exact h x (by rw [List.mem_reverse]; exact hx)
    intro x hx
    exact key s.reverse h x (by simpa using hx)
  · intro h x hx
    rw [List.all_eq_true] at h
    exact h x (by
      have := (List.dropWhile_sublist (p := (· == 45)) (l := s.reverse)).mem (List.mem_reverse.1 hx)
      simpa using this)

theorem ev_dashes (K : Cx) (h41 : K41 K) (s : BS) (hs : s.length ≤ 2000000) : runFun K f31 [.d false (.str s)] [] = some (.d false (.bool (dsh s)), [], []) := by
  unfold dsh
  by_cases g : 2 ≤ s.length
  · have hne : s ≠ [] := by intro h; subst h; simp at g
    have h := h41 s hne hs
    have e := dsh_trim s
    clear hne
    by_cases g2 : s.all (· == 45) = true
    · have e' : (trL 45 (trR 45 s) = []) = True := eq_true (e.2 g2)
      clear e
      simp (disch := first | decide | omega | (simp only [LN]; omega) | (simp only [LN]; done) | fail) only [SV, SW, f31, viewD, h, e', oneOr, g, g2]
    · have e' : (trL 45 (trR 45 s) = []) = False := eq_false (fun x => g2 (e.1 x))
      rw [Bool.not_eq_true] at g2
      clear e
      simp (disch := first | decide | omega | (simp only [LN]; omega) | (simp only [LN]; done) | fail) only [SV, SW, f31, viewD, h, e', oneOr, g, g2]
  · simp (disch := first | decide | omega | (simp only [LN]; omega) | (simp only [LN]; done) | fail) only [SV, SW, f31, viewD, oneOr, g]

def comOut (i : Nat) : Option Nat → Ex × S
  | some n => (.ret, ⟨[(4, .d false (.int .i64 ((i + n : Nat) : Int)))], [], 0, []⟩)
  | none => (.exit 0, ⟨[], [], 0, []⟩)
theorem comOut_map (i k : Nat) (o : Option Nat) : comOut i (o.map (· + k)) = comOut (i + k) o := by
  cases o with
  | none => rfl
  | some n => simp only [comOut, Option.map_some]; rw [show i + (n + k) = i + k + n from by omega]
theorem comOut_some (i n : Nat) : comOut i (some n) = (.ret, ⟨[(4, .d false (.int .i64 ((i + n : Nat) : Int)))], [], 0, []⟩) := rfl

theorem com_loop (K : Cx) (s : BS) (hs : s.length ≤ 2000000) : ∀ (k i : Nat) (d : Int), i + k = s.length → -2000000 ≤ d + (k : Int) ∧ d ≤ i ∧ -i ≤ d →
    lp K 0 [0, 1, 5] f29_L0 ⟨[(0, .d false (.str s)), (1, .d false (.int .i64 i)), (5, .d false (.int .i64 d))], [], 0, []⟩ = some (comOut i (comL d (s.drop i))) := by
  intro k
  induction k using Nat.strongRecOn with
  | ind k ih =>
    intro i d hi hd
    match k, hi, hd, ih with
    | 0, hi, hd, ih =>
      have e : s.drop i = [] := by rw [List.drop_eq_nil_iff]; omega
      rw [e]
      simp only [comL, comOut]
      rw [lp_un f29_L0.eq_1]
      simp (disch := first | decide | omega | (simp only [LN]; omega) | (simp only [LN]; done) | fail) only [SV, SW, Nat.reduceBEq]
    | 1, hi, hd, ih =>
      have hlt : i < s.length := by omega
      have e : s.drop i = [s[i]] := by rw [List.drop_eq_getElem_cons hlt, List.drop_eq_nil_iff.2 (by omega)]
      rw [e]
      simp only [comL, comOut]
      rw [lp_un f29_L0.eq_1]
      simp (disch := first | decide | omega | (simp only [LN]; omega) | (simp only [LN]; done) | fail) only [SV, SW, Nat.reduceBEq]
    | k + 2, hi, hd, ih =>
      have hlt : i < s.length := by omega
      have hlt2 : i + 1 < s.length := by omega
      have e : s.drop i = s[i] :: s[i + 1] :: s.drop (i + 2) := by rw [List.drop_eq_getElem_cons hlt, List.drop_eq_getElem_cons hlt2]
      have e1 : s.drop (i + 1) = s[i + 1] :: s.drop (i + 2) := List.drop_eq_getElem_cons hlt2
      have hc := cut_slh [] s i (i + 2) (by omega) (by omega)
      have et : (s.drop i).take (i + 2 - i) = [s[i], s[i + 1]] := by
        rw [e, show i + 2 - i = 2 from by omega]; rfl
      rw [et] at hc
      have ih1 := ih (k + 1) (by omega) (i + 1) d (by omega) (by omega)
      have ih2 := ih k (by omega) (i + 2) (d + 1) (by omega) (by omega)
      have ih3 := ih k (by omega) (i + 2) (d - 1) (by omega) (by omega)
      rw [e1] at ih1
      rw [e]
      clear e e1 et ih
      generalize s[i] = x at hc ih1 ⊢
      generalize s[i + 1] = y at hc ih1 ⊢
      simp only [comL]
      rw [lp_un f29_L0.eq_1]
      have u1 : ([x, y] = ([123, 45] : BS)) = (x = 123 ∧ y = 45) := by simp
      have u2 : ([x, y] = ([45, 125] : BS)) = (x = 45 ∧ y = 125) := by simp
      by_cases g : x = 123 ∧ y = 45
      · rw [if_pos g, comOut_map]
        have e1 : ([x, y] = ([123, 45] : BS)) = True := by rw [u1]; exact eq_true g
        clear u1 u2 g
        simp (disch := first | decide | omega | (simp only [LN]; omega) | (simp only [LN]; done) | fail) only [SV, SW, Nat.reduceBEq, cast2, hc, e1]
        exact ih2
      · rw [if_neg g]
        have e1 : ([x, y] = ([123, 45] : BS)) = False := by rw [u1]; exact eq_false g
        by_cases g2 : x = 45 ∧ y = 125
        · rw [if_pos g2]
          have e2 : ([x, y] = ([45, 125] : BS)) = True := by rw [u2]; exact eq_true g2
          clear u1 u2 g g2
          by_cases g3 : d - 1 = 0
          · rw [if_pos g3, comOut_some]
            clear ih1 ih2 ih3
            simp (disch := first | decide | omega | (simp only [LN]; omega) | (simp only [LN]; done) | fail) only [SV, SW, Nat.reduceBEq, cast2, hc, e1, e2, g3]
          · rw [if_neg g3, comOut_map]
            clear ih1 ih2
            simp (disch := first | decide | omega | (simp only [LN]; omega) | (simp only [LN]; done) | fail) only [SV, SW, Nat.reduceBEq, cast2, hc, e1, e2]
            exact ih3
        · rw [if_neg g2, comOut_map]
          have e2 : ([x, y] = ([45, 125] : BS)) = False := by rw [u2]; exact eq_false g2
          clear u1 u2 g g2 ih2 ih3
          simp (disch := first | decide | omega | (simp only [LN]; omega) | (simp only [LN]; done) | fail) only [SV, SW, Nat.reduceBEq, cast1, cast2, hc, e1, e2]
          exact ih1

theorem ev_comment (K : Cx) (s : BS) (i : Nat) (hi : i ≤ s.length) (hs : s.length ≤ 2000000) : runFun K f29 [.d false (.str s), .d false (.int .i64 i)] [] = some (.d false (.int .i64 (match comL 0 (s.drop i) with | some n => ((i + n : Nat) : Int) | none => -1)), [], []) := by
  have h := com_loop K s hs (s.length - i) i 0 (by omega) (by omega)
  cases g : comL 0 (s.drop i) with
  | none =>
    rw [g] at h
    simp only [comOut] at h
    simp (disch := first | decide | omega | (simp only [LN]; omega) | (simp only [LN]; done) | fail) only [SV, SW, f29, Int.reduceNeg, Nat.reduceAdd, Nat.reduceBEq, h, oneOr]
  | some n =>
    rw [g] at h
    simp only [comOut] at h
    simp (disch := first | decide | omega | (simp only [LN]; omega) | (simp only [LN]; done) | fail) only [SV, SW, f29, Int.reduceNeg, Nat.reduceAdd, Nat.reduceBEq, h, oneOr]
end Go.Vm
end

section
namespace Go.Proofs
open Go.Shelf
def Tryz.lays170_ren : Go.Shelf.Ren := ⟨fun | 170 => 21 | n => n, fun | 70 => 55 | 3 => 3 | 0 => 0 | 72 => 58 | 37 => 56 | 5 => 5 | n => n, fun | n => n⟩
theorem Tryz.lays170 : Go.Proofs.Lays.n170 Tryz.prog Tryz.lays170_ren := {
  mixed := by kernel_rfl
  f170 := Tryz.func21.trans (congrArg some (by kernel_rfl))
  t0 := Tryz.underlying0
  a0 := Tryz.isAgg0
  z0 := Tryz.sizeOf0
  v0 := Tryz.zeroValue0
  t3 := Tryz.underlying3
  a3 := Tryz.isAgg3
  z3 := Tryz.sizeOf3
  v3 := Tryz.zeroValue3
  t37 := Tryz.underlying56
  a37 := Tryz.isAgg56
  z37 := Tryz.sizeOf56
  v37 := Tryz.zeroValue56
  t70 := Tryz.underlying55
  a70 := Tryz.isAgg55
  z70 := Tryz.sizeOf55
  v70 := Tryz.zeroValue55
  t72 := Tryz.underlying58
  a72 := Tryz.isAgg58
  z72 := Tryz.sizeOf58
  v72 := Tryz.zeroValue58 }
def Tryz.lays169_ren : Go.Shelf.Ren := ⟨fun | 169 => 24 | n => n, fun | 70 => 55 | 9 => 9 | 0 => 0 | 72 => 58 | 37 => 56 | 127 => 76 | 3 => 3 | 5 => 5 | n => n, fun | n => n⟩
theorem Tryz.lays169 : Go.Proofs.Lays.n169 Tryz.prog Tryz.lays169_ren := {
  mixed := by kernel_rfl
  f169 := Tryz.func24.trans (congrArg some (by kernel_rfl))
  t0 := Tryz.underlying0
  a0 := Tryz.isAgg0
  z0 := Tryz.sizeOf0
  v0 := Tryz.zeroValue0
  t3 := Tryz.underlying3
  a3 := Tryz.isAgg3
  z3 := Tryz.sizeOf3
  v3 := Tryz.zeroValue3
  t9 := Tryz.underlying9
  a9 := Tryz.isAgg9
  z9 := Tryz.sizeOf9
  v9 := Tryz.zeroValue9
  t37 := Tryz.underlying56
  a37 := Tryz.isAgg56
  z37 := Tryz.sizeOf56
  v37 := Tryz.zeroValue56
  t70 := Tryz.underlying55
  a70 := Tryz.isAgg55
  z70 := Tryz.sizeOf55
  v70 := Tryz.zeroValue55
  t72 := Tryz.underlying58
  a72 := Tryz.isAgg58
  z72 := Tryz.sizeOf58
  v72 := Tryz.zeroValue58
  t127 := Tryz.underlying76
  a127 := Tryz.isAgg76
  z127 := Tryz.sizeOf76
  v127 := Tryz.zeroValue76 }
theorem Tryz.Builder_Extra_169 : Builder.Extra Tryz.prog Tryz.lays169_ren := {
  sizeBuilder := by kernel_rfl
  liesBuilder := by kernel_rfl
  t5 := Tryz.underlying5
  a5 := Tryz.isAgg5
  z5 := Tryz.sizeOf5
  v5 := Tryz.zeroValue5
  infoByte := by kernel_rfl
  cellsByte := by kernel_rfl
  sizeByte := by kernel_rfl
  neB5 := by decide }
def Tryz.lays137_ren : Go.Shelf.Ren := ⟨fun | 137 => 84 | 217 => 92 | 266 => 100 | n => n, fun | 9 => 9 | 5 => 5 | 3 => 3 | n => n, fun | n => n⟩
theorem Tryz.lays137 : Go.Proofs.Lays.n137 Tryz.prog Tryz.lays137_ren := {
  mixed := by kernel_rfl
  f137 := Tryz.func84.trans (congrArg some (by kernel_rfl))
  f217 := Tryz.func92.trans (congrArg some (by kernel_rfl))
  f266 := Tryz.func100.trans (congrArg some (by kernel_rfl))
  t3 := Tryz.underlying3
  a3 := Tryz.isAgg3
  z3 := Tryz.sizeOf3
  v3 := Tryz.zeroValue3
  t5 := Tryz.underlying5
  a5 := Tryz.isAgg5
  z5 := Tryz.sizeOf5
  v5 := Tryz.zeroValue5
  t9 := Tryz.underlying9
  a9 := Tryz.isAgg9
  z9 := Tryz.sizeOf9
  v9 := Tryz.zeroValue9 }
open Go.RowKit in
theorem Tryz.strings_IndexByte (s : ByteArray) (c : Int) (w : World) :
    Calls Tryz.prog 84 #[.string s, .int .u8 c] w fun e w' => e = .returned (.int .i64 (Lib.indexByte s.data.toList c.toNat.toUInt8)) ∧ w' = w := Any.strings_IndexByte Tryz.lays137 s c w
def Tryz.laysM171_ren : Go.Shelf.Ren := ⟨fun | 171 => 49 | 243 => 77 | 246 => 88 | 283 => 93 | 284 => 94 | 285 => 95 | 286 => 96 | 129 => 102 | 317 => 101 | 318 => 103 | 319 => 104 | 320 => 105 | 337 => 106 | 338 => 107 | n => n, fun | 3 => 3 | 9 => 9 | 2 => 2 | 4 => 4 | 171 => 123 | 0 => 0 | 53 => 124 | 37 => 56 | 5 => 5 | 173 => 127 | 212 => 138 | 51 => 139 | 20 => 20 | 213 => 140 | 46 => 130 | 232 => 144 | 233 => 145 | n => n, fun | 17 => 4 | 18 => 6 | 19 => 7 | n => n⟩
theorem Tryz.laysM171 : Go.Proofs.LaysM.n171 Tryz.prog Tryz.laysM171_ren := {
  mixed := by kernel_rfl
  f129 := Tryz.func102.trans (congrArg some (by kernel_rfl))
  f171 := Tryz.func49.trans (congrArg some (by kernel_rfl))
  f243 := Tryz.func77.trans (congrArg some (by kernel_rfl))
  f246 := Tryz.func88.trans (congrArg some (by kernel_rfl))
  f283 := Tryz.func93.trans (congrArg some (by kernel_rfl))
  f284 := Tryz.func94.trans (congrArg some (by kernel_rfl))
  f285 := Tryz.func95.trans (congrArg some (by kernel_rfl))
  f286 := Tryz.func96.trans (congrArg some (by kernel_rfl))
  f317 := Tryz.func101.trans (congrArg some (by kernel_rfl))
  f318 := Tryz.func103.trans (congrArg some (by kernel_rfl))
  f319 := Tryz.func104.trans (congrArg some (by kernel_rfl))
  f320 := Tryz.func105.trans (congrArg some (by kernel_rfl))
  f337 := Tryz.func106.trans (congrArg some (by kernel_rfl))
  f338 := Tryz.func107.trans (congrArg some (by kernel_rfl))
  t0 := Tryz.underlying0
  a0 := Tryz.isAgg0
  z0 := Tryz.sizeOf0
  v0 := Tryz.zeroValue0
  t2 := Tryz.underlying2
  a2 := Tryz.isAgg2
  z2 := Tryz.sizeOf2
  v2 := Tryz.zeroValue2
  t3 := Tryz.underlying3
  a3 := Tryz.isAgg3
  z3 := Tryz.sizeOf3
  v3 := Tryz.zeroValue3
  t4 := Tryz.underlying4
  a4 := Tryz.isAgg4
  z4 := Tryz.sizeOf4
  v4 := Tryz.zeroValue4
  t5 := Tryz.underlying5
  a5 := Tryz.isAgg5
  z5 := Tryz.sizeOf5
  v5 := Tryz.zeroValue5
  t9 := Tryz.underlying9
  a9 := Tryz.isAgg9
  z9 := Tryz.sizeOf9
  v9 := Tryz.zeroValue9
  t20 := Tryz.underlying20
  a20 := Tryz.isAgg20
  z20 := Tryz.sizeOf20
  v20 := Tryz.zeroValue20
  t37 := Tryz.underlying56
  a37 := Tryz.isAgg56
  z37 := Tryz.sizeOf56
  v37 := Tryz.zeroValue56
  t46 := Tryz.underlying130
  a46 := Tryz.isAgg130
  z46 := Tryz.sizeOf130
  v46 := Tryz.zeroValue130
  t51 := Tryz.underlying139
  a51 := Tryz.isAgg139
  z51 := Tryz.sizeOf139
  v51 := Tryz.zeroValue139
  t53 := Tryz.underlying124
  a53 := Tryz.isAgg124
  z53 := Tryz.sizeOf124
  v53 := Tryz.zeroValue124
  t171 := Tryz.underlying123
  a171 := Tryz.isAgg123
  z171 := Tryz.sizeOf123
  v171 := Tryz.zeroValue123
  t173 := Tryz.underlying127
  a173 := Tryz.isAgg127
  z173 := Tryz.sizeOf127
  v173 := Tryz.zeroValue127
  t212 := Tryz.underlying138
  a212 := Tryz.isAgg138
  z212 := Tryz.sizeOf138
  v212 := Tryz.zeroValue138
  t213 := Tryz.underlying140
  a213 := Tryz.isAgg140
  z213 := Tryz.sizeOf140
  t232 := Tryz.underlying144
  a232 := Tryz.isAgg144
  z232 := Tryz.sizeOf144
  v232 := Tryz.zeroValue144
  t233 := Tryz.underlying145
  a233 := Tryz.isAgg145
  z233 := Tryz.sizeOf145
  v233 := Tryz.zeroValue145
  g17 := by kernel_rfl
  g18 := by kernel_rfl
  g19 := by kernel_rfl
  i0 := by kernel_rfl
  i2 := by kernel_rfl
  i3 := by kernel_rfl
  i4 := by kernel_rfl
  i5 := by kernel_rfl
  i9 := by kernel_rfl
  i20 := by kernel_rfl
  i37 := by kernel_rfl
  i46 := by kernel_rfl
  i51 := by kernel_rfl
  i53 := by kernel_rfl
  i171 := by kernel_rfl
  i173 := by kernel_rfl
  i212 := by kernel_rfl
  i232 := by kernel_rfl
  i233 := by kernel_rfl
  m17 := by kernel_rfl
  m18 := by kernel_rfl
  m19 := by kernel_rfl }
open Go.RowKit Go.Sort Go.Lib in
theorem Tryz.strconv_Itoa (n : Int) (h0 : -9223372036854775808 ≤ n) (h1 : n ≤ 9223372036854775807) (w : World) (htab : Lib.TabIs Tryz.prog w "internal/strconv.uint64pow10" .u64 Lib.pow10Tab) :
    Calls Tryz.prog 49 #[.int .i64 n] w fun e w' => e = .returned (.string ⟨(Lib.itoa n).toArray⟩) ∧ ∃ k os, w' = grow (w.drewN k) os := Any.strconv_Itoa Tryz.laysM171 n h0 h1 w htab
end Go.Proofs
end

section
set_option linter.unusedVariables false
namespace Go.Vm
open Go.RowKit Go.Shelf Go.Proofs

set_option maxHeartbeats 2000000 in
set_option maxRecDepth 100000 in
theorem tB_used (b : Nat) (w : World) (h0 : w.cell? ⟨b, 0, none⟩ = some (.pointer (some ⟨b, 0, none⟩))) :
    Calls Tryz.prog 48 #[.pointer (some ⟨b, 0, none⟩)] w fun e w' => e = .returned (.tuple #[]) ∧ w' = w := by
  obtain ⟨j, hj, _⟩ := Option.map_eq_some_iff.1 Tryz.Builder_Extra_169.sizeBuilder
  have mixed : Tryz.prog.follows .mixedOrders = true := by kernel_rfl
  have t72 := Tryz.underlying58; have a72 := Tryz.isAgg58; have z72 := Tryz.sizeOf58; have v72 := Tryz.zeroValue58; have u72 := Tryz.runUnderlying58
  have t70 := Tryz.underlying55; have a70 := Tryz.isAgg55; have z70 := Tryz.sizeOf55; have v70 := Tryz.zeroValue55; have u70 := Tryz.runUnderlying55
  have t9 := Tryz.underlying9; have a9 := Tryz.isAgg9; have z9 := Tryz.sizeOf9; have v9 := Tryz.zeroValue9; have u9 := Tryz.runUnderlying9
  have t4 := Tryz.underlying4; have a4 := Tryz.isAgg4; have z4 := Tryz.sizeOf4; have v4 := Tryz.zeroValue4; have u4 := Tryz.runUnderlying4
  have t164 := Tryz.underlying89; have a164 := Tryz.isAgg89; have z164 := Tryz.sizeOf89; have v164 := Tryz.zeroValue89; have u164 := Tryz.runUnderlying89
  go_enter Tryz.func48, Tryz.ntmps48
  go_wp2
  rw [Lib.run_neq_ptr_same w _ Tryz.underlying55 hj]
  go_wp2
  go_end0
  exact ⟨rfl, rfl⟩

set_option maxHeartbeats 2000000 in
set_option maxRecDepth 100000 in
theorem tB_fresh (b : Nat) (w : World) (h0 : w.cell? ⟨b, 0, none⟩ = some (.pointer none)) (hsh : w.shape? b = some (58, 2)) (hfz : w.frozen? ⟨b, 0, none⟩ = false) :
    Calls Tryz.prog 48 #[.pointer (some ⟨b, 0, none⟩)] w fun e w' => e = .returned (.tuple #[]) ∧ w' = w.setCell ⟨b, 0, none⟩ (.pointer (some ⟨b, 0, none⟩)) := by
  obtain ⟨j, hj, hjs⟩ := Option.map_eq_some_iff.1 Tryz.Builder_Extra_169.sizeBuilder
  have mixed : Tryz.prog.follows .mixedOrders = true := by kernel_rfl
  have t72 := Tryz.underlying58; have a72 := Tryz.isAgg58; have z72 := Tryz.sizeOf58; have v72 := Tryz.zeroValue58; have u72 := Tryz.runUnderlying58
  have t70 := Tryz.underlying55; have a70 := Tryz.isAgg55; have z70 := Tryz.sizeOf55; have v70 := Tryz.zeroValue55; have u70 := Tryz.runUnderlying55
  have t9 := Tryz.underlying9; have a9 := Tryz.isAgg9; have z9 := Tryz.sizeOf9; have v9 := Tryz.zeroValue9; have u9 := Tryz.runUnderlying9
  have t4 := Tryz.underlying4; have a4 := Tryz.isAgg4; have z4 := Tryz.sizeOf4; have v4 := Tryz.zeroValue4; have u4 := Tryz.runUnderlying4
  have t164 := Tryz.underlying89; have a164 := Tryz.isAgg89; have z164 := Tryz.sizeOf89; have v164 := Tryz.zeroValue89; have u164 := Tryz.runUnderlying89
  go_enter Tryz.func48, Tryz.ntmps48
  go_wp2
  rw [Lib.run_to_unsafe w ⟨b, 0, none⟩ Tryz.underlying55 Tryz.underlying89 hj (by rw [hjs]; decide) hsh (Nat.zero_lt_succ 1)]
  simp only [Result.andThen]
  rw [Oper.upon_value]
  go_wp2
  rw [run_callFunc_extern Tryz.func76 (by kernel_rfl) (by kernel_rfl) (by kernel_rfl) (e := Extern.AbiNoEscape.same) (by kernel_rfl)]
  rw [Lib.run_noEscape]
  simp only [Result.andThen]
  rw [Oper.upon_value]
  go_wp2
  rw [Lib.run_from_unsafe w ⟨b, 0, none⟩ Tryz.underlying89 Tryz.underlying55 hj hsh Tryz.Builder_Extra_169.liesBuilder]
  simp only [Result.andThen]
  rw [Oper.upon_value]
  go_wp2
  go_end0
  exact ⟨rfl, rfl⟩

theorem tB_copyCheck {w : World} {b : Nat} {p v : Value} {bs : List Value} (h : BAt 58 5 w b p v bs) :
    Calls Tryz.prog 48 #[.pointer (some ⟨b, 0, none⟩)] w fun e w' => e = .returned (.tuple #[]) ∧ BAt 58 5 w' b (.pointer (some ⟨b, 0, none⟩)) v bs ∧ w'.os = w.os ∧ w'.tape = w.tape ∧ w'.output = w.output ∧ SizeEq w' w ∧ ∀ k, k ≠ b → w'.heap[k]? = w.heap[k]? := by
  rcases h.hp with rfl | rfl
  · have hA : Lib.BuilderAtF 58 5 0 b (.pointer none) bs w := ⟨Nat.zero_le _, v, h.hb, h.own, h.ne⟩
    refine (tB_fresh b w hA.cell0 hA.shape hA.frozen0).mono ?_
    rintro e w' ⟨rfl, rfl⟩
    refine ⟨rfl, ⟨.inr rfl, ?_, ?_, h.ne⟩, rfl, rfl, rfl, by simp [SizeEq], fun k hk => Below.heap_setCell _ _ _ _ hk⟩
    · have := h.hb
      simp [World.setCell, Array.getElem?_modify, this]
    · exact h.own.kept (row := some b) ⟨rfl, rfl, rfl, by simp [World.setCell], fun k _ hk => Below.heap_setCell _ _ _ _ (fun e => hk (by simp [e]))⟩ (Or.inr h.ne)
  · have hA : Lib.BuilderAtF 58 5 0 b (.pointer (some ⟨b, 0, none⟩)) bs w := ⟨Nat.zero_le _, v, h.hb, h.own, h.ne⟩
    refine (tB_used b w hA.cell0).mono ?_
    rintro e w' ⟨rfl, rfl⟩
    exact ⟨rfl, h, rfl, rfl, rfl, rfl, fun _ _ => rfl⟩

set_option maxHeartbeats 2000000 in
set_option maxRecDepth 100000 in
theorem tB_WriteByte {w : World} {b : Nat} {p v : Value} {bs : List Value} (h : BAt 58 5 w b p v bs) (c : Int) (hlen : bs.length + 1 ≤ 140737488355328) :
    Calls Tryz.prog 20 #[.pointer (some ⟨b, 0, none⟩), .int .u8 c] w fun e w' => e = .returned .nilIface ∧ ∃ v', BAt 58 5 w' b (.pointer (some ⟨b, 0, none⟩)) v' (bs ++ [.int .u8 c]) ∧ Kept w w' b v v' := by
  obtain ⟨i0, hi, hz0, hz1, hz2⟩ := info_parts (show (Tryz.prog.info? 5).map (fun i => (i.zero, i.size, i.bytes)) = some (some (.int .u8 0), 1, 1) from Tryz.Builder_Extra_169.infoByte)
  have mixed : Tryz.prog.follows .mixedOrders = true := by kernel_rfl
  have t72 := Tryz.underlying58; have a72 := Tryz.isAgg58; have z72 := Tryz.sizeOf58; have v72 := Tryz.zeroValue58; have u72 := Tryz.runUnderlying58
  have t70 := Tryz.underlying55; have a70 := Tryz.isAgg55; have z70 := Tryz.sizeOf55; have v70 := Tryz.zeroValue55; have u70 := Tryz.runUnderlying55
  have t5 := Tryz.underlying5; have a5 := Tryz.isAgg5; have z5 := Tryz.sizeOf5; have v5 := Tryz.zeroValue5; have u5 := Tryz.runUnderlying5
  have t37 := Tryz.underlying56; have a37 := Tryz.isAgg56; have z37 := Tryz.sizeOf56; have v37 := Tryz.zeroValue56; have u37 := Tryz.runUnderlying56
  have t9 := Tryz.underlying9; have a9 := Tryz.isAgg9; have z9 := Tryz.sizeOf9; have v9 := Tryz.zeroValue9; have u9 := Tryz.runUnderlying9
  have t4 := Tryz.underlying4; have a4 := Tryz.isAgg4; have z4 := Tryz.sizeOf4; have v4 := Tryz.zeroValue4; have u4 := Tryz.runUnderlying4
  have t164 := Tryz.underlying89; have a164 := Tryz.isAgg89; have z164 := Tryz.sizeOf89; have v164 := Tryz.zeroValue89; have u164 := Tryz.runUnderlying89
  have e240 : ∀ args w, (callFunc 48 args).run Tryz.prog w = .ok (.enter 48 args) w := enters_of Tryz.func48 (by kernel_rfl) rfl
  go_enter Tryz.func20, Tryz.ntmps20
  go_wp2_with (go_at_fn 48; refine (tB_copyCheck h).mono ?_)
  rintro e w1 ⟨rfl, h1, o1, o2, o3, hsz1, hold1⟩
  obtain ⟨_, hbk, hown, hne⟩ := h1
  have c0 : w1.cell? ⟨b, 0, none⟩ = some (.pointer (some ⟨b, 0, none⟩)) := by rw [Lib.cell_of_heap hbk]; rfl
  have c1 : w1.cell? ⟨b, 1, none⟩ = some v := by rw [Lib.cell_of_heap hbk]; rfl
  go_wp2_with (at_builtin; refine wp_append_ownX rfl _ _ 56 rfl 5 i0 Tryz.underlying56 hi hz0 hz1 hz2 _ _ _ rfl (hown.alloc _) ⟨w1.heap.size, 0, none⟩ 1 1 [.int .u8 c] rfl rfl ?c1 ?c2 ?c3 ?c4 ?_)
  case c1 =>
    intro j u hj
    match j, hj with
    | 0, hj => simp at hj; subst hj; simp [Addr.add]
  case c2 => intro u hu; simp at hu; subst hu; rfl
  case c3 => unfold maxLen; omega
  case c4 => omega
  intro v' w2 hown' hgrow _ hsame
  have hlt : b < w1.heap.size := by
    rcases Nat.lt_or_ge b w1.heap.size with h' | h'
    · exact h'
    · simp [Array.getElem?_eq_none h'] at hbk
  have hb2 : w2.heap[b]? = some (.cells #[.pointer (some ⟨b, 0, none⟩), v] 58 (0, 0)) := by
    rw [hgrow.block b (by simp; omega) (fun e => hne e.symm), Lib.alloc_old w1 _ b hlt]
    exact hbk
  have d0 : w2.cell? ⟨b, 0, none⟩ = some (.pointer (some ⟨b, 0, none⟩)) := by rw [Lib.cell_of_heap hb2]; rfl
  have d1 : w2.cell? ⟨b, 1, none⟩ = some v := by rw [Lib.cell_of_heap hb2]; rfl
  have f1 : w2.frozen? ⟨b, 1, none⟩ = false := Lib.frozen_of_heap hb2 1
  obtain ⟨g, cap, rfl⟩ : ∃ g cap, v' = .slice (some ⟨g, 0, none⟩) (bs.length + 1) cap := by
    rcases hown'.2 with ⟨_, h0⟩ | ⟨g, cap, cur, fz, hv, _⟩
    · omega
    · exact ⟨g, cap, hv⟩
  go_wp2
  go_ret
  refine ⟨rfl, _, bld_put (by decide : (58 : TypeId) ≠ 5) (w := w) (w1 := w1.alloc (.cells #[.int .u8 c] 5)) (.inr (by simp [hsz1.eq])) ⟨o1, o2, o3⟩ (fun k hk hkb => by rw [Lib.alloc_old w1 _ k (by rw [hsz1.eq]; exact hk)]; exact hold1 k hkb) hb2 hgrow (by simpa using hown') hsame (fun g hg => (h.own.lt g hg).2)⟩

set_option maxHeartbeats 2000000 in
set_option maxRecDepth 100000 in
theorem tB_WriteString {w : World} {b : Nat} {p v : Value} {bs : List Value} (h : BAt 58 5 w b p v bs) (s : ByteArray) (hlen : bs.length + s.size ≤ 140737488355328) :
    Calls Tryz.prog 22 #[.pointer (some ⟨b, 0, none⟩), .string s] w fun e w' => e = .returned (.tuple #[.int .i64 s.size, .nilIface]) ∧ ∃ v', BAt 58 5 w' b (.pointer (some ⟨b, 0, none⟩)) v' (bs ++ Lib.strCells s) ∧ Kept w w' b v v' ∧ (v = .slice none 0 0 → s.size = 0 → v' = .slice none 0 0) := by
  obtain ⟨i0, hi, hz0, hz1, hz2⟩ := info_parts (show (Tryz.prog.info? 5).map (fun i => (i.zero, i.size, i.bytes)) = some (some (.int .u8 0), 1, 1) from Tryz.Builder_Extra_169.infoByte)
  have mixed : Tryz.prog.follows .mixedOrders = true := by kernel_rfl
  have t72 := Tryz.underlying58; have a72 := Tryz.isAgg58; have z72 := Tryz.sizeOf58; have v72 := Tryz.zeroValue58; have u72 := Tryz.runUnderlying58
  have t70 := Tryz.underlying55; have a70 := Tryz.isAgg55; have z70 := Tryz.sizeOf55; have v70 := Tryz.zeroValue55; have u70 := Tryz.runUnderlying55
  have t37 := Tryz.underlying56; have a37 := Tryz.isAgg56; have z37 := Tryz.sizeOf56; have v37 := Tryz.zeroValue56; have u37 := Tryz.runUnderlying56
  have t3 := Tryz.underlying3; have a3 := Tryz.isAgg3; have z3 := Tryz.sizeOf3; have v3 := Tryz.zeroValue3; have u3 := Tryz.runUnderlying3
  have t9 := Tryz.underlying9; have a9 := Tryz.isAgg9; have z9 := Tryz.sizeOf9; have v9 := Tryz.zeroValue9; have u9 := Tryz.runUnderlying9
  have t4 := Tryz.underlying4; have a4 := Tryz.isAgg4; have z4 := Tryz.sizeOf4; have v4 := Tryz.zeroValue4; have u4 := Tryz.runUnderlying4
  have t164 := Tryz.underlying89; have a164 := Tryz.isAgg89; have z164 := Tryz.sizeOf89; have v164 := Tryz.zeroValue89; have u164 := Tryz.runUnderlying89
  have t5 := Tryz.underlying5; have a5 := Tryz.isAgg5; have z5 := Tryz.sizeOf5; have v5 := Tryz.zeroValue5; have u5 := Tryz.runUnderlying5
  have e240 : ∀ args w, (callFunc 48 args).run Tryz.prog w = .ok (.enter 48 args) w := enters_of Tryz.func48 (by kernel_rfl) rfl
  go_enter Tryz.func22, Tryz.ntmps22
  go_wp2_with (go_at_fn 48; refine (tB_copyCheck h).mono ?_)
  rintro e w1 ⟨rfl, h1, o1, o2, o3, hsz1, hold1⟩
  obtain ⟨_, hbk, hown, hne⟩ := h1
  have c0 : w1.cell? ⟨b, 0, none⟩ = some (.pointer (some ⟨b, 0, none⟩)) := by rw [Lib.cell_of_heap hbk]; rfl
  have c1 : w1.cell? ⟨b, 1, none⟩ = some v := by rw [Lib.cell_of_heap hbk]; rfl
  go_wp2_with (at_builtin; refine wp_append_own_strX rfl _ _ 56 9 rfl 5 i0 Tryz.underlying56 Tryz.underlying9 hi hz0 hz1 hz2 _ _ _ rfl hown s rfl ?c3 ?c4 ?_)
  case c3 => unfold maxLen; omega
  case c4 => omega
  intro v' w2 hown' hgrow hnil hsame
  have hlt : b < w1.heap.size := by
    rcases Nat.lt_or_ge b w1.heap.size with h' | h'
    · exact h'
    · simp [Array.getElem?_eq_none h'] at hbk
  have hb2 : w2.heap[b]? = some (.cells #[.pointer (some ⟨b, 0, none⟩), v] 58 (0, 0)) := by
    rw [hgrow.block b hlt (fun e => hne e.symm)]
    exact hbk
  have d0 : w2.cell? ⟨b, 0, none⟩ = some (.pointer (some ⟨b, 0, none⟩)) := by rw [Lib.cell_of_heap hb2]; rfl
  have d1 : w2.cell? ⟨b, 1, none⟩ = some v := by rw [Lib.cell_of_heap hb2]; rfl
  have f1 : w2.frozen? ⟨b, 1, none⟩ = false := Lib.frozen_of_heap hb2 1
  obtain ⟨ao, n', cap, rfl⟩ : ∃ ao n' cap, v' = .slice ao n' cap := by
    rcases hown'.2 with ⟨hv, _⟩ | ⟨g, cap, cur, fz, hv, _⟩
    · exact ⟨_, _, _, hv⟩
    · exact ⟨_, _, _, hv⟩
  go_wp2
  go_ret2
  have hp := bld_put (bs' := bs ++ Lib.strCells s) (by decide : (58 : TypeId) ≠ 5) (w := w) (.inl hsz1.eq) ⟨o1, o2, o3⟩ (fun k hk hkb => hold1 k hkb) hb2 hgrow (by simpa [Lib.strCells_length] using hown') hsame (fun g hg => (h.own.lt g hg).2)
  exact ⟨rfl, _, hp.1, hp.2, fun h1 h2 => hnil.2 ⟨h1, by
    obtain ⟨⟨l⟩⟩ := s
    cases l with
    | nil => rfl
    | cons a r => simp [ByteArray.size] at h2⟩⟩

theorem tB_wb : WbOk Tryz.prog 20 58 5 := fun h c hl => tB_WriteByte h c hl
theorem tB_ws : WsOk Tryz.prog 22 58 5 := fun h s hl => tB_WriteString h s hl
end Go.Vm
end

section
namespace Go.Vm

inductive St where
  | bad (e : Nat)
  | skip (k : Nat)
  | tok (kind : Nat) (text : BS) (num : Int) (len : Nat)
  deriving DecidableEq

structure Tok where
  kind : Int
  text : BS
  num : Int
  at_ : Int
  deriving DecidableEq

def numL (b : Int) : BS → Bool → Int → Bool × Int × Nat
  | [], g, n => (g, n, 0)
  | c :: r, g, n =>
    if 0 ≤ hexB c ∧ hexB c < b then
      (fun x : Bool × Int × Nat => (x.1, x.2.1, x.2.2 + 1)) (if (4611686018427387903 - hexB c) / b < n then numL b r true (hexB c) else numL b r g (n * b + hexB c))
    else (g, n, 0)
def hexP (r : BS) : Bool := decide (bAt r = 48) && decide (bAt (r.drop 1) = 120) && decide (0 ≤ hexL (r.drop 2))
def numS (r : BS) : St :=
  let o : Nat := if hexP r then 2 else 0
  let x := numL (if hexP r then 16 else 10) (r.drop o) false 0
  if x.1 = true ∨ (hexP r = false ∧ bAt (r.drop o) = 48 ∧ 1 < x.2.2) ∨ inNm (r.drop (o + x.2.2)) = true then .bad 11
  else .tok 6 [] x.2.1 (o + x.2.2)

def upS (r : BS) : Nat × Nat :=
  let e := nameL r
  if r.length ≤ e + 1 ∨ bAt (r.drop e) ≠ 46 then (2, e)
  else
    let r2 := r.drop (e + 1)
    if cls r2 = 1 then (if resv (r2.take (nameL r2)) then (2, e) else (3, e + 1 + nameL r2))
    else if cls r2 = 2 then (4, e + 1 + nameL r2)
    else (2, e)

def escD (r : BS) : Option (UInt8 × Nat) :=
  if cls (r.drop 1) = 3 ∧ cls (r.drop 2) = 3 ∧ cls (r.drop 3) = 3 then
    (if 255 < 100 * ((bAt (r.drop 1)).toNat - 48) + 10 * ((bAt (r.drop 2)).toNat - 48) + ((bAt (r.drop 3)).toNat - 48) then none
     else some (UInt8.ofNat (100 * ((bAt (r.drop 1)).toNat - 48) + 10 * ((bAt (r.drop 2)).toNat - 48) + ((bAt (r.drop 3)).toNat - 48)), 4))
  else none
def soundS (r : BS) (q : UInt8) : Option (UInt8 × Nat) :=
  if bAt r ≠ 92 then (if (bAt r).toNat < 32 ∨ 126 < (bAt r).toNat ∨ bAt r = q then none else some (bAt r, 1))
  else if bAt (r.drop 1) = 110 then some (10, 2)
  else if bAt (r.drop 1) = 116 then some (9, 2)
  else if bAt (r.drop 1) = 92 ∨ bAt (r.drop 1) = 39 ∨ bAt (r.drop 1) = 34 then some (bAt (r.drop 1), 2)
  else escD r

def quotL (q : UInt8) (r : BS) : Option (BS × Nat) :=
  match r with
  | [] => none
  | c :: r' =>
    if c = q then some ([], 0) else
      match soundS (c :: r') q with
      | none => none
      | some (x, k) => (quotL q (r'.drop (k - 1))).map fun y => (x :: y.1, k + y.2)
  termination_by r.length
  decreasing_by simp only [List.length_drop, List.length_cons]; omega

def quotS (r : BS) : St :=
  match quotL (bAt r) (r.drop 1) with
  | none => .bad 12
  | some (bs, k) => if bAt r = 34 then .tok 8 bs 0 (k + 2) else if bs.length = 1 then .tok 7 [] (bAt bs).toNat (k + 2) else .bad 12

def opS (r : BS) : St :=
  let x := r.take (runL 5 r)
  if isSg x then .tok 11 x 0 (runL 5 r)
  else if bAt x = 58 ∧ x ≠ [58] then .bad 14
  else .tok 5 x 0 (runL 5 r)

def tokS (r : BS) : St :=
  if cls r = 1 then .tok (if resv (r.take (nameL r)) then 10 else 1) (r.take (nameL r)) 0 (nameL r)
  else if cls r = 2 then .tok (upS r).1 (r.take (upS r).2) 0 (upS r).2
  else if cls r = 3 then numS r
  else if cls r = 5 then opS r
  else if cls r = 6 then .tok 9 (r.take 1) 0 1
  else if cls r = 4 then (if bAt r = 39 then quotS r else if inNm (r.drop 1) then .bad 10 else .tok 9 (r.take 1) 0 1)
  else if bAt r = 34 then quotS r else .bad 10

def nlL : BS → Nat
  | [] => 0
  | c :: r => if c = 10 then 0 else nlL r + 1

def stepS (r : BS) : St :=
  if cls r = 7 then .skip 1
  else if pre [123, 45] r then (match comL 0 r with | none => .bad 13 | some k => .skip k)
  else if dsh (r.take (runL 5 r)) then .skip (nlL r)
  else tokS r

inductive LR where
  | bad (e : Nat) (at_ : Nat)
  | ok (l : List Tok)
  deriving DecidableEq
def LR.cons (t : Tok) : LR → LR
  | .bad e i => .bad e i
  | .ok l => .ok (t :: l)

def lexS (r : BS) (i n : Nat) : LR :=
  match r with
  | [] => .ok []
  | c :: r' =>
    match stepS (c :: r') with
    | .bad e => .bad e i
    | .skip k => lexS (r'.drop (k - 1)) (i + k) n
    | .tok kd tx nm k => if n = 20000 then .bad 4 i else LR.cons ⟨kd, tx, nm, i⟩ (lexS (r'.drop (k - 1)) (i + k) (n + 1))
  termination_by r.length
  decreasing_by all_goals simp only [List.length_drop, List.length_cons]; omega

theorem u8all {p : UInt8 → Prop} (h : ∀ n : Nat, n < 256 → p (UInt8.ofNat n)) : ∀ c, p c := fun c => by
  have := h c.toNat c.toNat_lt
  rwa [UInt8.ofNat_toNat] at this
theorem runL_app (k : Nat) {w : UInt8} (hw : clB w = 7) (hk : k ≠ 7) (b : BS) : ∀ r : BS, runL k (r ++ w :: b) = runL k r
  | [] => by simp only [List.nil_append, runL, hw]; rw [if_neg (by omega)]
  | c :: r => by simp only [List.cons_append, runL, runL_app k hw hk b r]
theorem runL_le (k : Nat) : ∀ r : BS, runL k r ≤ r.length
  | [] => Nat.le_refl _
  | c :: r => by
    have := runL_le k r
    simp only [runL, List.length_cons]
    split <;> omega
theorem nameL_le : ∀ r : BS, nameL r ≤ r.length
  | [] => Nat.le_refl _
  | c :: r => by
    have := nameL_le r
    simp only [nameL, List.length_cons]
    split <;> omega
theorem nlL_le : ∀ r : BS, nlL r ≤ r.length
  | [] => Nat.le_refl _
  | c :: r => by
    have := nlL_le r
    simp only [nlL, List.length_cons]
    split <;> omega
theorem hexB_blank : ∀ w : UInt8, clB w = 7 → hexB w = -1 := u8all (by decide +kernel)
theorem hexB_lt (c : UInt8) : hexB c < 16 := by
  unfold hexB
  split
  · omega
  · split <;> omega

theorem numL_app (b : Int) {w : UInt8} (hw : clB w = 7) (x : BS) : ∀ (r : BS) (g : Bool) (n : Int), numL b (r ++ w :: x) g n = numL b r g n
  | [], g, n => by
    simp only [List.nil_append, numL, hexB_blank w hw]
    rw [if_neg (by omega)]
  | c :: r, g, n => by simp only [List.cons_append, numL, numL_app b hw x r]
theorem numL_le (b : Int) : ∀ (r : BS) (g : Bool) (n : Int), (numL b r g n).2.2 ≤ r.length
  | [], g, n => Nat.le_refl _
  | c :: r, g, n => by
    have h1 := numL_le b r true (hexB c)
    have h2 := numL_le b r g (n * b + hexB c)
    simp only [numL, List.length_cons]
    split
    · split <;> simp only <;> omega
    · simp only; omega
theorem hexP_len {r : BS} (h : hexP r = true) : 3 ≤ r.length := by
  unfold hexP at h
  simp only [Bool.and_eq_true, decide_eq_true_eq] at h
  obtain ⟨⟨_, h2⟩, h3⟩ := h
  match r, h2, h3 with
  | [], h2, _ => exact absurd h2 (by simp [bAt])
  | [_], h2, _ => exact absurd h2 (by simp [bAt])
  | [_, _], _, h3 => exact absurd h3 (show ¬ (0 ≤ hexB 0) by decide)
  | _ :: _ :: _ :: _, _, _ => simp
theorem cls3_len {r : BS} {k : Nat} (hk : cls (r.drop k) = 3) : k + 1 ≤ r.length := by
  apply Classical.byContradiction
  intro hc
  rw [List.drop_eq_nil_of_le (by omega)] at hk
  exact absurd hk (by decide)
theorem escD_app (x : BS) {r : BS} {y : UInt8 × Nat} (h : escD r = some y) : escD (r ++ x) = some y ∧ y.2 = 4 ∧ 4 ≤ r.length := by
  have hl : 4 ≤ r.length := by
    unfold escD at h
    split at h
    · rename_i h3; exact cls3_len h3.2.2
    · cases h
  have h4 : y.2 = 4 := by
    unfold escD at h
    split at h
    · split at h
      · cases h
      · rw [← Option.some.inj h]
    · cases h
  refine ⟨?_, h4, hl⟩
  match r, hl with
  | a :: b :: c :: d :: r, _ => exact h
theorem bAt_len {r : BS} {k : Nat} (hk : bAt (r.drop k) ≠ 0) : k + 1 ≤ r.length := by
  apply Classical.byContradiction
  intro hc
  apply hk
  rw [List.drop_eq_nil_of_le (by omega)]
  rfl
theorem soundS_len {r : BS} {q : UInt8} {y : UInt8 × Nat} (h : soundS r q = some y) : 1 ≤ y.2 ∧ y.2 ≤ r.length := by
  unfold soundS at h
  have h0 := bAt_len (r := r) (k := 0)
  rw [List.drop_zero] at h0
  have h1 := bAt_len (r := r) (k := 1)
  split at h
  · rename_i h2
    split at h
    · cases h
    · rename_i h3
      obtain rfl := Option.some.inj h
      refine ⟨Nat.le_refl _, h0 ?_⟩
      intro hz
      apply h3
      left
      rw [hz]; decide
  · split at h
    · rename_i h3
      obtain rfl := Option.some.inj h
      exact ⟨Nat.le_succ 1, h1 (by rw [h3]; decide)⟩
    · split at h
      · rename_i h3
        obtain rfl := Option.some.inj h
        exact ⟨Nat.le_succ 1, h1 (by rw [h3]; decide)⟩
      · split at h
        · rename_i h3
          obtain rfl := Option.some.inj h
          refine ⟨Nat.le_succ 1, h1 ?_⟩
          rcases h3 with h3 | h3 | h3 <;> (rw [h3]; decide)
        · obtain ⟨_, h4, h5⟩ := escD_app [] h
          omega
theorem drop_pred {c : UInt8} {r : BS} {k : Nat} (hk : 1 ≤ k) : r.drop (k - 1) = (c :: r).drop k := by
  obtain ⟨m, rfl⟩ : ∃ m, k = m + 1 := ⟨k - 1, by omega⟩
  rfl
theorem quotL_len (q : UInt8) : ∀ (n : Nat) (r : BS), r.length = n → ∀ y, quotL q r = some y → y.2 + 1 ≤ r.length := by
  intro n
  induction n using Nat.strongRecOn with
  | ind n ih =>
    intro r hr y h
    subst hr
    match r with
    | [] => rw [quotL] at h; cases h
    | c :: r' =>
      rw [quotL] at h
      split at h
      · obtain rfl := Option.some.inj h
        simp
      · split at h
        · cases h
        · rename_i a k hs
          have hk := soundS_len hs
          simp only at hk
          rw [Option.map_eq_some_iff] at h
          obtain ⟨z, hz, rfl⟩ := h
          have := ih _ (by simp only [List.length_drop, List.length_cons]; omega) (r'.drop (k - 1)) rfl z hz
          simp only [List.length_drop, List.length_cons] at this hk ⊢
          omega
theorem ite_ns {c : Prop} [Decidable c] {a b : St} {k : Nat} (ha : a ≠ .skip k) (hb : b ≠ .skip k) : (if c then a else b) ≠ .skip k := by split <;> assumption
theorem numS_ns (r : BS) (k : Nat) : numS r ≠ .skip k := by
  unfold numS
  exact ite_ns (fun h => by cases h) (fun h => by cases h)
theorem quotS_ns (r : BS) (k : Nat) : quotS r ≠ .skip k := by
  unfold quotS
  split
  · simp
  · split
    · simp
    · split <;> simp
theorem opS_ns (r : BS) (k : Nat) : opS r ≠ .skip k := by
  unfold opS
  exact ite_ns (fun h => by cases h) (ite_ns (fun h => by cases h) (fun h => by cases h))
theorem tokS_ns (r : BS) (k : Nat) : tokS r ≠ .skip k := by
  unfold tokS
  split
  · simp
  · split
    · simp
    · split
      · exact numS_ns r k
      · split
        · exact opS_ns r k
        · split
          · simp
          · split
            · split
              · exact quotS_ns r k
              · split <;> simp
            · split
              · exact quotS_ns r k
              · simp

theorem comL_app (x : BS) : ∀ (d : Int) (r : BS) (k : Nat), comL d r = some k → comL d (r ++ x) = some k ∧ 1 ≤ k ∧ k ≤ r.length
  | d, [], k, h => by simp [comL] at h
  | d, [a], k, h => by simp [comL] at h
  | d, a :: b :: r, k, h => by
    simp only [comL] at h
    simp only [List.cons_append, comL]
    split at h
    · rename_i h1
      rw [if_pos h1]
      rw [Option.map_eq_some_iff] at h ⊢
      obtain ⟨z, hz, rfl⟩ := h
      obtain ⟨h2, h3, h4⟩ := comL_app x (d + 1) r z hz
      exact ⟨⟨z, h2, rfl⟩, by omega, by simp only [List.length_cons]; omega⟩
    · rename_i h1
      rw [if_neg h1]
      split at h
      · rename_i h2
        rw [if_pos h2]
        split at h
        · rename_i h3
          rw [if_pos h3]
          obtain rfl := Option.some.inj h
          exact ⟨rfl, by decide, by simp⟩
        · rename_i h3
          rw [if_neg h3]
          rw [Option.map_eq_some_iff] at h ⊢
          obtain ⟨z, hz, rfl⟩ := h
          obtain ⟨h2, h3, h4⟩ := comL_app x (d - 1) r z hz
          exact ⟨⟨z, h2, rfl⟩, by omega, by simp only [List.length_cons]; omega⟩
      · rename_i h2
        rw [if_neg h2]
        rw [Option.map_eq_some_iff] at h ⊢
        obtain ⟨z, hz, rfl⟩ := h
        obtain ⟨h2, h3, h4⟩ := comL_app x d (b :: r) z hz
        rw [List.cons_append] at h2
        exact ⟨⟨z, h2, rfl⟩, by omega, by simp only [List.length_cons] at h4 ⊢; omega⟩
  termination_by _ r => r.length

end Go.Vm
end
