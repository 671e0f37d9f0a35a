/-
  Parts of the proof: A piece of a region that passed the check does what the machine says. A piece of a region, in any order that its edges allow. Regions: in the order of the text, or in any order that the edges allow. A block that only one cell leads to, becomes data (frzS of VmJ). Code that passed the check does what the machine says. Functions: what they return. Loops and jumps, by their rounds. What a row hands in reads as plain data. The arguments of a row, as values of the machine. The machine's equations, in a form in which simp works from the inside out and stops where a test is open. Typed data in the machine: lists of structures as rows of cells. Maps, in equations for simp. Jumps, in equations. One name for the machine's equations. Conditions: none.
-/
import Derived.Test.YtmmbgofnllcaeaaDoorLexJoinsB
import Derived.Orders
import Derived.Scope
import Derived.Laws.Sem
import Derived.Deep.Slices
import Derived.DataReads
set_option linter.unusedVariables false
set_option linter.unusedSimpArgs false

section
namespace Go.Vm
open Go.RowKit

structure SegOk (B : Nat → Nat → Bool) (P : Program) (ops : Array Oper) (n : Nat) (is : List Nat) (g : Seg) (R : List Rec) : Prop where
  mks : mksOk g.mks = true
  recs : recs B P ops (g.mks.map (·.1)) g.ef n is [] = some R
  each : ∀ r ∈ R, recOk ops R g.subs g.conds r = true
  made : ∀ p ∈ g.mks, ∃ r ∈ R, mkOf r = some p
  of : ∀ r ∈ R, ∀ m d, r.kd = .mk m → r.o.dst = some d → (d, m) ∈ g.mks
  lets : ∀ p ∈ g.lets, ∃ r ∈ R, r.o.dst = some p.1 ∧ r.kd = .pure p.2 ∧ r.ch = []
  keep : ∀ t ∈ g.keep, t ∈ g.mks.map (·.1) ∨ ∀ r ∈ R, r.o.dst ≠ some t
  wr : (∀ r ∈ R, r.isWr = false) ∧ g.wr = none ∨ ∃ r done x, R = r :: done ∧ r.kd = .wr x ∧ g.wr = some (r.o.dst, x) ∧ g.wg = r.ch ∧ ∀ q ∈ done, B q.i r.i = true ∨ lateR g.late q = true
  lateN : ∀ q ∈ R, lateR g.late q = true → ∀ t ∈ reads q.o, ∀ p ∈ R, p.o.dst = some t → p.i < q.i → lateR g.late p = true

theorem segOk_parts {B : Nat → Nat → Bool} {P : Program} {ops : Array Oper} {n : Nat} {is : List Nat} {g : Seg} (h : segOk B P ops n is g = true) : ∃ R, SegOk B P ops n is g R := by
  unfold segOk at h
  simp only [Bool.and_eq_true] at h
  obtain ⟨h0, h⟩ := h
  cases hr : recs B P ops (g.mks.map (·.1)) g.ef n is [] with
  | none => simp [hr] at h
  | some R =>
    simp only [hr, Bool.and_eq_true, List.all_eq_true, List.any_eq_true, decide_eq_true_eq, Bool.or_eq_true, List.contains_eq_mem] at h
    obtain ⟨⟨⟨⟨⟨⟨h1, h2⟩, h3⟩, h4⟩, h5⟩, h6⟩, h7⟩ := h
    have hg := (recs_good is [] R .nil hr).1
    refine ⟨R, ⟨h0, hr, h1, h2, fun r hr m d hk hd => ?_, fun p hp => ?_, h5, ?_, fun q hq hl t ht p hp hd hi => ?_⟩⟩
    · have := h3 r hr
      rw [hk] at this
      simp only [List.any_eq_true, Bool.and_eq_true, decide_eq_true_eq] at this
      obtain ⟨p, hp, h1, h2⟩ := this
      rw [hd] at h1
      obtain rfl := Option.some.inj h1
      subst h2
      exact hp
    · obtain ⟨r, hr, ⟨h1, h2⟩, h3⟩ := h4 p hp
      exact ⟨r, hr, h1, h2, by simpa using h3⟩
    · cases R with
      | nil => exact .inl ⟨fun r h => by simp at h, by simpa using h6⟩
      | cons r done =>
        cases hg with
        | cons _ _ _ _ _ _ hn =>
          have hall := (okNext_parts hn).2.2.2.2
          have tail : r.isWr = false → ∀ q ∈ r :: done, q.isWr = false := by
            intro hr q hq
            rcases List.mem_cons.1 hq with rfl | hq
            · exact hr
            · exact (hall q hq).2
          cases hk : r.kd with
          | wr x =>
            simp only [hk, Bool.and_eq_true, decide_eq_true_eq, List.all_eq_true, Bool.or_eq_true] at h6
            exact .inr ⟨r, done, x, rfl, hk, h6.1.1, h6.1.2, h6.2⟩
          | pure e =>
            simp only [hk] at h6
            exact .inl ⟨tail (by simp [Rec.isWr, hk]), by simpa using h6⟩
          | mk m =>
            simp only [hk] at h6
            exact .inl ⟨tail (by simp [Rec.isWr, hk]), by simpa using h6⟩
    · simp only [lateNeeds, List.all_eq_true, Bool.or_eq_true, Bool.not_eq_true', decide_eq_true_eq] at h7
      rcases h7 q hq with h | h
      · rw [hl] at h; cases h
      · rcases h t ht p hp with (h | h) | h
        · exact absurd hd h
        · omega
        · exact h

theorem look_mapV (f : V → V) : ∀ (l : List (Nat × V)) (t : Nat), look (l.map fun (t, v) => (t, f v)) t = (look l t).map f
  | [], t => rfl
  | (k, v) :: l, t => by
    simp only [List.map_cons, look]
    split
    · rfl
    · exact look_mapV f l t
theorem look_mem {α : Type} : ∀ (l : List (Nat × α)) (t : Nat) (v : α), look l t = some v → (t, v) ∈ l
  | [], t, v, h => by simp [look] at h
  | (k, u) :: l, t, v, h => by
    simp only [look] at h
    split at h
    · rename_i he; subst he; obtain rfl := Option.some.inj h; simp
    · exact List.mem_cons_of_mem _ (look_mem l t v h)

theorem evLets_get (K : Cx) (s : S) : ∀ (l : List (Nat × E)) (r : List (Nat × V)), evLets K s l = some r → (∀ t v, look r t = some v → ∃ e, (t, e) ∈ l ∧ ev K s e = some v) ∧ ∀ t e, (t, e) ∈ l → ∃ v, ev K s e = some v
  | [], r, h => by
    obtain rfl := Option.some.inj h
    exact ⟨fun t v h => by simp [look] at h, fun t e h => by simp at h⟩
  | (d, e) :: l, r, h => by
    simp only [evLets] at h
    cases he : ev K s e with
    | none => simp [he] at h
    | some v =>
      cases hl : evLets K s l with
      | none => simp [he, hl] at h
      | some r' =>
        simp only [he, hl, Option.some.injEq] at h
        subst h
        obtain ⟨h1, h2⟩ := evLets_get K s l r' hl
        refine ⟨fun t u hu => ?_, fun t e' h' => ?_⟩
        · simp only [look] at hu
          split at hu
          · rename_i ht
            subst ht
            obtain rfl := Option.some.inj hu
            exact ⟨e, by simp, he⟩
          · obtain ⟨e', h1, h2⟩ := h1 t u hu
            exact ⟨e', List.mem_cons_of_mem _ h1, h2⟩
        · rcases List.mem_cons.1 h' with h' | h'
          · simp only [Prod.mk.injEq] at h'
            obtain ⟨rfl, rfl⟩ := h'
            exact ⟨v, he⟩
          · exact h2 t e' h'

theorem evChk_get (K : Cx) (s : S) : ∀ (l : List E), evChk K s l = true → ∀ e ∈ l, ∃ v, ev K s e = some v
  | [], _, e, h => by simp at h
  | x :: l, h, e, he => by
    simp only [evChk, Bool.and_eq_true] at h
    rcases List.mem_cons.1 he with rfl | he
    · exact Option.isSome_iff_exists.1 h.1
    · exact evChk_get K s l h.2 e he

theorem look_append {α : Type} (a b : List (Nat × α)) (t : Nat) : look (a ++ b) t = match look a t with | some v => some v | none => look b t := by
  induction a with
  | nil => simp [look]
  | cons p a ih =>
    obtain ⟨k, v⟩ := p
    simp only [List.cons_append, look]
    split
    · rfl
    · exact ih
theorem look_restrict {α : Type} (l : List (Nat × α)) : ∀ (ts : List Nat) (t : Nat) (v : α), look (restrict l ts) t = some v → t ∈ ts ∧ look l t = some v
  | [], t, v, h => by simp [restrict, look] at h
  | u :: ts, t, v, h => by
    simp only [restrict] at h
    cases hu : look l u with
    | none =>
      simp only [hu] at h
      obtain ⟨h1, h2⟩ := look_restrict l ts t v h
      exact ⟨List.mem_cons_of_mem _ h1, h2⟩
    | some x =>
      simp only [hu, look] at h
      split at h
      · rename_i he
        subst he
        exact ⟨by simp, by rw [hu]; exact h⟩
      · obtain ⟨h1, h2⟩ := look_restrict l ts t v h
        exact ⟨List.mem_cons_of_mem _ h1, h2⟩
theorem look_lose (p : Lost) (ρ : List (Nat × V)) (t : Nat) (x : V) (h : look (lose p ρ) t = some x) : ∃ y, look ρ t = some y ∧ x = loseV p y := by
  cases p with
  | none => exact ⟨x, h, rfl⟩
  | many l =>
    cases l with
    | nil => exact ⟨x, h, rfl⟩
    | cons c r =>
      simp only [lose, forgetR] at h
      induction ρ with
      | nil => simp [look] at h
      | cons q ρ ih =>
        obtain ⟨k, v⟩ := q
        simp only [List.map_cons, look] at h ⊢
        split
        · rename_i hk
          rw [if_pos hk] at h
          exact ⟨v, rfl, (Option.some.inj h).symm⟩
        · rename_i hk
          rw [if_neg hk] at h
          exact ih h
  | some b =>
    simp only [lose, forgetR] at h
    induction ρ with
    | nil => simp [look] at h
    | cons q ρ ih =>
      obtain ⟨k, v⟩ := q
      simp only [List.map_cons, look] at h ⊢
      split
      · rename_i hk
        rw [if_pos hk] at h
        exact ⟨v, rfl, (Option.some.inj h).symm⟩
      · rename_i hk
        rw [if_neg hk] at h
        exact ih h

theorem look_loseH (p : Lost) (H : List (Nat × Blk)) (b : Nat) (x : Blk) (h : look (loseH p H) b = some x) : ∃ y, look H b = some y := by
  cases p with
  | none => exact ⟨x, h⟩
  | many l => exact ⟨x, h⟩
  | some c =>
    simp only [loseH, forgetH] at h
    induction H with
    | nil => simp [look] at h
    | cons q H ih =>
      obtain ⟨k, v⟩ := q
      simp only [List.map_cons, look] at h ⊢
      split
      · exact ⟨v, rfl⟩
      · rename_i hk
        rw [if_neg hk] at h
        exact ih h

theorem evEff_dom {K : Cx} {n0 : Nat} {H H' : List (Nat × Blk)} {f : FuncId} {vs : List V} {bs : List Nat} {v : V} {p : Lost} {nx : Nat} (h : evEff K n0 H f vs bs = some (H', v, p, nx)) (hd : ∀ b blk, look H b = some blk → b < n0) : (∀ b blk, look H' b = some blk → b < nx) ∧ n0 ≤ nx := by
  unfold evEff at h
  split at h
  case isFalse => cases h
  rename_i hc
  simp only [Bool.and_eq_true, decide_eq_true_eq, List.all_eq_true] at hc
  obtain ⟨_, hcl⟩ := hc
  cases h1 : handed H bs with
  | none => simp [h1] at h
  | some blks =>
    simp only [h1] at h
    cases h2 : K.eff f (vs.map fun v => v.dim.ren bs.idxOf) blks with
    | none => simp [h2] at h
    | some q =>
      obtain ⟨r0, blks', mv⟩ := q
      simp only [h2] at h
      split at h
      case isFalse => cases h
      rename_i hle
      simp only [Option.some.injEq, Prod.mk.injEq] at h
      obtain ⟨rfl, _, _, rfl⟩ := h
      refine ⟨fun b blk hb => ?_, by omega⟩
      simp only [closedB, List.all_eq_true] at hcl
      by_cases him : ∃ j, j < blks'.length ∧ backB bs n0 j = b
      · obtain ⟨j, hj, rfl⟩ := him
        by_cases hjb : j < bs.length
        · rw [backB_lt hjb]
          have := hcl _ (List.getElem_mem hjb)
          split at this
          · rename_i k hk
            have := hd _ _ hk
            omega
          · cases this
        · rw [backB_ge (by omega)]
          omega
      · rw [putAll_other _ _ _ _ _ (fun j hj he => him ⟨j, hj, by rw [Nat.zero_add] at he; exact he⟩)] at hb
        obtain ⟨k0, h1, _⟩ := look_loseM _ _ _ hb
        have := hd _ _ h1
        omega

theorem evWr_dom {K : Cx} {s : S} {H H' : List (Nat × Blk)} {wr : Wr} {v : V} {p : Lost} {nx : Nat} (h : evWr K s H wr = some (H', v, p, nx)) (hd : ∀ b blk, look H b = some blk → b < s.nx) : (∀ b blk, look H' b = some blk → b < nx) ∧ s.nx ≤ nx := by
  have put_dom : ∀ {c : Nat} {x y : Blk}, look H c = some x → ∀ b blk, look (put H c y) b = some blk → b < s.nx := by
    intro c x y hc b blk hb
    rw [look_put] at hb
    split at hb
    · rename_i hcb; subst hcb; exact hd _ _ hc
    · exact hd _ _ hb
  cases wr with
  | store n a e =>
    simp only [evWr] at h
    split at h
    · rename_i b i j x _ _
      split at h
      · split at h
        · rename_i blk hb
          split at h
          · simp only [Option.some.injEq, Prod.mk.injEq] at h
            obtain ⟨rfl, _, _, rfl⟩ := h
            exact ⟨put_dom hb, Nat.le_refl _⟩
          · cases h
        · cases h
      · cases h
    · cases h
  | calle f e =>
    simp only [evWr] at h
    split at h
    · exact evEff_dom h hd
    · cases h
  | mset kk m k e =>
    simp only [evWr] at h
    split at h
    · split at h
      · split at h
        · rename_i blk hb
          split at h
          · split at h
            · simp only [Option.some.injEq, Prod.mk.injEq] at h
              obtain ⟨rfl, _, _, rfl⟩ := h
              exact ⟨put_dom hb, Nat.le_refl _⟩
            · cases h
          · cases h
        · cases h
      · cases h
    · cases h
  | mclr m =>
    simp only [evWr] at h
    split at h
    · split at h
      · rename_i blk hb
        split at h
        · split at h
          · cases h
          · simp only [Option.some.injEq, Prod.mk.injEq] at h
            obtain ⟨rfl, _, _, rfl⟩ := h
            exact ⟨put_dom hb, Nat.le_refl _⟩
        · cases h
      · cases h
    · cases h
  | app k a e =>
    simp only [evWr] at h
    split at h
    · split at h
      · split at h
        · split at h
          · rename_i blk hb
            split at h
            · simp only [Option.some.injEq, Prod.mk.injEq] at h
              obtain ⟨rfl, _, _, rfl⟩ := h
              exact ⟨put_dom hb, Nat.le_refl _⟩
            · cases h
          · cases h
        · split at h
          · simp only [Option.some.injEq, Prod.mk.injEq] at h
            obtain ⟨rfl, _, _, rfl⟩ := h
            refine ⟨fun b blk hb => ?_, by omega⟩
            simp only [look] at hb
            split at hb
            · omega
            · have := hd _ _ hb; omega
          · cases h
        · cases h
      · cases h
    · cases h

structure Ended (K : Cx) (s s' : S) (g : Seg) (s1 : S) (news : List Blk) (l : List (Nat × V)) : Prop where
  mks : evMks K s g.mks = some (s1, news)
  lets : evLets K s1 g.lets = some l
  chk : evChk K s1 g.chk = true
  late : lateOk K s g
  wr : g.wr = none ∧ s' = ⟨l ++ restrict s1.rho g.keep, addBlks s.heap s.nx news, s1.nx, s.mv⟩ ∨
    (∃ d wr, g.wr = some (d, wr) ∧ wonB K s1 g.wg = some false ∧ s' = ⟨l ++ restrict s1.rho g.keep, addBlks s.heap s.nx news, s1.nx, s.mv⟩) ∨
    ∃ d wr H v p nx, g.wr = some (d, wr) ∧ wonB K s1 g.wg = some true ∧ evWr K s1 (addBlks s.heap s.nx news) wr = some (H, v, p, nx) ∧
      s' = ⟨(match d with | some d => (d, v) :: lose p (l ++ restrict s1.rho g.keep) | none => lose p (l ++ restrict s1.rho g.keep)), loseH p H, nx, p.ids ++ s.mv⟩

theorem evSeg_parts {K : Cx} {s s' : S} {g : Seg} (h : evSeg K s g = some s') : ∃ s1 news l, Ended K s s' g s1 news l := by
  unfold evSeg at h
  split at h
  case isFalse => cases h
  rename_i h0
  unfold evSeg0 at h
  cases h1 : evMks K s g.mks with
  | none => simp [h1] at h
  | some p =>
    obtain ⟨s1, news⟩ := p
    simp only [h1] at h
    cases h2 : evLets K s1 g.lets with
    | none => simp [h2] at h
    | some l =>
      simp only [h2] at h
      split at h
      case isFalse => cases h
      rename_i h3
      refine ⟨s1, news, l, ⟨h1, h2, h3, h0, ?_⟩⟩
      cases h4 : g.wr with
      | none =>
        simp only [h4, Option.some.injEq] at h
        exact .inl ⟨rfl, h.symm⟩
      | some q =>
        obtain ⟨d, wr⟩ := q
        simp only [h4] at h
        cases hwb : wonB K s1 g.wg with
        | none => simp [hwb] at h
        | some wb =>
        cases wb with
        | false =>
          simp only [hwb, Option.some.injEq] at h
          exact .inr (.inl ⟨d, wr, rfl, rfl, h.symm⟩)
        | true =>
        simp only [hwb] at h
        cases h5 : evWr K s1 (addBlks s.heap s.nx news) wr with
        | none => simp [h5] at h
        | some r =>
          obtain ⟨H, v, p, nx⟩ := r
          simp only [h5] at h
          refine .inr (.inr ⟨d, wr, H, v, p, nx, rfl, rfl, h5, ?_⟩)
          cases d with
          | none => simp only [Option.some.injEq] at h; exact h.symm
          | some d => simp only [Option.some.injEq] at h; exact h.symm

theorem roots_ev {K : Cx} {s s' s1 : S} {g : Seg} {news : List Blk} {l : List (Nat × V)} {T : Tr} (h : Ended K s s' g s1 news l) (hT : Traced K s s1 news g.mks T) : ∀ e ∈ g.roots, ∃ v, ev K s1 e = some v := by
  intro e he
  simp only [Seg.roots, List.mem_append, List.mem_flatMap, List.mem_map] at he
  rcases he with ⟨⟨d, m⟩, hp, he⟩ | ⟨⟨t, e'⟩, hp, rfl⟩ | he
  · obtain ⟨v, n0, nw, hm⟩ := (hT.of d m).1 hp
    have hev := (hT.evm d m v n0 nw hm).1
    have back : ∀ x v, ev K ⟨s1.rho, s.heap, n0, []⟩ x = some v → ev K s1 x = some v := by
      intro x v hx
      have : s1 = ⟨s1.rho, s.heap, s1.nx, s1.mv⟩ := by rw [← hT.heap]
      rw [this, ev_nx _ _ _ _ n0 _ []]
      exact hx
    cases m with
    | mkm => simp [Mk.roots] at he
    | bld t e => simp [Mk.roots] at he
    | box x =>
      simp only [Mk.roots, List.mem_singleton] at he
      subst he
      simp only [evMk] at hev
      cases hx : ev K ⟨s1.rho, s.heap, n0, []⟩ e with
      | none => simp [hx] at hev
      | some v => exact ⟨v, back _ _ hx⟩
    | mks k a b c =>
      simp only [evMk] at hev
      split at hev
      · rename_i h1 h2 h3
        simp only [Mk.roots, List.mem_cons, List.not_mem_nil, or_false] at he
        rcases he with rfl | rfl | rfl
        · exact ⟨_, back _ _ h1⟩
        · exact ⟨_, back _ _ h2⟩
        · exact ⟨_, back _ _ h3⟩
      · cases hev
    | lits k x =>
      simp only [Mk.roots, List.mem_singleton] at he
      subst he
      simp only [evMk] at hev
      split at hev
      · rename_i h1; exact ⟨_, back _ _ h1⟩
      · cases hev
    | callo f x =>
      simp only [Mk.roots, List.mem_singleton] at he
      subst he
      simp only [evMk] at hev
      split at hev
      · rename_i h1; exact ⟨_, back _ _ h1⟩
      · cases hev
  · exact (evLets_get K s1 g.lets l h.lets).2 t e' hp
  · exact evChk_get K s1 g.chk h.chk e he

theorem wonB_true {K : Cx} {s : S} : ∀ {ch : Chain}, wonB K s ch = some true → Won K s ch
  | [], _ => fun p hp => by simp at hp
  | (e, b) :: r, h => by
    simp only [wonB] at h
    cases hr : wonB K s r with
    | none => simp [hr] at h
    | some x =>
      cases x with
      | false => simp [hr] at h
      | true =>
        simp only [hr] at h
        split at h
        · rename_i k x hx
          have hxb : x = b := by simpa using h
          subst hxb
          intro p hp
          rcases List.mem_cons.1 hp with rfl | hp
          · exact ⟨k, hx⟩
          · exact wonB_true hr p hp
        · cases h
theorem wonB_false {K : Cx} {s : S} : ∀ {ch : Chain}, wonB K s ch = some false → ¬ Won K s ch
  | [], h => by simp [wonB] at h
  | (e, b) :: r, h => by
    simp only [wonB] at h
    intro hw
    cases hr : wonB K s r with
    | none => simp [hr] at h
    | some x =>
      cases x with
      | false => exact wonB_false hr hw.tail
      | true =>
        simp only [hr] at h
        obtain ⟨k, hk⟩ := hw.head
        simp only at hk
        rw [hk] at h
        simp at h
theorem asked_ev {K : Cx} {s : S} : ∀ {ch : Chain} {b : Bool}, wonB K s ch = some b → ∀ c e, (c, e) ∈ asked ch → Won K s c → ∃ k x, ev K s e = some (.d k (.bool x))
  | [], b, _, c, e, hm, _ => by simp [asked] at hm
  | (e0, b0) :: r, b, h, c, e, hm, hw => by
    simp only [wonB] at h
    simp only [asked, List.mem_cons, Prod.mk.injEq] at hm
    cases hr : wonB K s r with
    | none => simp [hr] at h
    | some x =>
      rcases hm with ⟨rfl, rfl⟩ | hm
      · cases x with
        | false => exact absurd hw (wonB_false hr)
        | true =>
          simp only [hr] at h
          split at h
          · rename_i k x hx; exact ⟨k, x, hx⟩
          · cases h
      · exact asked_ev hr c e hm hw

theorem wroots_ev {K : Cx} {s s' s1 : S} {g : Seg} {news : List Blk} {l : List (Nat × V)} (h : Ended K s s' g s1 news l) (hw : Won K s1 g.wg) : ∀ e ∈ g.wroots, ∃ v, ev K s1 e = some v := by
  intro e he
  unfold Seg.wroots at he
  rcases h.wr with ⟨hwn, _⟩ | ⟨d, wr, hwn, hwb, _⟩ | ⟨d, wr, H, v, p, nx, hwn, hwb, hev, _⟩
  · rw [hwn] at he; simp at he
  · exact absurd hw (wonB_false hwb)
  · rw [hwn] at he
    cases wr with
    | store n a b =>
      simp only [Wr.roots, List.mem_cons, List.not_mem_nil, or_false] at he
      simp only [evWr] at hev
      split at hev
      · rename_i h1 h2
        rcases he with rfl | rfl
        · exact ⟨_, h1⟩
        · exact ⟨_, h2⟩
      · cases hev
    | mset kk a b c =>
      simp only [Wr.roots, List.mem_cons, List.not_mem_nil, or_false] at he
      simp only [evWr] at hev
      split at hev
      · rename_i h1 h2 h3
        rcases he with rfl | rfl | rfl
        · exact ⟨_, h1⟩
        · exact ⟨_, h2⟩
        · exact ⟨_, h3⟩
      · cases hev
    | mclr a =>
      simp only [Wr.roots, List.mem_singleton] at he
      subst he
      simp only [evWr] at hev
      split at hev
      · rename_i h1; exact ⟨_, h1⟩
      · cases hev
    | calle f x =>
      simp only [Wr.roots, List.mem_singleton] at he
      subst he
      simp only [evWr] at hev
      split at hev
      · rename_i h1; exact ⟨_, h1⟩
      · cases hev
    | app k a b =>
      simp only [Wr.roots, List.mem_cons, List.not_mem_nil, or_false] at he
      simp only [evWr] at hev
      split at hev
      · rename_i h1 h2
        rcases he with rfl | rfl
        · exact ⟨_, h1⟩
        · exact ⟨_, h2⟩
      · cases hev

theorem covered_won {K : Cx} {s : S} {l : List (Chain × E)} {ch : Chain} {e : E} (h : covered l ch e = true) (hw : Won K s ch) : ∃ ch', (ch', e) ∈ l ∧ Won K s ch' := by
  simp only [covered, List.any_eq_true, Bool.and_eq_true, decide_eq_true_eq] at h
  obtain ⟨⟨ch', e'⟩, hm, rfl, hs⟩ := h
  simp only [chainSub, List.all_eq_true, decide_eq_true_eq] at hs
  exact ⟨ch', hm, fun p hp => hw p (hs p hp)⟩

def pieceOf (P : Program) (K : Cx) (ops : Array Oper) (B : Nat → Nat → Bool) (n : Nat) (R : List Rec) (g : Seg) (s s1 : S) (T : Tr) (X : Nat → Nat → Prop) (base : Nat) (w0 : World) (F0 : Nat → Prop) (m : Nat) (σ0 : Nat → Option Loc) : Piece :=
  ⟨P, K, ops, B, g.mks.map (·.1), g.ef, n, R, s, s1, T, X, base, w0, F0, m, σ0⟩

theorem piece_ok {P : Program} {K : Cx} {ops : Array Oper} {B : Nat → Nat → Bool} {n : Nat} {is : List Nat} {R : List Rec} {g : Seg} {s s' s1 : S} {news : List Blk} {l : List (Nat × V)} {T : Tr} {X : Nat → Nat → Prop} {base : Nat} {w0 : World} {F0 : Nat → Prop} {m0 : Nat} {σ0 : Nat → Option Loc}
    (hs : SegOk B P ops n is g R) (h : Ended K s s' g s1 news l) (hT : Traced K s s1 news g.mks T) (hK : K.Sound P) (hdom : ∀ b blk, look s.heap b = some blk → b < s.nx) : (pieceOf P K ops B n R g s s1 T X base w0 F0 m0 σ0).Ok := by
  have hroots := roots_ev h hT
  have asks : g.wr.isSome = true → ∃ b, wonB K s1 g.wg = some b := by
    intro hw
    rcases h.wr with ⟨hn, _⟩ | ⟨d, wr, _, hb, _⟩ | ⟨d, wr, H, v, p, nx, _, hb, _⟩
    · rw [hn] at hw; cases hw
    · exact ⟨_, hb⟩
    · exact ⟨_, hb⟩
  have won_app : ∀ {a b : Chain}, Won K s1 (a ++ b) → Won K s1 a ∧ Won K s1 b := fun h => ⟨fun p hp => h p (List.mem_append_left _ hp), fun p hp => h p (List.mem_append_right _ hp)⟩
  have key : ∀ ch e, (ch, e) ∈ g.subs → Won K s1 ch → ∃ v, ev K s1 e = some v := by
    intro ch e hm hw
    unfold Seg.subs at hm
    simp only [List.mem_append] at hm
    rcases hm with hm | hm | hm
    · obtain ⟨root, hr, hm⟩ := List.mem_flatMap.1 hm
      obtain ⟨v, hv⟩ := hroots root hr
      exact subs_ev root v hv ch e hm hw
    · simp only [behind, List.mem_map] at hm
      obtain ⟨⟨c1, e1⟩, hm, he⟩ := hm
      simp only [Prod.mk.injEq] at he
      obtain ⟨rfl, rfl⟩ := he
      obtain ⟨w1, w2⟩ := won_app hw
      obtain ⟨root, hr, hm⟩ := List.mem_flatMap.1 hm
      obtain ⟨v, hv⟩ := wroots_ev h w2 root hr
      exact subs_ev root v hv c1 e1 hm w1
    · split at hm
      · rename_i hs'
        obtain ⟨b, hb⟩ := asks hs'
        obtain ⟨⟨c0, e0⟩, h0, hm2⟩ := List.mem_flatMap.1 hm
        simp only [behind, List.mem_map] at hm2
        obtain ⟨⟨c1, e1⟩, hm3, he⟩ := hm2
        simp only [Prod.mk.injEq] at he
        obtain ⟨rfl, rfl⟩ := he
        obtain ⟨w1, w2⟩ := won_app hw
        obtain ⟨k, x, hx⟩ := asked_ev hb c0 e0 h0 w2
        exact subs_ev e0 _ hx c1 e1 hm3 w1
      · simp at hm
  have keyc : ∀ ch e, (ch, e) ∈ g.conds → Won K s1 ch → ∃ k b, ev K s1 e = some (.d k (.bool b)) := by
    intro ch e hm hw
    unfold Seg.conds at hm
    simp only [List.mem_append] at hm
    rcases hm with hm | hm | hm
    · obtain ⟨root, hr, hm⟩ := List.mem_flatMap.1 hm
      obtain ⟨v, hv⟩ := hroots root hr
      exact conds_ev root v hv ch e hm hw
    · simp only [behind, List.mem_map] at hm
      obtain ⟨⟨c1, e1⟩, hm, he⟩ := hm
      simp only [Prod.mk.injEq] at he
      obtain ⟨rfl, rfl⟩ := he
      obtain ⟨w1, w2⟩ := won_app hw
      obtain ⟨root, hr, hm⟩ := List.mem_flatMap.1 hm
      obtain ⟨v, hv⟩ := wroots_ev h w2 root hr
      exact conds_ev root v hv c1 e1 hm w1
    · split at hm
      · rename_i hs'
        obtain ⟨b, hb⟩ := asks hs'
        rcases List.mem_append.1 hm with hm | hm
        · exact asked_ev hb ch e hm hw
        · obtain ⟨⟨c0, e0⟩, h0, hm2⟩ := List.mem_flatMap.1 hm
          simp only [behind, List.mem_map] at hm2
          obtain ⟨⟨c1, e1⟩, hm3, he⟩ := hm2
          simp only [Prod.mk.injEq] at he
          obtain ⟨rfl, rfl⟩ := he
          obtain ⟨w1, w2⟩ := won_app hw
          obtain ⟨k, x, hx⟩ := asked_ev hb c0 e0 h0 w2
          exact conds_ev e0 _ hx c1 e1 hm3 w1
      · simp at hm
  refine ⟨(recs_good is [] R .nil hs.recs).1, hK, hT.heap, fun d => ?_, hT.put, fun d m v n0 nw hm => hT.evm d m v n0 nw hm, hT.old, fun r hr m d hk hd => (hT.of d m).1 (hs.of r hr m d hk hd), hT.disj, hT.same, fun r hr e hk hw => ?_, fun r hr j b hg q hq hqj hw => ?_, fun r hr j b hg => ?_, hdom, fun d hd => ?_⟩
  · constructor
    · intro hd
      obtain ⟨⟨d', m⟩, hp, rfl⟩ := List.mem_map.1 hd
      obtain ⟨v, n0, nw, hm⟩ := (hT.of d' m).1 hp
      exact ⟨m, v, n0, nw, hm⟩
    · rintro ⟨m, v, n0, nw, hm⟩
      exact List.mem_map.2 ⟨(d, m), (hT.of d m).2 ⟨v, n0, nw, hm⟩, rfl⟩
  · have := hs.each r hr
    simp only [recOk, hk, Bool.and_eq_true] at this
    obtain ⟨ch', hm, hw'⟩ := covered_won this.1 hw
    exact key ch' e hm hw'
  · have := hs.each r hr
    simp only [recOk, hg, Bool.and_eq_true, List.all_eq_true, Bool.or_eq_true, bne_iff_ne, ne_eq] at this
    rcases this.2.1 q hq with h1 | h1
    · exact absurd hqj h1
    · obtain ⟨ch', hm, hw'⟩ := covered_won h1.1 hw
      exact keyc ch' q.x hm hw'
  · have := hs.each r hr
    simp only [recOk, hg, Bool.and_eq_true, List.all_eq_true, Bool.or_eq_true, bne_iff_ne, ne_eq, List.any_eq_true, beq_iff_eq, decide_eq_true_eq] at this
    obtain ⟨_, h1, h2⟩ := this
    rcases h2 with ⟨q, hq, hqj⟩ | h2
    · exact .inl ⟨q, hq, hqj, ((h1 q hq).resolve_left (fun h => h hqj)).2⟩
    · refine .inr fun o d ho hd => ?_
      have ho' : ops[j]? = some o := ho
      simp only [ho', hd, Bool.and_eq_true, List.all_eq_true, bne_iff_ne, ne_eq] at h2
      obtain ⟨h3, h4⟩ := h2
      refine ⟨h3, ?_⟩
      obtain ⟨ch', hm, hw'⟩ := covered_won h4 (fun p hp => by simp at hp)
      obtain ⟨k, x, hx⟩ := keyc ch' _ hm hw'
      simp only [ev] at hx
      refine ⟨k, x, ?_⟩
      show look s.rho d = some (.d k (.bool x))
      rw [← hT.old d (fun hmm => by
        obtain ⟨p, hp, hpd⟩ := List.mem_map.1 hmm
        obtain ⟨r2, hr2, hm2⟩ := hs.made p hp
        unfold mkOf at hm2
        split at hm2
        · rename_i m2 d2 hk2 hd2
          simp only [Option.some.injEq] at hm2
          subst hm2
          simp only at hpd
          subst hpd
          exact h3 r2 hr2 hd2
        · cases hm2)]
      exact hx
  · obtain ⟨p, hp, rfl⟩ := List.mem_map.1 hd
    obtain ⟨r, hr, hm⟩ := hs.made p hp
    unfold mkOf at hm
    split at hm
    · rename_i m d hk hdd
      simp only [Option.some.injEq] at hm
      subst hm
      exact ⟨r, hr, hdd, by simp [Rec.isMk, hk]⟩
    · cases hm

end Go.Vm
end

section
namespace Go.Vm
open Go.RowKit

variable {c : Piece} {D : Nat → Prop} {a : Act} {w : World} {F : Nat → Prop} {σ : Nat → Option Loc} {g : Seg} {s' : S} {news : List Blk} {l : List (Nat × V)} {is : List Nat}

structure Full (c : Piece) (is : List Nat) (g : Seg) (s' : S) (news : List Blk) (l : List (Nat × V)) : Prop where
  ok : c.Ok
  seg : SegOk c.B c.P c.ops c.n is g c.R
  ended : Ended c.K c.s s' g c.s1 news l
  traced : Traced c.K c.s c.s1 news g.mks c.T
  mds : c.mds = g.mks.map (·.1)
  ef : c.ef = g.ef
  nxm : c.m ≤ c.s.nx
  xm : ∀ b k, c.X b k → b < c.m

structure Wrt (c : Piece) (g : Seg) (s' : S) (D : Nat → Prop) (a : Act) (w : World) (F : Nat → Prop) (σ : Nat → Option Loc) : Prop where
  rest : ∀ r ∈ c.R, ¬ D r.i → lateR g.late r = true
  heap : HeapRel w F c.X c.base σ s'.nx s'.heap
  glob : GlobRel w F c.K.glob
  le : c.base ≤ w.heap.size
  frame : Frame c.X c.base c.w0 w
  frz : ∀ b, F b → c.F0 b ∨ c.base ≤ b
  size : a.tmps.size = c.n
  dfr : a.defers = []
  rho : ∀ t v, look s'.rho t = some v → (∀ r ∈ c.R, ¬ D r.i → r.o.dst ≠ some t) → RepV w F c.base σ (a.tmps.getD t undef) v
  dom : ∀ b blk, look s'.heap b = some blk → b < s'.nx
  stab : ∀ b l, b < c.m → c.σ0 b = some l → b ∉ s'.mv → σ b = some l
  nxm : c.m ≤ s'.nx
  xm : ∀ b k, c.X b k → b < c.m
  sub : ∀ b, c.F0 b → F b
  ldone : ∀ q ∈ c.R, D q.i → lateR g.late q = true → ∀ d, q.o.dst = some d → ∀ v, ev c.K (clean c.s1) q.x = some v → RepV w F c.base σ (a.tmps.getD d undef) v
  lold : ∀ t v, look (clean c.s1).rho t = some v → (∀ r ∈ c.R, D r.i → r.o.dst ≠ some t) → RepV w F c.base σ (a.tmps.getD t undef) v

def Stage (c : Piece) (g : Seg) (s' : S) (D : Nat → Prop) (a : Act) (w : World) : Prop :=
  ((∀ r ∈ c.R, D r.i → r.isWr = false) ∧ ∃ F σ, Inv c D a w F σ) ∨ ((∃ r ∈ c.R, D r.i ∧ r.isWr = true) ∧ ∃ F σ, Wrt c g s' D a w F σ)

theorem late_parts {late : List E} {q : Rec} (h : lateR late q = true) : ∃ e, q.kd = .pure e ∧ q.x = e ∧ e ∈ late ∧ q.ch = [] ∧ q.o.guard = none ∧ (∀ c x y, q.o.op ≠ .pick c x y) ∧ q.isWr = false ∧ q.isMk = false := by
  unfold lateR at h
  split at h
  · rename_i e hk
    simp only [Bool.and_eq_true, decide_eq_true_eq, List.isEmpty_iff, Option.isNone_iff_eq_none] at h
    obtain ⟨⟨⟨h1, h2⟩, h3⟩, h4⟩ := h
    refine ⟨e, hk, by simp [Rec.x, hk], h1, h2, h3, fun c x y hp => ?_, by simp [Rec.isWr, hk], by simp [Rec.isMk, hk]⟩
    rw [hp] at h4
    cases h4
  · cases h

theorem loseV_own (p : Lost) {x : V} (h : x.own = false) : loseV p x = x := by
  have one : ∀ (P : Nat → Bool) (x : V), x.own1 = false → x.drop1 P = x := by
    intro P x hx
    cases x <;> first | rfl | (simp [V.own1] at hx)
  have all : ∀ (P : Nat → Bool) (x : V), x.own = false → x.forget P = x := by
    intro P x hx
    cases x with
    | agg cs =>
      simp only [V.own, List.any_eq_false] at hx
      simp only [V.forget, V.agg.injEq]
      have : cs.map (V.drop1 P) = cs.map id := List.map_congr_left fun v hv => one P v (by simpa using hx v hv)
      rw [this, List.map_id]
    | d c y => rfl
    | fs c k rows => rfl
    | fn f cs =>
      simp only [V.own, List.any_eq_false] at hx
      simp only [V.forget, V.drop1]
      rw [if_neg]
      simp only [List.any_eq_true, not_exists, not_and]
      intro v hv hr
      have := hx v hv
      cases v <;> simp [V.own1, V.ref0] at this hr
    | _ => simp [V.own, V.own1] at hx
  cases p with
  | none => rfl
  | some b => exact all _ _ h
  | many l => cases l <;> first | rfl | exact all _ _ h

theorem cleanV_look {s : S} {t : Nat} {v : V} (h : look (clean s).rho t = some v) : ∃ u, look s.rho t = some u ∧ (v = u ∧ u.own = false ∨ v = .junk) := by
  simp only [clean] at h
  rw [look_mapV, Option.map_eq_some_iff] at h
  obtain ⟨u, hu, rfl⟩ := h
  refine ⟨u, hu, ?_⟩
  cases u <;> first | exact .inl ⟨rfl, rfl⟩ | exact .inr rfl

theorem Full.nx (h : Full c is g s' news l) : c.s.nx ≤ c.s1.nx := by rw [h.traced.nx]; omega

theorem all_heap (h : Full c is g s' news l) (hi : Inv c D a w F σ) (hall : ∀ r ∈ c.R, r.isMk = true → D r.i) : HeapRel w F c.X c.base σ c.s1.nx (addBlks c.s.heap c.s.nx news) := by
  refine ⟨fun b blk hb => ?_, hi.heap.inj, hi.heap.own, hi.heap.fro⟩
  rw [look_addBlks] at hb
  split at hb
  · rename_i hr
    obtain ⟨d, m, v, n0, nw, j, hT, he, hj⟩ := h.traced.news _ _ hb
    have : b = n0 + j := by omega
    subst this
    have hmd : d ∈ c.mds := (h.ok.mds d).2 ⟨m, v, n0, nw, hT⟩
    obtain ⟨r, hr, hd, hm⟩ := h.ok.covers d hmd
    exact hi.made d m v n0 nw hT ⟨r, hr, hall r hr hm, hd⟩ j blk hj
  · exact hi.heap.blk b blk hb

theorem all_dom (h : Full c is g s' news l) : ∀ b blk, look (addBlks c.s.heap c.s.nx news) b = some blk → b < c.s1.nx := by
  intro b blk hb
  rw [look_addBlks] at hb
  split at hb
  · have := h.traced.nx; omega
  · have := h.ok.dom b blk hb; have := h.nx; omega

theorem all_rho (h : Full c is g s' news l) (hi : Inv c D a w F σ) (hall : ∀ r ∈ c.R, r.isMk = true → D r.i) (hwr : ∀ r ∈ c.R, D r.i → r.isWr = false) :
    ∀ t v, look (l ++ restrict c.s1.rho g.keep) t = some v → (∀ r ∈ c.R, ¬ D r.i → r.isWr = false → r.o.dst ≠ some t) → RepV w F c.base σ (a.tmps.getD t undef) v := by
  intro t v hv hnp
  rw [look_append] at hv
  cases hl : look l t with
  | some u =>
    rw [hl] at hv
    obtain rfl := Option.some.inj hv
    obtain ⟨e, he, hev⟩ := (evLets_get _ _ _ _ h.ended.lets).1 t u hl
    obtain ⟨r, hr, hd, hk, hch⟩ := h.seg.lets _ he
    have hw : r.isWr = false := by simp [Rec.isWr, hk]
    have hrD : D r.i := Classical.byContradiction fun hn => hnp r hr hn hw hd
    refine (hi.done r hr hrD t hd hw).1 (by rw [hch]; exact fun p hp => by simp at hp) u ?_
    have : r.x = e := by simp [Rec.x, hk]
    rw [this]
    exact hev
  | none =>
    rw [hl] at hv
    simp only at hv
    obtain ⟨hk, hv⟩ := look_restrict _ _ _ _ hv
    by_cases hm : t ∈ c.mds
    · obtain ⟨r, hr, hd, hmk⟩ := h.ok.covers t hm
      obtain ⟨later, done, _, hg⟩ := h.ok.good.split hr
      cases hg with
      | cons _ _ _ _ _ hch hn =>
        obtain ⟨_, _, hgu, _, _⟩ := okNext_parts hn
        have hgn : r.o.guard = none := by
          cases hgd : r.o.guard with
          | none => rfl
          | some jb => simp [okGuard, hgd, hmk] at hgu
        rw [hgn] at hch
        simp only [chainOf, Option.some.injEq] at hch
        have hw : r.isWr = false := by
          unfold Rec.isMk at hmk
          unfold Rec.isWr
          split at hmk
          · rename_i hk; rw [hk]
          · cases hmk
        refine (hi.done r hr (hall r hr hmk) t hd hw).1 (by rw [← hch]; exact fun p hp => by simp at hp) v ?_
        have : r.x = .sl t := by
          unfold Rec.isMk at hmk
          unfold Rec.x
          split at hmk
          · rename_i hk; rw [hk]; simp [hd]
          · cases hmk
        rw [this]
        simpa only [ev] using hv
    · rcases h.seg.keep t hk with h1 | h1
      · exact absurd (by rw [h.mds]; exact h1) hm
      · exact hi.old t v (by rw [← h.ok.old t hm]; exact hv) (fun r hr _ => h1 r hr)

theorem stage_end (h : Full c is g s' news l) (hs : Stage c g s' D a w) (hall : ∀ r ∈ c.R, D r.i) : ∃ F σ, StRel c.K c.X c.base c.w0 c.F0 c.m c.σ0 c.n s' a w F σ := by
  rcases hs with ⟨hno, F, σ, hi⟩ | ⟨_, hst⟩
  · refine ⟨F, σ, ?_⟩
    have hnone : g.wr = none := by
      rcases h.seg.wr with ⟨_, hw⟩ | ⟨r, done, x, hR, hk, _, _⟩
      · exact hw
      · have hr : r ∈ c.R := by rw [hR]; simp
        have := hno r hr (hall r hr)
        simp [Rec.isWr, hk] at this
    rcases h.ended.wr with ⟨_, he⟩ | ⟨d, wr, hw, _⟩ | ⟨d, wr, H, v, p, nx, hw, _⟩
    · have hall' : ∀ r ∈ c.R, r.isMk = true → D r.i := fun r hr _ => hall r hr
      subst he
      exact ⟨all_heap h hi hall', hi.glob, hi.le, hi.frame, hi.frz, hi.size, hi.dfr, fun t v hv => all_rho h hi hall' hno t v hv (fun r hr hn => absurd (hall r hr) hn), all_dom h, hi.stab, Nat.le_trans h.nxm h.nx, h.xm, hi.sub⟩
    · rw [hnone] at hw; cases hw
    · rw [hnone] at hw; cases hw
  · obtain ⟨F, σ, hw⟩ := hst
    exact ⟨F, σ, hw.heap, hw.glob, hw.le, hw.frame, hw.frz, hw.size, hw.dfr, fun t v hv => hw.rho t v hv (fun r hr hn => absurd (hall r hr) hn), hw.dom, hw.stab, hw.nxm, hw.xm, hw.sub⟩

theorem late_slot (h : Full c is g s' news l) {r : Rec} (hr : r ∈ c.R) (hl : lateR g.late r = true) {t : Nat} (hd : r.o.dst = some t) {u : V} (hu : look s'.rho t = some u) : ev c.K (clean c.s1) r.x = some u := by
  obtain ⟨e, hk, hx, hel, hch0, hgn, hnp, hwr, hmk⟩ := late_parts hl
  obtain ⟨val, hv1, hv2, hvo⟩ := h.ended.late e hel _ _ h.ended.mks
  have same : ∀ r2 ∈ c.R, r2.o.dst = some t → r2 = r := by
    intro r2 hr2 hd2
    by_cases hri : r2.i = r.i
    · exact h.ok.good.inj r2 hr2 r hr hri
    · exact absurd hd (dst_ne h.ok hr2 hr hri hd2)
  have base : ∀ u, look (l ++ restrict c.s1.rho g.keep) t = some u → u = val := by
    intro u hu
    rw [look_append] at hu
    cases hl2 : look l t with
    | some u2 =>
      rw [hl2] at hu
      obtain rfl := Option.some.inj hu
      obtain ⟨e2, he2, hev⟩ := (evLets_get _ _ _ _ h.ended.lets).1 t u2 hl2
      obtain ⟨r2, hr2, hd2, hk2, _⟩ := h.seg.lets _ he2
      obtain rfl := same r2 hr2 hd2
      rw [hk] at hk2
      simp only [Kd.pure.injEq] at hk2
      subst hk2
      rw [hv2] at hev
      exact (Option.some.inj hev).symm
    | none =>
      rw [hl2] at hu
      obtain ⟨hkp, _⟩ := look_restrict _ _ _ _ hu
      rcases h.seg.keep t hkp with h1 | h1
      · obtain ⟨r2, hr2, hd2, hm2⟩ := h.ok.covers t (by rw [h.mds]; exact h1)
        obtain rfl := same r2 hr2 hd2
        rw [hmk] at hm2; cases hm2
      · exact absurd hd (h1 r hr)
  have fin : ∀ u, u = val → ev c.K (clean c.s1) r.x = some u := fun u hu => by rw [hu, hx]; exact hv1
  rcases h.ended.wr with ⟨_, he⟩ | ⟨d, wr, hw0, _, he⟩ | ⟨d, wr, H, v, p, nx, hw0, _, _, he⟩
  · subst he; exact fin u (base u hu)
  · subst he; exact fin u (base u hu)
  · subst he
    have old : look (lose p (l ++ restrict c.s1.rho g.keep)) t = some u → ev c.K (clean c.s1) r.x = some u := by
      intro hu
      obtain ⟨y, hy, rfl⟩ := look_lose _ _ _ _ hu
      obtain rfl := base y hy
      exact fin _ (loseV_own p hvo)
    cases d with
    | none => exact old hu
    | some d =>
      simp only [look] at hu
      split at hu
      · rename_i hdt
        subst hdt
        rcases h.seg.wr with ⟨_, hn⟩ | ⟨r0, done, x0, hR0, hk0, hg0, _⟩
        · rw [hn] at hw0; cases hw0
        · rw [hg0] at hw0
          simp only [Option.some.injEq, Prod.mk.injEq] at hw0
          have h0 : r0 ∈ c.R := by rw [hR0]; simp
          obtain rfl := same r0 h0 hw0.1
          rw [hk0] at hk; cases hk
      · exact old hu

theorem held_late (h : Full c is g s' news l) (hw : Wrt c g s' D a w F σ) {r : Rec} {later done : List Rec} (hR : c.R = later ++ r :: done) (hg : Good c.B c.P c.ops c.mds c.ef c.n (r :: done)) (hD : ¬ D r.i) (hl : lateR g.late r = true) (hdown : ∀ q ∈ c.R, D q.i → ∀ p ∈ c.R, c.B p.i q.i = true → D p.i) (hpre : ∀ q ∈ c.R, c.B q.i r.i = true → D q.i)
    {x : Operand} (hx : (x, r.ch) ∈ needs c.P (envOf done) r.o r.ch) (hxo : x ∈ r.o.op.operands.toList) : Held c.P c.K (clean c.s1) (envOf done) w F c.base σ a x := by
  have hmem : r ∈ c.R := by rw [hR]; simp
  have hlN := h.seg.lateN r hmem hl
  cases hg with
  | cons _ _ hgd hop hkd hch hn =>
    obtain ⟨hneeds, hdst, _, _, hall⟩ := okNext_parts hn
    have hdone : ∀ q ∈ done, q ∈ c.R := fun q hq => by rw [hR]; simp [hq]
    cases x with
    | const v => exact held_const
    | global g => exact held_glob hw.glob
    | func f => exact held_func
    | tmp t =>
      have hreads : t ∈ reads r.o := by
        simp only [reads, List.mem_filterMap]
        exact ⟨.tmp t, hxo, rfl⟩
      refine held_tmp fun v hv => ?_
      simp only [okNeeds, List.all_eq_true] at hneeds
      have hnt := hneeds (.tmp t, r.ch) hx
      simp only at hnt
      rcases look_env (done := done) (t := t) with ⟨q, hq, hqd, hfind, hlook⟩ | ⟨hno, hfind, hlook⟩
      · rw [hfind] at hnt
        simp only [Bool.and_eq_true] at hnt
        have hget : Env.get (envOf done) t = q.x := by simp [Env.get, hlook]
        rw [hget] at hv
        have hqD := hpre q (hdone q hq) hnt.1
        exact hw.ldone q (hdone q hq) hqD (hlN t hreads q (hdone q hq) hqd (hall q hq).1) t hqd v hv
      · have hget : Env.get (envOf done) t = .sl t := by simp [Env.get, hlook]
        rw [hget] at hv
        simp only [ev] at hv
        refine hw.lold t v hv fun q hq hqD hqd => ?_
        rw [hR] at hq
        rcases List.mem_append.1 hq with hq | hq
        · obtain ⟨l1, l2, rfl⟩ := List.append_of_mem hq
          have hg2 : Good c.B c.P c.ops c.mds c.ef c.n (q :: (l2 ++ r :: done)) := by
            have := h.ok.good
            rw [hR] at this
            simp only [List.append_assoc, List.cons_append] at this
            exact this.suffix
          have hqR : q ∈ c.R := by rw [hR]; simp
          cases hg2 with
          | cons _ _ _ _ _ _ hn2 =>
            have h2 := (okNext_parts hn2).2.1
            simp only [okDst, hqd, Bool.and_eq_true, List.all_eq_true] at h2
            have h3 := (h2.1.2 r (by simp)).2
            simp only [Bool.or_eq_true, Bool.not_eq_true', Bool.and_eq_true] at h3
            rcases h3 with h3 | h3
            · rw [List.contains_eq_mem, decide_eq_false_iff_not] at h3
              exact absurd hreads h3
            · exact hD (hdown q hqR hqD r hmem h3.1)
        · rcases List.mem_cons.1 hq with rfl | hq
          · exact hD hqD
          · exact hno q hq hqd

theorem stage_step (h : Full c is g s' news l) (hs : Stage c g s' D a w) {r : Rec} (hr : r ∈ c.R) (hD : ¬ D r.i) (hdown : ∀ q ∈ c.R, D q.i → ∀ p ∈ c.R, c.B p.i q.i = true → D p.i) (hpre : ∀ q ∈ c.R, c.B q.i r.i = true → D q.i)
    {Kn : Act → World → Prop} {Q : Exit → Act → World → Prop} (hK : ∀ a w, Stage c g s' (plus D r.i) a w → Kn a w) : wpOp c.P c.ops Q r.i Kn a w := by
  -- a write comes last
  have lastwr : ∀ q ∈ c.R, q.isWr = true → ∀ p ∈ c.R, p ≠ q → p.isWr = false ∧ (c.B p.i q.i = true ∨ lateR g.late p = true) := by
    intro q hq hqw p hp hne
    rcases h.seg.wr with ⟨hn, _⟩ | ⟨r0, done, x, hR, hk, _, _, hb⟩
    · rw [hn q hq] at hqw; cases hqw
    · have hg := h.ok.good
      rw [hR] at hg hp hq
      cases hg with
      | cons _ _ _ _ _ _ hn =>
        obtain ⟨_, _, _, _, hall⟩ := okNext_parts hn
        have hq0 : q = r0 := by
          rcases List.mem_cons.1 hq with e | hq
          · exact e
          · rw [(hall q hq).2] at hqw; cases hqw
        subst hq0
        rcases List.mem_cons.1 hp with e | hp
        · exact absurd e hne
        · exact ⟨(hall p hp).2, hb p hp⟩
  rcases hs with ⟨hno, F, σ, hi⟩ | ⟨⟨q, hq, hqD, hqw⟩, F, σ, hw⟩
  · cases hw : r.isWr with
    | false =>
      refine step_op h.ok hi hr hw hD hdown hpre fun a w F σ hi' => hK a w (.inl ⟨fun q hq hqD => ?_, F, σ, hi'⟩)
      rcases hqD with hqD | hqi
      · exact hno q hq hqD
      · obtain rfl := h.ok.good.inj q hq r hr hqi
        exact hw
    | true =>
      have hall : ∀ q ∈ c.R, q.isMk = true → D q.i := by
        intro q hq hqm
        have hne : q ≠ r := by
          rintro rfl
          unfold Rec.isMk at hqm
          unfold Rec.isWr at hw
          split at hqm
          · rename_i hk; rw [hk] at hw; cases hw
          · cases hqm
        rcases (lastwr r hr hw q hq hne).2 with hb | hb
        · exact hpre q hq hb
        · rw [(late_parts hb).choose_spec.2.2.2.2.2.2.2] at hqm; cases hqm
      have hrest : ∀ q ∈ c.R, ¬ plus D r.i q.i → lateR g.late q = true := by
        intro q hq hqn
        have hne : q ≠ r := by rintro rfl; exact hqn (.inr rfl)
        rcases (lastwr r hr hw q hq hne).2 with hb | hb
        · exact absurd (.inl (hpre q hq hb)) hqn
        · exact hb
      have hnr : ∀ t, (∀ q ∈ c.R, ¬ plus D r.i q.i → q.o.dst ≠ some t) → ∀ q ∈ c.R, ¬ D q.i → q.isWr = false → q.o.dst ≠ some t := by
        intro t ht q hq hqD hqw
        refine ht q hq ?_
        rintro (h1 | h1)
        · exact hqD h1
        · obtain rfl := h.ok.good.inj q hq r hr h1
          rw [hw] at hqw; cases hqw
      have ldI : ∀ q ∈ c.R, plus D r.i q.i → lateR g.late q = true → ∀ d, q.o.dst = some d → r.o.dst ≠ some d ∧ ∀ v, ev c.K (clean c.s1) q.x = some v → RepV w F c.base σ (a.tmps.getD d undef) v ∧ v.own = false := by
        intro q hq hqD hl d hd
        obtain ⟨e, hk, hx, hel, hch0, hgn, hnp, hwr, hmk⟩ := late_parts hl
        have hne : q.i ≠ r.i := fun he => by
          obtain rfl := h.ok.good.inj q hq r hr he
          rw [hw] at hwr; cases hwr
        refine ⟨dst_ne h.ok hq hr hne hd, fun v hv => ?_⟩
        obtain ⟨val, hv1, hv2, hvo⟩ := h.ended.late e hel _ _ h.ended.mks
        rw [hx, hv1] at hv
        obtain rfl := Option.some.inj hv
        exact ⟨(hi.done q hq (hqD.resolve_right hne) d hd hwr).1 (by rw [hch0]; exact fun p hp => by simp at hp) _ (by rw [hx]; exact hv2), hvo⟩
      have loI : ∀ t v, look (clean c.s1).rho t = some v → (∀ q ∈ c.R, plus D r.i q.i → q.o.dst ≠ some t) → RepV w F c.base σ (a.tmps.getD t undef) v ∧ (v.own = false ∨ v = .junk) := by
        intro t v hv hno'
        obtain ⟨u, hu, hvu⟩ := cleanV_look hv
        rcases hvu with ⟨rfl, huo⟩ | rfl
        · refine ⟨hi.old t v ?_ (fun q hq hqD => hno' q hq (.inl hqD)), .inl huo⟩
          rw [← h.ok.old t fun hm => ?_]
          · exact hu
          · obtain ⟨q, hq, hqd, hqm⟩ := h.ok.covers t hm
            exact hno' q hq (.inl (hall q hq hqm)) hqd
        · exact ⟨.junk _, .inr rfl⟩
      have hput : ∀ (vv : Value) t, r.o.dst ≠ some t → (a.put r.o.dst vv).tmps.getD t undef = a.tmps.getD t undef := by
        intro vv t hne
        cases hd : r.o.dst with
        | none => rfl
        | some d => rw [getD_put (by rw [hi.size]; exact dst_lt h.ok hr hd), if_neg (fun e => hne (by rw [hd, e]))]
      have hheap := all_heap h hi hall
      have hrho := all_rho h hi hall hno
      have hdom := all_dom h
      obtain ⟨later, done, hR, hg⟩ := h.ok.good.split hr
      have hheld := fun x ch hx hxo hw => held_of h.ok hi (x := x) (ch := ch) hR hg hD hdown hpre hx hxo hw
      have hwant := wanted_iff h.ok hi hr hpre
      cases hg with
      | cons _ _ hgd hop hkd hch hn =>
        obtain ⟨_, hdst, hgu, _, _⟩ := okNext_parts hn
        unfold wpOp
        rw [hop]
        simp only
        obtain ⟨x, hk⟩ : ∃ x, r.kd = .wr x := by
          unfold Rec.isWr at hw
          split at hw
          · rename_i x hk; exact ⟨x, hk⟩
          · cases hw
        have hgw2 : g.wr = some (r.o.dst, x) ∧ g.wg = r.ch := by
          rcases h.seg.wr with ⟨hn, _⟩ | ⟨r0, done, x0, hR0, hk0, hg0, hg1, _⟩
          · rw [hn r hr] at hw; cases hw
          · have h0 : r0 ∈ c.R := by rw [hR0]; simp
            by_cases he : r0 = r
            · subst he
              rw [hk] at hk0
              simp only [Kd.wr.injEq] at hk0
              rw [hk0]
              exact ⟨hg0, hg1⟩
            · have := (lastwr r hr hw r0 h0 he).1
              simp [Rec.isWr, hk0] at this
        obtain ⟨hgw, hgc⟩ := hgw2
        rcases h.ended.wr with ⟨hn, _⟩ | ⟨d, wr, hw0, hwb, he⟩ | ⟨d, wr, H, v, p, nx, hw0, hwb, hev, he⟩
        · rw [hgw] at hn; cases hn
        · -- the write is not asked for
          rw [hgc] at hwb
          rw [if_neg (fun hh => wonB_false hwb (hwant.1 hh))]
          refine hK _ _ (.inr ⟨⟨r, hr, .inr rfl, hw⟩, F, σ, ?_⟩)
          subst he
          refine ⟨hrest, hheap, hi.glob, hi.le, hi.frame, hi.frz, by rw [size_put]; exact hi.size, by rw [defers_put]; exact hi.dfr, fun t u hu hnq => ?_, hdom, hi.stab, Nat.le_trans h.nxm h.nx, h.xm, hi.sub, fun q hq hqD hl d hd v hv => ?_, fun t v hv hno' => ?_⟩
          · have hne : r.o.dst ≠ some t := by
              intro hdt
              rw [look_append] at hu
              cases hl : look l t with
              | some u2 =>
                obtain ⟨e, he2, _⟩ := (evLets_get _ _ _ _ h.ended.lets).1 t u2 hl
                obtain ⟨r2, hr2, hd2, hk2, _⟩ := h.seg.lets _ he2
                have : r2 = r := by
                  by_cases hri : r2.i = r.i
                  · exact h.ok.good.inj r2 hr2 r hr hri
                  · exact absurd hdt (dst_ne h.ok hr2 hr hri hd2)
                rw [this, hk] at hk2
                cases hk2
              | none =>
                rw [hl] at hu
                obtain ⟨hkp, _⟩ := look_restrict _ _ _ _ hu
                rcases h.seg.keep t hkp with h1 | h1
                · obtain ⟨r2, hr2, hd2, hm2⟩ := h.ok.covers t (by rw [h.mds]; exact h1)
                  have : r2 = r := by
                    by_cases hri : r2.i = r.i
                    · exact h.ok.good.inj r2 hr2 r hr hri
                    · exact absurd hdt (dst_ne h.ok hr2 hr hri hd2)
                  rw [this] at hm2
                  simp [Rec.isMk, hk] at hm2
                · exact h1 r hr hdt
            rw [hput _ t hne]
            exact hrho t u hu (hnr t hnq)
          · obtain ⟨h1, h2⟩ := ldI q hq hqD hl d hd
            rw [hput _ d h1]
            exact (h2 v hv).1
          · rw [hput _ t (hno' r hr (.inr rfl))]
            exact (loI t v hv hno').1
        · rw [hgw] at hw0
          have hwon : Won c.K c.s1 r.ch := by rw [← hgc]; exact wonB_true hwb
          rw [if_pos (hwant.2 hwon)]
          refine .inl ?_
          simp only [Option.some.injEq, Prod.mk.injEq] at hw0
          obtain ⟨rfl, rfl⟩ := hw0
          have hops : ∀ y ∈ r.o.op.operands.toList, Held c.P c.K c.s1 (envOf done) w F c.base σ a y := by
            intro y hy
            refine hheld y r.ch ?_ hy hwon
            have hnp : ∀ cc x y, r.o.op ≠ .pick cc x y := by
              intro cc x y hp
              rw [hk] at hkd
              simp only [kdOf] at hkd
              split at hkd
              · cases hm : mkK c.P (envOf done) r.o <;> simp [hm] at hkd
              · split at hkd
                · simp [effK, hp] at hkd
                · split at hkd
                  · simp at hkd
                  · simp [wrK, storeK, appK, mapK, hp] at hkd
            unfold needs
            split
            · rename_i hp; exact absurd hp (hnp _ _ _)
            · exact List.mem_map.2 ⟨y, hy, rfl⟩
          have hwk : (∃ f e, x = .calle f e ∧ effK c.P (envOf done) r.o = some (f, e)) ∨ wrK c.P (envOf done) r.o = some x := by
            rw [hk] at hkd
            simp only [kdOf] at hkd
            split at hkd
            · cases hm : mkK c.P (envOf done) r.o <;> simp [hm] at hkd
            · split at hkd
              · cases hm : effK c.P (envOf done) r.o with
                | none => simp [hm] at hkd
                | some y =>
                  obtain ⟨f, e⟩ := y
                  simp only [hm, Option.map_some, Option.some.injEq, Kd.wr.injEq] at hkd
                  exact .inl ⟨f, e, hkd.symm, rfl⟩
              · split at hkd
                · simp at hkd
                · cases hm : wrK c.P (envOf done) r.o with
                  | none => simp [hm] at hkd
                  | some y =>
                    simp only [hm, Option.map_some, Option.some.injEq, Kd.wr.injEq] at hkd
                    exact .inr (by rw [hkd])
          obtain ⟨hdom', hnx'⟩ := evWr_dom hev hdom
          have fin : ∀ vv w' F' σ', Wrote w w' F F' c.X c.base σ σ' p nx H → (r.o.dst.isSome → RepV w' F' c.base σ' vv v) → Kn (a.put r.o.dst vv) w' := by
            intro vv w' F' σ' hwr hres
            refine hK _ _ (.inr ⟨⟨r, hr, .inr rfl, hw⟩, F', σ', ?_⟩)
            subst he
            have hFw : ∀ b, F b → F' b ∧ w'.heap[b]? = w.heap[b]? := hwr.froz
            refine ⟨hrest, hwr.heap, hi.glob.mono hFw, Nat.le_trans hi.le hwr.frame.size, hi.frame.trans hwr.frame, fun b hb => (hwr.newf b hb).elim (hi.frz b) .inr, by rw [size_put]; exact hi.size, by rw [defers_put]; exact hi.dfr, ?_, ?_, fun b l hb h0 hm => ?_, Nat.le_trans h.nxm (Nat.le_trans h.nx hnx'), h.xm, fun b hb => (hwr.froz b (hi.sub b hb)).1, fun q hq hqD hl d hd v hv => ?_, fun t v hv hno' => ?_⟩
            · intro t u hu hnq
              have old : ∀ u, r.o.dst ≠ some t → look (lose p (l ++ restrict c.s1.rho g.keep)) t = some u → RepV w' F' c.base σ' ((a.put r.o.dst vv).tmps.getD t undef) u := by
                intro u hne hu
                obtain ⟨y, hy, rfl⟩ := look_lose _ _ _ _ hu
                have hget : (a.put r.o.dst vv).tmps.getD t undef = a.tmps.getD t undef := by
                  cases hd : r.o.dst with
                  | none => rfl
                  | some d => rw [getD_put (by rw [hi.size]; exact dst_lt h.ok hr hd), if_neg (fun e => hne (by rw [hd, e]))]
                rw [hget]
                exact hwr.val _ _ (hrho t y hy (hnr t hnq))
              cases hd : r.o.dst with
              | none =>
                simp only [hd] at hu
                rw [hd] at old
                exact old u (by simp) hu
              | some d =>
                simp only [hd, look] at hu
                split at hu
                · rename_i hdt
                  subst hdt
                  obtain rfl := Option.some.inj hu
                  rw [getD_put (by rw [hi.size]; exact dst_lt h.ok hr hd), if_pos rfl]
                  exact hres (by rw [hd]; rfl)
                · rename_i hdt
                  rw [hd] at old
                  exact old u (by simpa using hdt) hu
            · intro b blk hb
              obtain ⟨y, hy⟩ := look_loseH _ _ _ _ hb
              exact hdom' b y hy
            · simp only [List.mem_append, not_or] at hm
              exact hwr.stab b l (hi.stab b l hb h0 hm.2) hm.1
            · obtain ⟨h1, h2⟩ := ldI q hq hqD hl d hd
              obtain ⟨h3, h4⟩ := h2 v hv
              rw [hput _ d h1, ← loseV_own p h4]
              exact hwr.val _ _ h3
            · obtain ⟨h3, h4⟩ := loI t v hv hno'
              rw [hput _ t (hno' r hr (.inr rfl))]
              rcases h4 with h4 | rfl
              · rw [← loseV_own p h4]
                exact hwr.val _ _ h3
              · exact .junk _
          rcases hwk with ⟨f, e, rfl, hek⟩ | hwk
          · exact eff_step hek hev hops h.ok.sound hheap hi.glob hi.le hdom fun vv w' F' σ' hwr hv => fin vv w' F' σ' hwr fun _ => hv
          unfold wrK at hwk
          cases hsk : storeK c.P (envOf done) r.o with
          | some q =>
            obtain ⟨n, ea, ee⟩ := q
            simp only [hsk, Option.some.injEq] at hwk
            subst hwk
            obtain rfl : c.s1.nx = nx := by
              have hev' := hev
              simp only [evWr] at hev'
              split at hev'
              · split at hev'
                · split at hev'
                  · split at hev'
                    · simp only [Option.some.injEq, Prod.mk.injEq] at hev'
                      exact hev'.2.2.2
                    · cases hev'
                  · cases hev'
                · cases hev'
              · cases hev'
            refine store_step hsk hev hops hheap fun w' hwr => fin undef w' F σ hwr fun hs => ?_
            -- a store has no result
            have : r.o.dst = none := by
              unfold storeK at hsk
              split at hsk
              · split at hsk
                · split at hsk
                  · rename_i hd; exact hd
                  · cases hsk
                · cases hsk
              · cases hsk
            rw [this] at hs; cases hs
          | none =>
            simp only [hsk] at hwk
            cases hak : appK c.P (envOf done) r.o with
            | none =>
              simp only [hak] at hwk
              obtain ⟨hp0, hnx0, hd0⟩ := map_facts hwk hev
              subst hnx0
              exact map_step hwk hev hops hheap fun w' hwr => fin undef w' F σ hwr fun hs => by rw [hd0] at hs; cases hs
            | some q =>
              obtain ⟨k, ea, eb⟩ := q
              simp only [hak, Option.some.injEq] at hwk
              subst hwk
              exact app_step hak hev hops hheap hi.le hdom fun vv w' σ' hwr hv => fin vv w' F σ' hwr fun _ => hv
  · -- the write has been: what is left looks into nothing that was written
    have hl := hw.rest r hr hD
    obtain ⟨e, hk, hx, hel, hch0, hgn, hnp, hwr, hmk⟩ := late_parts hl
    obtain ⟨val, hv1, hv2, hvo⟩ := h.ended.late e hel _ _ h.ended.mks
    obtain ⟨later, done, hR, hg⟩ := h.ok.good.split hr
    have hheld := fun x hx hxo => held_late h hw (x := x) hR hg hD hl hdown hpre hx hxo
    cases hg with
    | cons _ _ hgd hop hkd hch hn =>
      unfold wpOp
      rw [hop]
      simp only
      have hwant : Region.wanted r.o (yielded c.ops a.tmps) = true := by unfold Region.wanted; rw [hgn]
      rw [if_pos hwant]
      refine .inl ?_
      have hpe : pureE c.P (envOf done) r.o = some e := by
        rw [hk] at hkd
        simp only [kdOf] at hkd
        split at hkd
        · cases hm : mkK c.P (envOf done) r.o <;> simp [hm] at hkd
        · split at hkd
          · cases hm : effK c.P (envOf done) r.o <;> simp [hm] at hkd
          · split at hkd
            · rename_i h1
              simp only [Option.some.injEq, Kd.pure.injEq] at hkd
              rw [← hkd]
              exact h1
            · cases hm : wrK c.P (envOf done) r.o <;> simp [hm] at hkd
      have hH : HeapRel w F c.X c.base σ s'.nx (clean c.s1).heap := ⟨fun b blk hb => by simp [clean, look] at hb, hw.heap.inj, hw.heap.own, hw.heap.fro⟩
      refine pure_step (s := clean c.s1) hnp hpe hv1 (fun x hx => hheld x ?_ hx) hH hw.glob hw.le h.ok.sound fun v w' F' haf hRv => ?_
      · unfold needs
        split
        · rename_i hp; exact absurd hp (hnp _ _ _)
        · exact List.mem_map.2 ⟨x, hx, rfl⟩
      · have hFw : ∀ b, F b → F' b ∧ w'.heap[b]? = w.heap[b]? := fun b hb => ⟨haf.sub b hb, haf.below.block b (hw.heap.fro b hb)⟩
        have hval : ∀ v x, RepV w F c.base σ v x → RepV w' F' c.base σ v x := fun v x hx => hx.mono hFw (fun _ _ h => h)
        have hput : ∀ t, r.o.dst ≠ some t → (a.put r.o.dst v).tmps.getD t undef = a.tmps.getD t undef := by
          intro t hne
          cases hd : r.o.dst with
          | none => rfl
          | some d => rw [getD_put (by rw [hw.size]; exact dst_lt h.ok hr hd), if_neg (fun e => hne (by rw [hd, e]))]
        have hhas : ∀ t, r.o.dst = some t → (a.put r.o.dst v).tmps.getD t undef = v := by
          intro t hd
          rw [hd, getD_put (by rw [hw.size]; exact dst_lt h.ok hr hd), if_pos rfl]
        refine hK _ _ (.inr ⟨⟨q, hq, .inl hqD, hqw⟩, F', σ, ⟨fun p hp hn => hw.rest p hp (fun hd => hn (.inl hd)), hw.heap.after haf, hw.glob.mono hFw, Nat.le_trans hw.le haf.below.size, hw.frame.trans (.of_after haf hw.le), fun b hb => ?_, by rw [size_put]; exact hw.size, by rw [defers_put]; exact hw.dfr, fun t u hu hnq => ?_, hw.dom, hw.stab, hw.nxm, hw.xm, fun b hb => (hFw b (hw.sub b hb)).1, fun p hp hpD hlp d hd u hu => ?_, fun t u hu hno' => ?_⟩⟩)
        · rcases haf.old b hb with hb | hb
          · exact hw.frz b hb
          · exact .inr (Nat.le_trans hw.le hb)
        · by_cases hd : r.o.dst = some t
          · rw [hhas t hd]
            have := late_slot h hr hl hd hu
            rw [hx, hv1] at this
            obtain rfl := Option.some.inj this
            exact hRv
          · rw [hput t hd]
            refine hval _ _ (hw.rho t u hu fun p hp hpD => ?_)
            by_cases hpr : p.i = r.i
            · obtain rfl := h.ok.good.inj p hp r hr hpr
              exact hd
            · exact hnq p hp (fun h2 => h2.elim hpD hpr)
        · by_cases hpr : p.i = r.i
          · obtain rfl := h.ok.good.inj p hp r hr hpr
            rw [hhas d hd]
            rw [hx, hv1] at hu
            obtain rfl := Option.some.inj hu
            exact hRv
          · rw [hput d (dst_ne h.ok hp hr hpr hd)]
            exact hval _ _ (hw.ldone p hp (hpD.resolve_right hpr) hlp d hd u hu)
        · rw [hput t (hno' r hr (.inr rfl))]
          exact hval _ _ (hw.lold t u hu fun p hp hpD => hno' p hp (.inl hpD))

end Go.Vm
end

section
namespace Go.Vm
open Go.RowKit

def textOk (P : Program) (ops : Array Oper) (n : Nat) : Nat → List Seg → Bool
  | k, [] => k == ops.size
  | k, g :: r => segOk (fun i j => decide (i < j)) P ops n (List.range' k g.cnt) g && textOk P ops n (k + g.cnt) r

def edgesOf (o : Oper) : List Nat := (o.after.toList.filter (Region.binds .any)).map (·.on)
def tabB (tab : List (List Nat)) (i j : Nat) : Bool := (tab.getD j []).contains i
def tabOk (ops : List Oper) (tab : List (List Nat)) : Bool :=
  (ops.zipIdx).all fun (o, i) => (edgesOf o).all (fun j => decide (j < i)) && (tab.getD i []).all fun j => (edgesOf o).any fun e => e == j || (tab.getD e []).contains j
def drawnOks (P : Program) (ops : Array Oper) (n : Nat) (tab : List (List Nat)) : Nat → List Seg → Bool
  | k, [] => k == ops.size
  | k, g :: r => segOk (tabB tab) P ops n (List.range' k g.cnt) g && ((List.range' k (ops.size - k)).all fun i => (List.range k).all fun j => tabB tab j i) && drawnOks P ops n tab (k + g.cnt) r
def tabOf : List Seg → List (List Nat)
  | g :: _ => g.aux
  | [] => []
def drawnOk (P : Program) (ops : Array Oper) (n : Nat) (gs : List Seg) : Bool := drawnOks P ops n (tabOf gs) 0 gs && tabOk ops.toList (tabOf gs)

theorem recs_mem {B : Nat → Nat → Bool} {P : Program} {ops : Array Oper} {n : Nat} {is : List Nat} {g : Seg} {R : List Rec} (h : SegOk B P ops n is g R) (i : Nat) : (∃ r ∈ R, r.i = i) ↔ i ∈ is := by
  have := (recs_good is [] R .nil h.recs).2
  simp only [List.map_nil, List.append_nil] at this
  constructor
  · rintro ⟨r, hr, rfl⟩
    have : r.i ∈ R.map (·.i) := List.mem_map.2 ⟨r, hr, rfl⟩
    rw [‹R.map (·.i) = _›] at this
    simpa using this
  · intro hi
    have : i ∈ R.map (·.i) := by rw [this]; simpa using hi
    obtain ⟨r, hr, he⟩ := List.mem_map.1 this
    exact ⟨r, hr, he⟩

variable {P : Program} {K : Cx} {ops : Array Oper} {n : Nat} {X : Nat → Nat → Prop} {base : Nat} {w0 : World} {F0 : Nat → Prop} {m0 : Nat} {σ0 : Nat → Option Loc} {Q : Exit → Act → World → Prop}

theorem stage_start {B : Nat → Nat → Bool} {g : Seg} {R : List Rec} {s s' s1 : S} {news : List Blk} {T : Tr} {a : Act} {w : World} {F : Nat → Prop} {σ : Nat → Option Loc}
    (hT : Traced K s s1 news g.mks T) (hst : StRel K X base w0 F0 m0 σ0 n s a w F σ) :
    Stage (pieceOf P K ops B n R g s s1 T X base w0 F0 m0 σ0) g s' (fun _ => False) a w := by
  refine .inl ⟨fun _ _ h => h.elim, F, σ, ⟨⟨hst.heap.blk, hst.heap.inj, fun b l hb => ?_, hst.heap.fro⟩, hst.glob, hst.le, hst.frame, hst.frz, hst.size, hst.dfr, fun t v hv _ => hst.rho t v hv, fun _ _ h => h.elim, fun _ _ _ _ _ _ h => by obtain ⟨_, _, h, _⟩ := h; exact h.elim, fun d m v n0 nw hm _ b h1 h2 => ?_, hst.stab, hst.sub⟩⟩
  · obtain ⟨h1, h2⟩ := hst.heap.own b l hb
    have := hT.nx
    exact ⟨show b < s1.nx by omega, h2⟩
  · have h0 := (hT.evm d m v n0 nw hm).2.1
    cases hb : σ b with
    | none => rfl
    | some l =>
      have := (hst.heap.own b l hb).1
      omega

theorem full_of {B : Nat → Nat → Bool} {is : List Nat} {g : Seg} {s s' : S} (hok : segOk B P ops n is g = true) (hK : K.Sound P) (hev : evSeg K s g = some s') (hdom : ∀ b blk, look s.heap b = some blk → b < s.nx) (hnm : m0 ≤ s.nx) (hxm : ∀ b k, X b k → b < m0) :
    ∃ R s1 T news l, Full (pieceOf P K ops B n R g s s1 T X base w0 F0 m0 σ0) is g s' news l := by
  obtain ⟨R, hs⟩ := segOk_parts hok
  obtain ⟨s1, news, l, he⟩ := evSeg_parts hev
  obtain ⟨T, hT⟩ := traced K g.mks s s1 news hs.mks he.mks
  exact ⟨R, s1, T, news, l, ⟨piece_ok hs he hT hK hdom, hs, he, hT, rfl, rfl, hnm, hxm⟩⟩

theorem chunk {g : Seg} {c : Piece} {k : Nat} {s' : S} {news : List Blk} {l : List (Nat × V)} (hc : Full c (List.range' k g.cnt) g s' news l) (hB : c.B = fun i j => decide (i < j)) {ys : List Nat}
    (hys : ∀ a w F σ, StRel c.K c.X c.base c.w0 c.F0 c.m c.σ0 c.n s' a w F σ → wpOps c.P c.ops Q ys a w) : ∀ (m j : Nat) (a : Act) (w : World), j + m = g.cnt → Stage c g s' (fun i => k ≤ i ∧ i < k + j) a w → wpOps c.P c.ops Q (List.range' (k + j) m ++ ys) a w
  | 0, j, a, w, hj, hs => by
    obtain ⟨F, σ, hst⟩ := stage_end hc hs (fun r hr => by
      have := (recs_mem hc.seg r.i).1 ⟨r, hr, rfl⟩
      rw [List.mem_range'_1] at this
      constructor
      · exact this.1
      · have := this.2; omega)
    simpa using hys a w F σ hst
  | m + 1, j, a, w, hj, hs => by
    rw [List.range'_succ, List.cons_append, wpOps_cons]
    obtain ⟨r, hr, hri⟩ := (recs_mem hc.seg (k + j)).2 (by rw [List.mem_range'_1]; omega)
    have hmem : ∀ q ∈ c.R, k ≤ q.i ∧ q.i < k + g.cnt := fun q hq => by
      have := (recs_mem hc.seg q.i).1 ⟨q, hq, rfl⟩
      rwa [List.mem_range'_1] at this
    have := stage_step (Q := Q) (Kn := wpOps c.P c.ops Q (List.range' (k + j + 1) m ++ ys)) hc hs hr (by rw [hri]; omega) (fun q hq hqD p hp hpq => by
        rw [hB] at hpq
        simp only [decide_eq_true_eq] at hpq
        have := hmem p hp
        omega) (fun q hq hqr => by
        rw [hB] at hqr
        simp only [decide_eq_true_eq] at hqr
        have := hmem q hq
        omega) (fun a' w' hs' => by
        refine chunk hc hB hys m (j + 1) a' w' (by omega) ?_
        have : (fun i => k ≤ i ∧ i < k + (j + 1)) = plus (fun i => k ≤ i ∧ i < k + j) r.i := by
          funext i
          simp only [plus, hri, eq_iff_iff]
          omega
        rw [this]
        exact hs')
    rw [hri] at this
    exact this

theorem text_ops (hK : K.Sound P) : ∀ (gs : List Seg) (k : Nat) (s s' : S) (a : Act) (w : World) (F : Nat → Prop) (σ : Nat → Option Loc), textOk P ops n k gs = true → k ≤ ops.size → evSegs K s gs = some s' → StRel K X base w0 F0 m0 σ0 n s a w F σ →
    (∀ a w F σ, StRel K X base w0 F0 m0 σ0 n s' a w F σ → Q .normal a w) → wpOps P ops Q (List.range' k (ops.size - k)) a w
  | [], k, s, s', a, w, F, σ, hok, hk, hev, hst, hQ => by
    simp only [textOk, beq_iff_eq] at hok
    subst hok
    obtain rfl := Option.some.inj hev
    simp only [Nat.sub_self, List.range'_zero, wpOps]
    exact hQ _ _ _ _ hst
  | g :: gs, k, s, s', a, w, F, σ, hok, hk, hev, hst, hQ => by
    simp only [textOk, Bool.and_eq_true] at hok
    simp only [evSegs] at hev
    cases hg : evSeg K s g with
    | none => simp [hg] at hev
    | some s2 =>
      simp only [hg] at hev
      obtain ⟨R, s1, T, news, l, hf⟩ := full_of (X := X) (base := base) (w0 := w0) (F0 := F0) (m0 := m0) (σ0 := σ0) hok.1 hK hg hst.dom hst.nxm hst.xm
      have hle : ∀ (gs : List Seg) (k : Nat), textOk P ops n k gs = true → k ≤ ops.size := by
        intro gs
        induction gs with
        | nil => intro k h; simp only [textOk, beq_iff_eq] at h; omega
        | cons g gs ih =>
          intro k h
          simp only [textOk, Bool.and_eq_true] at h
          have := ih _ h.2
          omega
      have hk2 := hle gs _ hok.2
      have hsplit : List.range' k (ops.size - k) = List.range' (k + 0) g.cnt ++ List.range' (k + g.cnt) (ops.size - (k + g.cnt)) := by
        have : ops.size - k = g.cnt + (ops.size - (k + g.cnt)) := by omega
        rw [this, ← List.range'_append_1]
        simp
      rw [hsplit]
      refine chunk hf rfl (fun a w F σ hst2 => text_ops hK gs (k + g.cnt) s2 s' a w F σ hok.2 hk2 hev hst2 hQ) g.cnt 0 a w (by omega) ?_
      have : (fun i => k ≤ i ∧ i < k + 0) = fun _ => False := by
        funext i
        simp only [eq_iff_iff, iff_false]
        omega
      rw [this]
      exact stage_start hf.traced hst

theorem text_region {id : Nat} {gs : List Seg} {s s' : S} {a : Act} {w : World} {F : Nat → Prop} {σ : Nat → Option Loc} (hK : K.Sound P) (hok : textOk P ops n 0 gs = true) (hev : evSegs K s gs = some s') (hst : StRel K X base w0 F0 m0 σ0 n s a w F σ)
    (hQ : ∀ a w F σ, StRel K X base w0 F0 m0 σ0 n s' a w F σ → Q .normal a w) : (Code.region id ops false).wp P Q a w := by
  refine wp_region ?_
  have := text_ops (Q := Q) hK gs 0 s s' a w F σ hok (Nat.zero_le _) hev hst hQ
  rw [List.range_eq_range']
  simpa using this

theorem RepV.world {w w' : World} {F : Nat → Prop} {σ : Nat → Option Loc} (h : w'.heap = w.heap) {v : Value} {x : V} (hR : RepV w F base σ v x) : RepV w' F base σ v x :=
  hR.mono (fun _ hb => ⟨hb, by rw [h]⟩) (fun _ _ h => h)

theorem StRel.drawn {s : S} {a : Act} {w : World} {F : Nat → Prop} {σ : Nat → Option Loc} (h : StRel K X base w0 F0 m0 σ0 n s a w F σ) (m : Nat) : StRel K X base w0 F0 m0 σ0 n s a { w with drawn := m } F σ := by
  have hF : ∀ b, F b → F b ∧ ({ w with drawn := m } : World).heap[b]? = w.heap[b]? := fun b hb => ⟨hb, rfl⟩
  exact ⟨⟨fun b blk hb => (h.heap.blk b blk hb).mono hF (fun _ _ h => h) (fun h => h) (fun _ _ => rfl), h.heap.inj, h.heap.own, h.heap.fro⟩, h.glob.mono hF, h.le, ⟨h.frame.os, h.frame.tape, h.frame.output, h.frame.size, h.frame.block⟩, h.frz, h.size, h.dfr, fun t v hv => (h.rho t v hv).mono hF (fun _ _ h => h), h.dom, h.stab, h.nxm, h.xm, h.sub⟩

theorem mem_ready {listed : Array Bool} {i : Nat} : i ∈ Region.ready .any ops listed ↔ i < ops.size ∧ listed.getD i true = false ∧ ∃ o, ops[i]? = some o ∧ ∀ j ∈ edgesOf o, listed.getD j false = true := by
  unfold Region.ready
  simp only [List.mem_filter, List.mem_range, Bool.and_eq_true, Bool.not_eq_true']
  constructor
  · rintro ⟨h1, h2, h3⟩
    refine ⟨h1, h2, ops[i], by simp [h1], fun j hj => ?_⟩
    simp only [edgesOf, List.mem_map, List.mem_filter] at hj
    obtain ⟨e, ⟨he, hb⟩, rfl⟩ := hj
    simp only [h1, getElem?_pos, Option.map_some, Option.getD_some] at h3
    rw [Array.all_eq_true'] at h3
    have := h3 e (by simpa using he)
    simpa [hb] using this
  · rintro ⟨h1, h2, o, ho, h3⟩
    refine ⟨h1, h2, ?_⟩
    rw [ho]
    simp only [Option.map_some, Option.getD_some]
    rw [Array.all_eq_true']
    intro e he
    cases hb : Region.binds .any e with
    | false => simp
    | true =>
      simp only [Bool.not_true, Bool.false_or]
      exact h3 e.on (by simp only [edgesOf, List.mem_map, List.mem_filter]; exact ⟨e, ⟨by simpa using he, hb⟩, rfl⟩)

structure Tab (ops : Array Oper) (tab : List (List Nat)) : Prop where
  lt : ∀ i o, ops[i]? = some o → ∀ j ∈ edgesOf o, j < i
  clo : ∀ i o, ops[i]? = some o → ∀ j ∈ tab.getD i [], ∃ e ∈ edgesOf o, e = j ∨ j ∈ tab.getD e []

theorem tab_of {tab : List (List Nat)} (h : tabOk ops.toList tab = true) : Tab ops tab := by
  simp only [tabOk, List.all_eq_true, Bool.and_eq_true, decide_eq_true_eq, List.any_eq_true, Bool.or_eq_true, beq_iff_eq, List.contains_eq_mem] at h
  have get : ∀ i o, ops[i]? = some o → (o, i) ∈ ops.toList.zipIdx := fun i o ho => by
    rw [List.mem_iff_getElem?]
    refine ⟨i, ?_⟩
    rw [List.getElem?_zipIdx]
    simp [ho]
  exact ⟨fun i o ho j hj => (h (o, i) (get i o ho)).1 j hj, fun i o ho j hj => (h (o, i) (get i o ho)).2 j hj⟩

def unlisted (listed : Array Bool) (m : Nat) : Nat := ((List.range m).filter fun i => !listed.getD i true).length

theorem getD_set (listed : Array Bool) (i j : Nat) (hi : i < listed.size) (d : Bool) : (listed.setIfInBounds i true).getD j d = if j = i then true else listed.getD j d := by
  simp only [Array.getD_eq_getD_getElem?]
  by_cases h : j = i
  · subst h; simp [hi]
  · rw [if_neg h, Array.getElem?_setIfInBounds_ne (fun e => h e.symm)]

theorem dd_eq (listed : Array Bool) (i : Nat) (h1 : listed.size = ops.size) (h2 : i < ops.size) : listed.getD i true = listed.getD i false := by
  simp only [Array.getD_eq_getD_getElem?]
  have : i < listed.size := by omega
  simp [this]

theorem noready {tab : List (List Nat)} (ht : Tab ops tab) (listed : Array Bool) (hsz : listed.size = ops.size) (hr : Region.ready .any ops listed = []) : ∀ i, i < ops.size → listed.getD i false = true := by
  intro i
  induction i using Nat.strongRecOn with
  | _ i ih =>
    intro hi
    cases hl : listed.getD i false with
    | true => rfl
    | false =>
      have hm : i ∈ Region.ready .any ops listed := mem_ready.2 ⟨hi, by rw [dd_eq listed i hsz hi]; exact hl, ops[i], by simp [hi], fun j hj => by
        have := ht.lt i ops[i] (by simp [hi]) j hj
        exact ih j this (by omega)⟩
      rw [hr] at hm
      simp at hm

theorem Stage.congr {c : Piece} {g : Seg} {s' : S} {D D' : Nat → Prop} {a : Act} {w : World} (h : ∀ r ∈ c.R, D r.i ↔ D' r.i) (hs : Stage c g s' D a w) : Stage c g s' D' a w := by
  rcases hs with ⟨hno, F, σ, hi⟩ | ⟨⟨r, hr, hD, hw⟩, hst⟩
  · refine .inl ⟨fun r hr hD => hno r hr ((h r hr).2 hD), F, σ, ⟨hi.heap, hi.glob, hi.le, hi.frame, hi.frz, hi.size, hi.dfr, fun t v hv hn => hi.old t v hv (fun r hr hD => hn r hr ((h r hr).1 hD)), fun r hr hD => hi.done r hr ((h r hr).2 hD), ?_, ?_, hi.stab, hi.sub⟩⟩
    · rintro d m v n0 nw hT ⟨r, hr, hD, hd⟩
      exact hi.made d m v n0 nw hT ⟨r, hr, (h r hr).2 hD, hd⟩
    · intro d m v n0 nw hT hn
      exact hi.unmade d m v n0 nw hT (fun r hr hD => hn r hr ((h r hr).1 hD))
  · obtain ⟨F, σ, hi⟩ := hst
    exact .inr ⟨⟨r, hr, (h r hr).1 hD, hw⟩, F, σ, ⟨fun r hr hD => hi.rest r hr (fun hD' => hD ((h r hr).1 hD')), hi.heap, hi.glob, hi.le, hi.frame, hi.frz, hi.size, hi.dfr, fun t v hv hn => hi.rho t v hv (fun r hr hD => hn r hr (fun hD' => hD ((h r hr).2 hD'))), hi.dom, hi.stab, hi.nxm, hi.xm, hi.sub, fun q hq hD => hi.ldone q hq ((h q hq).2 hD), fun t v hv hn => hi.lold t v hv (fun r hr hD => hn r hr ((h r hr).1 hD))⟩⟩

theorem any_chunk {tab : List (List Nat)} (ht : Tab ops tab) {g : Seg} {c : Piece} {k : Nat} {s' : S} {news : List Blk} {l : List (Nat × V)} (hc : Full c (List.range' k g.cnt) g s' news l) (hops : c.ops = ops) (hB : c.B = tabB tab)
    (hbar : ∀ i, k + g.cnt ≤ i → i < ops.size → ∀ j, j < k + g.cnt → tabB tab j i = true) (hkc : k + g.cnt ≤ ops.size)
    (hrest : ∀ (fuel : Nat) (listed : Array Bool) (a : Act) (w : World) (F : Nat → Prop) (σ : Nat → Option Loc), listed.size = ops.size → unlisted listed ops.size ≤ fuel → (∀ i, i < k + g.cnt → listed.getD i false = true) → (∀ i, k + g.cnt ≤ i → listed.getD i false = false) →
      StRel c.K c.X c.base c.w0 c.F0 c.m c.σ0 c.n s' a w F σ → wpAny c.P .any ops Q fuel listed a w) :
    ∀ (fuel : Nat) (listed : Array Bool) (a : Act) (w : World), listed.size = ops.size → unlisted listed ops.size ≤ fuel → (∀ i, i < k → listed.getD i false = true) → (∀ i, k + g.cnt ≤ i → listed.getD i false = false) →
      (∀ i, i < ops.size → listed.getD i false = true → ∀ j, tabB tab j i = true → listed.getD j false = true) → Stage c g s' (fun i => listed.getD i false = true) a w → wpAny c.P .any ops Q fuel listed a w := by
  have hmem : ∀ q ∈ c.R, k ≤ q.i ∧ q.i < k + g.cnt := fun q hq => by
    have := (recs_mem hc.seg q.i).1 ⟨q, hq, rfl⟩
    rwa [List.mem_range'_1] at this
  intro fuel
  induction fuel with
  | zero =>
    intro listed a w hsz hfuel hlo hhi hdown hs
    have hall : ∀ i, i < ops.size → listed.getD i false = true := by
      intro i hi
      cases hl : listed.getD i false with
      | true => rfl
      | false =>
        have hm : i ∈ (List.range ops.size).filter fun i => !listed.getD i true := by
          simp only [List.mem_filter, List.mem_range, Bool.not_eq_true']
          exact ⟨hi, by rw [dd_eq listed i hsz hi]; exact hl⟩
        have : 0 < unlisted listed ops.size := List.length_pos_of_mem hm
        omega
    obtain ⟨F, σ, hst⟩ := stage_end hc hs (fun r hr => hall r.i (by have := hmem r hr; omega))
    exact hrest 0 listed a w F σ hsz hfuel (fun i hi => hall i (by omega)) hhi hst
  | succ fuel ih =>
    intro listed a w hsz hfuel hlo hhi hdown hs
    by_cases hall : ∀ i, i < k + g.cnt → listed.getD i false = true
    · obtain ⟨F, σ, hst⟩ := stage_end hc hs (fun r hr => hall r.i (hmem r hr).2)
      exact hrest (fuel + 1) listed a w F σ hsz hfuel hall hhi hst
    · refine ⟨fun hr => absurd (fun i hi => noready ht listed hsz hr i (by omega)) hall, fun i hi => ?_⟩
      obtain ⟨h1, h2, o, ho, h3⟩ := mem_ready.1 hi
      rw [dd_eq listed i hsz h1] at h2
      have hpre : ∀ j, tabB tab j i = true → listed.getD j false = true := by
        intro j hj
        simp only [tabB, List.contains_eq_mem, decide_eq_true_eq] at hj
        obtain ⟨e, he, h4⟩ := ht.clo i o ho j hj
        rcases h4 with rfl | h4
        · exact h3 _ he
        · exact hdown e (by have := ht.lt i o ho e he; omega) (h3 e he) j (by simpa [tabB] using h4)
      have hki : k ≤ i := by
        rcases Nat.lt_or_ge i k with h | h
        · rw [hlo i h] at h2; cases h2
        · exact h
      have hik : i < k + g.cnt := by
        rcases Nat.lt_or_ge i (k + g.cnt) with h | h
        · exact h
        · exact absurd (fun j hj => hpre j (hbar i h h1 j hj)) hall
      obtain ⟨r, hr, hri⟩ := (recs_mem hc.seg i).2 (by rw [List.mem_range'_1]; omega)
      subst hri
      have hlt : r.i < listed.size := by omega
      have hstep := stage_step (Q := Q) (Kn := wpAny c.P .any ops Q fuel (listed.setIfInBounds r.i true)) hc hs hr (by simp only [h2]; simp) (fun q hq hqD p hp hpq => by
          rw [hB] at hpq
          exact hdown q.i (by have := hmem q hq; omega) hqD p.i hpq) (fun q hq hqr => by
          rw [hB] at hqr
          exact hpre q.i hqr) (fun a' w' hs' => by
          refine ih _ a' w' (by simpa using hsz) ?_ (fun x hx => ?_) (fun x hx => ?_) ?_ ?_
          · have : unlisted (listed.setIfInBounds r.i true) ops.size < unlisted listed ops.size := by
              unfold unlisted
              have hsub : ((List.range ops.size).filter fun i => !(listed.setIfInBounds r.i true).getD i true) = ((List.range ops.size).filter fun i => !listed.getD i true).filter fun i => decide (i ≠ r.i) := by
                rw [List.filter_filter]
                refine List.filter_congr fun x _ => ?_
                rw [getD_set listed r.i x hlt]
                by_cases hx : x = r.i
                · simp [hx]
                · simp [hx]
              rw [hsub]
              have hm : r.i ∈ (List.range ops.size).filter fun i => !listed.getD i true := by
                simp only [List.mem_filter, List.mem_range, Bool.not_eq_true']
                exact ⟨h1, by rw [dd_eq listed r.i hsz h1]; exact h2⟩
              exact List.length_filter_lt_length_iff_exists.2 ⟨r.i, hm, by simp⟩
            omega
          · rw [getD_set listed r.i x hlt]
            split
            · rfl
            · exact hlo x hx
          · rw [getD_set listed r.i x hlt, if_neg (by omega)]
            exact hhi x hx
          · intro x hx hxl j hj
            rw [getD_set listed r.i x hlt] at hxl
            rw [getD_set listed r.i j hlt]
            split
            · rfl
            · split at hxl
              · rename_i hxr
                subst hxr
                exact hpre j hj
              · exact hdown x hx hxl j hj
          · have : (fun i => (listed.setIfInBounds r.i true).getD i false = true) = plus (fun i => listed.getD i false = true) r.i := by
              funext i
              rw [getD_set listed r.i i hlt]
              simp only [plus, eq_iff_iff]
              by_cases hi : i = r.i <;> simp [hi]
            rw [this]
            exact hs')
      rw [hops] at hstep
      exact hstep

theorem any_ops (hK : K.Sound P) {tab : List (List Nat)} (ht : Tab ops tab) : ∀ (gs : List Seg) (k : Nat) (s s' : S), drawnOks P ops n tab k gs = true → evSegs K s gs = some s' → (∀ a w F σ, StRel K X base w0 F0 m0 σ0 n s' a w F σ → Q .normal a w) →
    ∀ (fuel : Nat) (listed : Array Bool) (a : Act) (w : World) (F : Nat → Prop) (σ : Nat → Option Loc), listed.size = ops.size → unlisted listed ops.size ≤ fuel → (∀ i, i < k → listed.getD i false = true) → (∀ i, k ≤ i → listed.getD i false = false) → StRel K X base w0 F0 m0 σ0 n s a w F σ → wpAny P .any ops Q fuel listed a w
  | [], k, s, s', hok, hev, hQ, fuel, listed, a, w, F, σ, hsz, hfuel, hlo, hhi, hst => by
    simp only [drawnOks, beq_iff_eq] at hok
    subst hok
    obtain rfl := Option.some.inj hev
    have hr : Region.ready .any ops listed = [] := by
      cases hr : Region.ready .any ops listed with
      | nil => rfl
      | cons i t =>
        have : i ∈ Region.ready .any ops listed := by rw [hr]; simp
        obtain ⟨h1, h2, _⟩ := mem_ready.1 this
        rw [dd_eq listed i hsz h1, hlo i h1] at h2
        cases h2
    cases fuel with
    | zero => exact ⟨hr, hQ _ _ _ _ hst⟩
    | succ fuel => exact ⟨fun _ => hQ _ _ _ _ hst, fun i hi => by rw [hr] at hi; simp at hi⟩
  | g :: gs, k, s, s', hok, hev, hQ, fuel, listed, a, w, F, σ, hsz, hfuel, hlo, hhi, hst => by
    simp only [drawnOks, Bool.and_eq_true] at hok
    obtain ⟨⟨hok1, hok2⟩, hok3⟩ := hok
    simp only [evSegs] at hev
    cases hg : evSeg K s g with
    | none => simp [hg] at hev
    | some s2 =>
      simp only [hg] at hev
      obtain ⟨R, s1, T, news, l, hf⟩ := full_of (X := X) (base := base) (w0 := w0) (F0 := F0) (m0 := m0) (σ0 := σ0) hok1 hK hg hst.dom hst.nxm hst.xm
      have hle : ∀ (gs : List Seg) (k : Nat), drawnOks P ops n tab k gs = true → k ≤ ops.size := by
        intro gs
        induction gs with
        | nil => intro k h; simp only [drawnOks, beq_iff_eq] at h; omega
        | cons g gs ih =>
          intro k h
          simp only [drawnOks, Bool.and_eq_true] at h
          have := ih _ h.2
          omega
      have hbar : ∀ i, k + g.cnt ≤ i → i < ops.size → ∀ j, j < k + g.cnt → tabB tab j i = true := by
        intro i h1 h2 j hj
        cases gs with
        | nil =>
          simp only [drawnOks, beq_iff_eq] at hok3
          omega
        | cons g2 gs2 =>
          simp only [drawnOks, Bool.and_eq_true, List.all_eq_true] at hok3
          exact hok3.1.2 i (by rw [List.mem_range'_1]; omega) j (by simpa using hj)
      refine any_chunk ht hf rfl rfl hbar (hle _ _ hok3) (fun fuel listed a w F σ h1 h2 h3 h4 hst2 => any_ops hK ht gs (k + g.cnt) s2 s' hok3 hev hQ fuel listed a w F σ h1 h2 h3 h4 hst2) fuel listed a w hsz hfuel hlo (fun i hi => hhi i (by omega)) (fun i hi hil j hj => ?_) ?_
      · -- what is listed is of earlier chunks: so is all ahead of it
        have hik : i < k := by
          rcases Nat.lt_or_ge i k with h | h
          · exact h
          · rw [hhi i h] at hil; cases hil
        have hclo : ∀ i, i < ops.size → ∀ j, tabB tab j i = true → j < i := by
          intro i
          induction i using Nat.strongRecOn with
          | _ i ih =>
            intro hi j hj
            simp only [tabB, List.contains_eq_mem, decide_eq_true_eq] at hj
            obtain ⟨e, he, h4⟩ := ht.clo i ops[i] (by simp [hi]) j hj
            have hei := ht.lt i ops[i] (by simp [hi]) e he
            rcases h4 with rfl | h4
            · exact hei
            · have := ih e hei (by omega) j (by simpa [tabB] using h4)
              omega
        exact hlo j (by have := hclo i hi j hj; omega)
      · refine (stage_start (P := P) (ops := ops) (B := tabB tab) (R := R) (s' := s2) hf.traced hst).congr (fun r hr => ?_)
        have := (recs_mem hf.seg r.i).1 ⟨r, hr, rfl⟩
        rw [List.mem_range'_1] at this
        rw [hhi r.i this.1]
        simp

theorem drawn_region {id : Nat} {gs : List Seg} {s s' : S} {a : Act} {w : World} {F : Nat → Prop} {σ : Nat → Option Loc} (hm : P.follows .mixedOrders = true) (hK : K.Sound P) (hok : drawnOk P ops n gs = true) (hev : evSegs K s gs = some s') (hst : StRel K X base w0 F0 m0 σ0 n s a w F σ)
    (hQ : ∀ a w F σ, StRel K X base w0 F0 m0 σ0 n s' a w F σ → Q .normal a w) : (Code.region id ops true).wp P Q a w := by
  simp only [drawnOk, Bool.and_eq_true] at hok
  refine wp_region_any hm ?_
  have hno : ∀ i, (Array.replicate ops.size false).getD i false = false := by
    intro i
    simp only [Array.getD_eq_getD_getElem?, Array.getElem?_replicate]
    split <;> rfl
  refine any_ops hK (tab_of hok.2) gs 0 s s' hok.1 hev hQ ops.size _ a _ F σ (by simp) ?_ (fun i hi => by omega) (fun i _ => hno i) (hst.drawn _)
  unfold unlisted
  refine Nat.le_trans (List.length_filter_le _ _) ?_
  simp

end Go.Vm
end

section
namespace Go.Vm
open Go.RowKit

variable {P : Program} {K : Cx} {ops : Array Oper} {n : Nat} {X : Nat → Nat → Prop} {base : Nat} {w0 : World} {F0 : Nat → Prop} {m0 : Nat} {σ0 : Nat → Option Loc}

theorem frz_val {w : World} {F : Nat → Prop} {σ σ' : Nat → Option Loc} {nx : Nat} {H : List (Nat × Blk)} (hH : HeapRel w F X base σ nx H) {b n k : Nat} {c : Bool} {rows : List (List D)} {l : Loc} (hb : look H b = some (.dat c k rows)) (hl : σ b = some l) (hn : n = rows.length) (h0 : 0 < n) (hbase : base ≤ l.blk) {v : Value} (hv : RepV w F base σ v (.bsl b 0 n)) :
    RepV w (fun x => F x ∨ x = l.blk) base σ' v (.d c (.sl k rows)) := by
  have hin : col (fun x => F x ∨ x = l.blk) base c l.blk := by
    cases c
    · exact .inr rfl
    · exact ⟨.inr rfl, hbase⟩
  refine .d _ _ _ ?_
  cases hv with
  | bsl0 => omega
  | bsl _ _ _ cap l' hl' h1 h2 =>
    obtain rfl : l = l' := by rw [hl] at hl'; exact Option.some.inj hl'
    have cells : ∀ i r, rows[i]? = some r → l.k = k ∧ r.length = k ∧ ∀ (j : Nat) (d : D), r[j]? = some d → ∃ u, w.cell? ⟨l.blk, i * l.k + j, none⟩ = some u ∧ RepV w F base σ u (mkd c d) := by
      intro i r hr
      obtain ⟨e1, e2, e3⟩ := row_cells hH hb hl (i := i) (row := r.map (mkd c)) (by simp [Blk.row?, hr])
      simp only [Blk.k] at e1
      refine ⟨e1, by simpa [e1] using e2, fun j d hd => ?_⟩
      obtain ⟨u, hu, _, hR⟩ := e3 j (mkd c d) (by simp [hd])
      exact ⟨u, hu, hR⟩
    refine .sl _ _ _ _ k _ (fun i j => (w.cell? ⟨l.blk, i * l.k + j, none⟩).getD undef) hn.symm h1 hin (fun r hr => ?_) (fun i j r d hr hd => ?_) (fun i j r d hr hd => ?_)
    · obtain ⟨i, hi⟩ := List.getElem?_of_mem hr
      exact (cells i r hi).2.1
    · obtain ⟨e1, _, e3⟩ := cells i r hr
      obtain ⟨u, hu, _⟩ := e3 j d hd
      rw [hu, ← e1]
      simp only [Option.getD_some]
      rw [← hu]
      congr 2
      omega
    · obtain ⟨e1, _, e3⟩ := cells i r hr
      obtain ⟨u, hu, hR⟩ := e3 j d hd
      rw [hu]
      simp only [Option.getD_some]
      unfold mkd at hR
      split at hR
      · rename_i hf
        cases hR with
        | d _ _ _ h => exact h.flat hf
      · cases hR with
        | d _ _ _ h => exact h.mono fun a ha => ⟨by
            cases c
            · exact .inl ha
            · exact ⟨.inl ha.1, ha.2⟩, rfl⟩

theorem StRel.freeze {s : S} {a : Act} {w : World} {F : Nat → Prop} {σ : Nat → Option Loc} (t j : Nat) (h : StRel K X base w0 F0 m0 σ0 n s a w F σ) : ∃ F' σ', StRel K X base w0 F0 m0 σ0 n (frzS m0 t j s) a w F' σ' := by
  unfold frzS
  split
  case h_2 => exact ⟨F, σ, h⟩
  rename_i b hb
  split
  case h_2 => exact ⟨F, σ, h⟩
  rename_i k row hrow
  split
  case h_2 => exact ⟨F, σ, h⟩
  rename_i b' nn hj
  split
  case h_2 => exact ⟨F, σ, h⟩
  rename_i c k' rows hb'
  split
  case isFalse => exact ⟨F, σ, h⟩
  rename_i hc
  obtain ⟨hn, h0, hm, hne⟩ := hc
  have hl : ∃ l, σ b' = some l := by
    rcases h.heap.blk b' _ hb' with ⟨hz, _⟩ | ⟨l, _, _, _, _, hl, _⟩ | ⟨l, _, _, hl, _⟩
    · simp [Blk.n] at hz; rw [hz] at hn; simp at hn; omega
    · exact ⟨l, hl⟩
    · exact ⟨l, hl⟩
  obtain ⟨l, hl⟩ := hl
  obtain ⟨o1, o2, o3, o4⟩ := h.heap.own b' l hl
  have hbase : base ≤ l.blk := by
    rcases o3 with o3 | o3
    · exact o3
    · have := h.xm _ _ o3; omega
  have hF : ∀ x, F x → (F x ∨ x = l.blk) ∧ w.heap[x]? = w.heap[x]? := fun x hx => ⟨.inl hx, rfl⟩
  let σ' : Nat → Option Loc := fun i => if i = b' then none else σ i
  have hσ : ∀ i l, σ i = some l → (i == b') = false → σ' i = some l := fun i l hi hp => by
    show (if i = b' then none else σ i) = _
    rw [if_neg (by simpa using hp)]; exact hi
  have hσ' : ∀ i l0, σ' i = some l0 → i ≠ b' ∧ σ i = some l0 := fun i l0 hi => by
    change (if i = b' then none else σ i) = _ at hi
    split at hi
    · cases hi
    · exact ⟨‹_›, hi⟩
  have hσn : ∀ i, i ≠ b' → σ' i = σ i := fun i hi => by
    show (if i = b' then none else σ i) = _
    rw [if_neg hi]
  refine ⟨fun x => F x ∨ x = l.blk, σ', ⟨fun i blk hi => ?_, fun i i' l1 l2 h1 h2 he => ?_, fun i l1 h1 => ?_, fun x hx => ?_⟩, h.glob.mono hF, h.le, h.frame, fun x hx => ?_, h.size, h.dfr, fun u v hv => ?_, fun i blk hi => ?_, fun i l1 h1 h2 h3 => ?_, h.nxm, h.xm, fun x hx => .inl (h.sub x hx)⟩
  · rw [look_put] at hi
    split at hi
    · rename_i he
      subst he
      obtain rfl := Option.some.inj hi
      rcases h.heap.blk b _ hrow with ⟨hz, _⟩ | ⟨_, _, _, _, hmap, _⟩ | ⟨lb, cs, T, q1, q2, q3, q4, q5, q6, q7⟩
      · simp [Blk.n] at hz
      · cases hmap
      · refine .inr (.inr ⟨lb, cs, T, by rw [hσn b (fun e => hne e.symm)]; exact q1, q2, q3, q4, q5, fun i r hr => ?_, rfl⟩)
        cases i with
        | succ i => simp [Blk.row?] at hr
        | zero =>
          simp only [Blk.row?, List.getElem?_cons_zero, Option.some.injEq] at hr
          subst hr
          obtain ⟨g1, g2⟩ := q6 0 row rfl
          refine ⟨by simpa [Blk.k] using g1, fun jj x hx => ?_⟩
          by_cases hjj : j = jj
          · subst hjj
            have hlt : j < row.length := (List.getElem?_eq_some_iff.1 hj).1
            rw [List.getElem?_set_self (by simpa using hlt)] at hx
            obtain rfl := Option.some.inj hx
            obtain ⟨v, g3, g4, g5⟩ := g2 j _ hj
            exact ⟨v, g3, g4, frz_val h.heap hb' hl hn h0 hbase g5⟩
          · rw [List.getElem?_set_ne hjj, List.getElem?_map, Option.map_eq_some_iff] at hx
            obtain ⟨y, hy, rfl⟩ := hx
            obtain ⟨v, g3, g4, g5⟩ := g2 jj y hy
            exact ⟨v, g3, g4, g5.drop1 hF hσ⟩
    · rw [look_put] at hi
      split at hi
      · rename_i he
        subst he
        obtain rfl := Option.some.inj hi
        exact .inl ⟨rfl, if_pos rfl⟩
      · rename_i he
        simp only [forgetH, look_mapB, Option.map_eq_some_iff] at hi
        obtain ⟨blk0, hi, rfl⟩ := hi
        have hib : i ≠ b' := fun e => he e.symm
        exact (h.heap.blk i blk0 hi).forget (· == b') hF hσ (fun l hl => by rw [hσn i hib]; exact hl) (fun hl => by rw [hσn i hib]; exact hl) (fun _ _ => rfl)
  · exact h.heap.inj i i' l1 l2 (hσ' i l1 h1).2 (hσ' i' l2 h2).2 he
  · obtain ⟨hi, h1⟩ := hσ' i l1 h1
    obtain ⟨p1, p2, p3, p4⟩ := h.heap.own i l1 h1
    refine ⟨p1, fun hx => ?_, p3, p4⟩
    rcases hx with hx | hx
    · exact p2 hx
    · exact hi (h.heap.inj i b' l1 l h1 hl hx)
  · rcases hx with hx | hx
    · exact h.heap.fro x hx
    · rw [hx]; exact o4
  · rcases hx with hx | hx
    · exact h.frz x hx
    · rw [hx]; exact .inr hbase
  · simp only [forgetR] at hv
    rw [look_mapV, Option.map_eq_some_iff] at hv
    obtain ⟨v0, h1, rfl⟩ := hv
    exact (h.rho u v0 h1).forget hF hσ
  · rw [look_put] at hi
    split at hi
    · rename_i he; subst he; exact h.dom _ _ hrow
    · rw [look_put] at hi
      split at hi
      · rename_i he; subst he; exact h.dom _ _ hb'
      · simp only [forgetH, look_mapB, Option.map_eq_some_iff] at hi
        obtain ⟨blk0, hi, rfl⟩ := hi
        exact h.dom i blk0 hi
  · rw [hσn i (by omega)]
    exact h.stab i l1 h1 h2 h3

end Go.Vm
end

section
namespace Go.Vm
open Go.RowKit

variable {P : Program} {K : Cx} {n : Nat} {X : Nat → Nat → Prop} {base : Nat} {w0 : World} {F0 : Nat → Prop} {m0 : Nat} {σ0 : Nat → Option Loc} {Q : Exit → Act → World → Prop}

def one : List Seg → Option Seg
  | [g] => some g
  | _ => none

def chk (P : Program) (m n : Nat) : C → Code → Bool
  | .stuck, _ => true
  | .skip, .skip => true
  | .reg l, .region _ ops draw => if draw then drawnOk P ops n l else textOk P ops n 0 l
  | .seq (.tidy m' _) b, c => m' == m && chk P m n b c
  | .seq (.own t _) b, c => decide (t < n) && chk P m n b c
  | .seq (.frz m' _ _) b, c => (m' == m) && chk P m n b c
  | .seq a b, .seq x y => chk P m n a x && chk P m n b y
  | .cond e a b, .cond c x y => decide (operE P [] 0 c = some e) && chk P m n a x && chk P m n b y
  | .block id c, .block id' x => id == id' && chk P m n c x
  | .loop c, .loop x => chk P m n c x
  | .exit id, .exit id' => id == id'
  | .scope c ls, .scope x => chk P m n c x && chk P m n ls x
  | .lnil, _ => true
  | .lcons l c ls, x => (match findLabel x l with | some rest => chk P m n c rest | none => false) && chk P m n ls x
  | .label l, .label l' => l == l'
  | .goto l, .goto l' => l == l'
  | .ret, .ret => true
  | _, _ => false

def Ex.to : Ex → Exit
  | .nrm => .normal
  | .exit id => .exit id
  | .goto l => .goto l
  | .ret => .ret

def Post (K : Cx) (X : Nat → Nat → Prop) (base : Nat) (w0 : World) (F0 : Nat → Prop) (m0 : Nat) (σ0 : Nat → Option Loc) (n : Nat) (r : Ex × S) (e : Exit) (a : Act) (w : World) : Prop :=
  e = r.1.to ∧ ∃ F σ, StRel K X base w0 F0 m0 σ0 n r.2 a w F σ

theorem nodup_idx {bs : List Nat} (hn : bs.Nodup) {i b : Nat} (h : bs[i]? = some b) : bs.idxOf b = i := by
  obtain ⟨hi, rfl⟩ := List.getElem?_eq_some_iff.1 h
  exact hn.idxOf_getElem i hi

theorem look_tidy (H : List (Nat × Blk)) (bs0 : List Nat) : ∀ (bs : List Nat) (k i : Nat) (x : Blk), look ((bs.zipIdx k).filterMap fun p => (look H p.1).map fun blk => (p.2, blk.ren bs0.idxOf)) i = some x → k ≤ i ∧ ∃ b x0, bs[i - k]? = some b ∧ look H b = some x0 ∧ x = x0.ren bs0.idxOf
  | [], k, i, x, h => by simp [look] at h
  | b :: bs, k, i, x, h => by
    simp only [List.zipIdx_cons, List.filterMap_cons] at h
    have rest : look ((bs.zipIdx (k + 1)).filterMap fun p => (look H p.1).map fun blk => (p.2, blk.ren bs0.idxOf)) i = some x → k ≤ i ∧ ∃ b' x0, (b :: bs)[i - k]? = some b' ∧ look H b' = some x0 ∧ x = x0.ren bs0.idxOf := by
      intro h
      obtain ⟨h1, b', x0, h2, h3, h4⟩ := look_tidy H bs0 bs (k + 1) i x h
      refine ⟨by omega, b', x0, ?_, h3, h4⟩
      have : i - k = (i - (k + 1)) + 1 := by omega
      rw [this, List.getElem?_cons_succ]
      exact h2
    cases hb : look H b with
    | none =>
      simp only [hb, Option.map_none] at h
      exact rest h
    | some x0 =>
      simp only [hb, Option.map_some, look] at h
      split at h
      · rename_i he
        subst he
        exact ⟨Nat.le_refl _, b, x0, by simp, hb, (Option.some.inj h).symm⟩
      · exact rest h

theorem StRel.tidy {s s' : S} {a : Act} {w : World} {F : Nat → Prop} {σ : Nat → Option Loc} {slots : List Nat} (ht : tidyS m0 slots s = some s') (h : StRel K X base w0 F0 m0 σ0 n s a w F σ) : ∃ σ', StRel K X base w0 F0 m0 σ0 n s' a w F σ' := by
  unfold tidyS at ht
  simp only at ht
  split at ht
  case isFalse => cases ht
  rename_i hc
  obtain rfl := Option.some.inj ht
  generalize hbs : reachB s.heap 64 [] (List.range m0 ++ refsL ((restrict s.rho slots).map (·.2))) = bs at hc
  simp only [Bool.and_eq_true, decide_eq_true_eq, List.all_eq_true] at hc
  obtain ⟨⟨⟨hnd, hpre⟩, hwi⟩, hcl⟩ := hc
  simp only [closedB, List.all_eq_true] at hcl
  have hF : ∀ b, F b → F b ∧ w.heap[b]? = w.heap[b]? := fun b hb => ⟨hb, rfl⟩
  have hσ : ∀ b l, bs.contains b = true → σ b = some l → inn bs σ (bs.idxOf b) = some l := fun b l h1 h2 => by rw [inn_idx (by simpa using h1)]; exact h2
  refine ⟨inn bs σ, ⟨fun i x hx => ?_, fun i j l l' h1 h2 he => ?_, fun i l hi => ?_, h.heap.fro⟩, h.glob, h.le, h.frame, h.frz, h.size, h.dfr, fun t v hv => ?_, fun i x hx => ?_, fun b l hb h0 hm => ?_, ?_, h.xm, h.sub⟩
  · obtain ⟨_, b, x0, h1, h2, rfl⟩ := look_tidy s.heap bs bs 0 i x hx
    rw [Nat.sub_zero] at h1
    have hσi : inn bs σ i = σ b := by unfold inn; rw [h1]
    have hb := hcl b (List.mem_of_getElem? h1)
    rw [h2] at hb
    exact (h.heap.blk b x0 h2).ren (w' := w) (F' := F) (p := bs.contains) hF (fun _ _ h => h) hσ hb (fun l hl => by rw [hσi]; exact hl) (fun hl => by rw [hσi]; exact hl) (fun _ _ => rfl)
  · obtain ⟨b, hb1, h3⟩ := inn_some h1
    obtain ⟨b', hb2, h4⟩ := inn_some h2
    obtain rfl := h.heap.inj b b' l l' h3 h4 he
    exact (List.getElem?_inj (List.getElem?_eq_some_iff.1 hb1).1 hnd).1 (hb1.trans hb2.symm)
  · obtain ⟨b, hb1, h3⟩ := inn_some hi
    obtain ⟨_, o2, o3, o4⟩ := h.heap.own b l h3
    refine ⟨(List.getElem?_eq_some_iff.1 hb1).1, o2, o3.imp id (fun hx => ?_), o4⟩
    have hbm := h.xm b _ hx
    have : bs[b]? = some b := by
      have : (bs.take m0)[b]? = some b := by rw [hpre]; simp [hbm]
      simpa [List.getElem?_take, hbm] using this
    have := (List.getElem?_inj (List.getElem?_eq_some_iff.1 hb1).1 hnd).1 (hb1.trans this.symm)
    rw [this]
    exact hx
  · simp only at hv
    rw [show ((restrict s.rho slots).map fun p => (p.1, p.2.ren bs.idxOf)) = (restrict s.rho slots).map fun (t, v) => (t, (V.ren bs.idxOf) v) from rfl, look_mapV] at hv
    simp only [Option.map_eq_some_iff] at hv
    obtain ⟨v0, h1, rfl⟩ := hv
    have hm := look_mem _ _ _ h1
    exact ((h.rho t v0 (look_restrict _ _ _ _ h1).2).ren (base' := base) (fun _ _ h => h) hσ (hwi _ hm))
  · obtain ⟨_, b, x0, h1, _⟩ := look_tidy s.heap bs bs 0 i x hx
    rw [Nat.sub_zero] at h1
    exact (List.getElem?_eq_some_iff.1 h1).1
  · have hb2 : bs[b]? = some b := by
      have : (bs.take m0)[b]? = some b := by rw [hpre]; simp [hb]
      simpa [List.getElem?_take, hb] using this
    unfold inn
    rw [hb2]
    refine h.stab b l hb h0 fun hm' => hm ?_
    simp only [List.mem_filter, List.mem_range]
    exact ⟨hb, by simpa using hm'⟩
  · have := congrArg List.length hpre
    simp only [List.length_take, List.length_range] at this
    show m0 ≤ bs.length
    omega

theorem StRel.own {s : S} {a : Act} {w : World} {F : Nat → Prop} {σ : Nat → Option Loc} {t k k' : Nat} {c : Bool} (hl : look s.rho t = some (.fs c k' [])) (h : StRel K X base w0 F0 m0 σ0 n s a w F σ) :
    StRel K X base w0 F0 m0 σ0 n ⟨put s.rho t (.bsl s.nx 0 0), (s.nx, .dat true k []) :: s.heap, s.nx + 1, s.mv⟩ a w F σ := by
  have hnone : σ s.nx = none := by
    cases hs : σ s.nx with
    | none => rfl
    | some l => have := (h.heap.own _ l hs).1; omega
  refine ⟨⟨fun b blk hb => ?_, h.heap.inj, fun b l hb => ⟨by have := (h.heap.own b l hb).1; show b < s.nx + 1; omega, (h.heap.own b l hb).2⟩, h.heap.fro⟩, h.glob, h.le, h.frame, h.frz, h.size, h.dfr, fun u v hv => ?_, fun b blk hb => ?_, h.stab, by have := h.nxm; show m0 ≤ s.nx + 1; omega, h.xm, h.sub⟩
  · simp only [look] at hb
    split at hb
    · rename_i he
      subst he
      obtain rfl := Option.some.inj hb
      exact .inl ⟨rfl, hnone⟩
    · exact h.heap.blk b blk hb
  · simp only at hv
    rw [look_put] at hv
    split at hv
    · rename_i he
      subst he
      obtain rfl := Option.some.inj hv
      have := h.rho t _ hl
      generalize a.tmps.getD t undef = u at this ⊢
      cases this with
      | fs _ ad len _ _ hd =>
        cases hd with
        | sl0 => exact .bsl0 _ _ _
        | sl b o l cap k rows g h1 => simp at h1; subst h1; exact .bsl0 _ _ _
    · exact h.rho u v hv
  · simp only [look] at hb
    split at hb
    · rename_i he; show b < s.nx + 1; omega
    · have := h.dom b blk hb; show b < s.nx + 1; omega

theorem wp_loop_rounds {c : Code} (J : Nat → Act → World → Prop) (h0 : ∀ a w, ¬ J 0 a w) (round : ∀ m a w, J (m + 1) a w → c.wp P (Exit.then (J m) Q) a w) {m : Nat} {a : Act} {w : World} (h : J m a w) : (Code.loop c).wp P Q a w := by
  intro b k cs
  have key : ∀ m a w, J m a w → ∃ e a' w', Q e a' w' ∧ Arrives P (lone (b.at a (.code c :: .inLoop c :: k)) cs w) b k cs e a' w' := by
    intro m
    induction m with
    | zero => intro a w h; exact absurd h (h0 a w)
    | succ m ih =>
      intro a w hI
      obtain ⟨e, a₁, w₁, hq, harr⟩ := round m a w hI b (.inLoop c :: k) cs
      cases e with
      | normal =>
        obtain ⟨e₂, a₂, w₂, hq₂, harr₂⟩ := ih a₁ w₁ hq
        exact ⟨e₂, a₂, w₂, hq₂, .of_steps (Steps.trans harr (.one step_inLoop)) harr₂⟩
      | exit id => exact ⟨_, a₁, w₁, hq, .pass (x := .inLoop c) rfl (fun _ _ => .inl (by simp)) harr⟩
      | goto l => exact ⟨_, a₁, w₁, hq, .pass (x := .inLoop c) rfl (fun _ _ => .inl (by simp)) harr⟩
      | ret => exact ⟨_, a₁, w₁, hq, .pass (x := .inLoop c) rfl (fun _ _ => .inl (by simp)) harr⟩
      | panic ch => exact ⟨_, a₁, w₁, hq, .pass (x := .inLoop c) rfl (fun _ _ => .inl (by simp)) harr⟩
      | outgrown => exact ⟨_, a₁, w₁, hq, .pass (x := .inLoop c) rfl (fun _ _ => .inl (by simp)) harr⟩
  obtain ⟨e, a', w', hq, harr⟩ := key m a w h
  exact ⟨e, a', w', hq, .of_steps (.one step_loop) harr⟩

theorem held_done {a : Act} {w : World} {F : Nat → Prop} {σ : Nat → Option Loc} {s : S} (h : StRel K X base w0 F0 m0 σ0 n s a w F σ) {x : Operand} {t : TypeId} {e : E} {r : V} (he : operE P [] t x = some e) (hr : ev K s e = some r) : RepV w F base σ (a.eval x) r := by
  have : Held P K s [] w F base σ a x := by
    cases x with
    | const v => exact held_const
    | global g => exact held_glob h.glob
    | func f => exact held_func
    | tmp t =>
      refine held_tmp fun r hr => ?_
      simp only [Env.get, look, ev] at hr
      exact h.rho t r hr
  exact this t e r he hr

def Exit.jumpR (J : Nat → Act → World → Prop) (Q : Exit → Act → World → Prop) : Exit → Act → World → Prop
  | .goto l, a, w => J l a w
  | e, a, w => Q e a w

theorem wp_scope_rounds {c : Code} (J : Nat → Nat → Act → World → Prop) (h0 : ∀ l a w, ¬ J 0 l a w) (round : ∀ m l a w, J (m + 1) l a w → ∃ rest, findLabel c l = some rest ∧ rest.wp P (Exit.jumpR (J m) Q) a w) {m : Nat} {a : Act} {w : World} (first : c.wp P (Exit.jumpR (J m) Q) a w) : (Code.scope c).wp P Q a w := by
  intro b k cs
  have key : ∀ m l rest a w, findLabel c l = some rest → J m l a w → ∃ e a' w', Q e a' w' ∧ Arrives P (lone (b.at a (.code rest :: .inScope c :: k)) cs w) b k cs e a' w' := by
    intro m
    induction m with
    | zero => intro l rest a w _ h; exact absurd h (h0 l a w)
    | succ m ih =>
      intro l rest a w hf hJ
      obtain ⟨rest', hf', hwp⟩ := round m l a w hJ
      rw [hf] at hf'
      obtain rfl := Option.some.inj hf'
      obtain ⟨e, a₁, w₁, hq, harr⟩ := hwp b (.inScope c :: k) cs
      cases e with
      | normal => exact ⟨.normal, a₁, w₁, hq, Steps.trans harr (.one step_inScope)⟩
      | exit id => exact ⟨.exit id, a₁, w₁, hq, fun k' hk => harr k' (by simp [exitTo, hk])⟩
      | goto l' =>
        have hq' : J m l' a₁ w₁ := hq
        cases m with
        | zero => exact absurd hq' (h0 l' a₁ w₁)
        | succ m =>
          obtain ⟨rest2, hf2, _⟩ := round m l' a₁ w₁ hq'
          obtain ⟨e₂, a₂, w₂, hq₂, harr₂⟩ := ih l' rest2 a₁ w₁ hf2 hq'
          have hg : gotoIn l' (.inScope c :: k) = some (.code rest2 :: .inScope c :: k) := by simp [gotoIn, hf2]
          exact ⟨e₂, a₂, w₂, hq₂, .of_steps (harr _ hg) harr₂⟩
      | ret => exact ⟨_, a₁, w₁, hq, harr⟩
      | panic ch => exact ⟨_, a₁, w₁, hq, harr⟩
      | outgrown => exact ⟨_, a₁, w₁, hq, harr⟩
  obtain ⟨e, a₁, w₁, hq, harr⟩ := first b (.inScope c :: k) cs
  cases e with
  | normal => exact ⟨.normal, a₁, w₁, hq, .head step_scope (Steps.trans harr (.one step_inScope))⟩
  | exit id => exact ⟨.exit id, a₁, w₁, hq, fun k' hk => .head step_scope (harr k' (by simp [exitTo, hk]))⟩
  | goto l' =>
    have hq' : J m l' a₁ w₁ := hq
    cases m with
    | zero => exact absurd hq' (h0 l' a₁ w₁)
    | succ m =>
      obtain ⟨rest2, hf2, _⟩ := round m l' a₁ w₁ hq'
      obtain ⟨e₂, a₂, w₂, hq₂, harr₂⟩ := key _ l' rest2 a₁ w₁ hf2 hq'
      have hg : gotoIn l' (.inScope c :: k) = some (.code rest2 :: .inScope c :: k) := by simp [gotoIn, hf2]
      exact ⟨e₂, a₂, w₂, hq₂, .of_steps (.head step_scope (harr _ hg)) harr₂⟩
  | ret => exact ⟨_, a₁, w₁, hq, .of_steps (.one step_scope) harr⟩
  | panic ch => exact ⟨_, a₁, w₁, hq, .of_steps (.one step_scope) harr⟩
  | outgrown => exact ⟨_, a₁, w₁, hq, .of_steps (.one step_scope) harr⟩

theorem exec_both (hm : P.follows .mixedOrders = true) (hK : K.Sound P) : ∀ (c : C), (∀ (code : Code) (s : S) (r : Ex × S) (a : Act) (w : World) (F : Nat → Prop) (σ : Nat → Option Loc), chk P m0 n c code = true → exec K c s = some r → StRel K X base w0 F0 m0 σ0 n s a w F σ →
    code.wp P (Post K X base w0 F0 m0 σ0 n r) a w) ∧
    ∀ (code : Code) (l : Nat) (g : S → Option (Ex × S)), chk P m0 n c code = true → exec.labelled K c l = some g → ∃ rest, findLabel code l = some rest ∧ ∀ (s : S) (r : Ex × S) (a : Act) (w : World) (F : Nat → Prop) (σ : Nat → Option Loc), g s = some r → StRel K X base w0 F0 m0 σ0 n s a w F σ → rest.wp P (Post K X base w0 F0 m0 σ0 n r) a w := by
  intro c
  induction c with
  | skip =>
    refine ⟨?_, fun code l g _ h => by simp [exec.labelled] at h⟩
    intro code s r a w F σ hc he hs
    cases code <;> simp only [chk] at hc <;> (try (cases hc; done))
    simp only [exec, Option.some.injEq] at he
    subst he
    exact wp_skip ⟨rfl, F, σ, hs⟩
  | reg l =>
    refine ⟨?_, fun code l g _ h => by simp [exec.labelled] at h⟩
    intro code s r a w F σ hc he hs
    cases code <;> simp only [chk] at hc <;> (try (cases hc; done))
    rename_i id ops draw
    simp only [exec] at he
    cases hev : evSegs K s l with
    | none => simp [hev] at he
    | some s' =>
      simp only [hev, Option.some.injEq] at he
      subst he
      cases draw with
      | false =>
        simp only [Bool.false_eq_true, if_false] at hc
        exact text_region hK hc hev hs fun a w F σ h => ⟨rfl, F, σ, h⟩
      | true =>
        simp only [if_true] at hc
        exact drawn_region hm hK hc hev hs fun a w F σ h => ⟨rfl, F, σ, h⟩
  | seq x y ihx ihy =>
    refine ⟨?_, fun code l g _ h => by simp [exec.labelled] at h⟩
    intro code s r a w F σ hc he hs
    simp only [exec] at he
    have plain : ∀ cx cy, code = .seq cx cy → chk P m0 n x cx = true → chk P m0 n y cy = true → code.wp P (Post K X base w0 F0 m0 σ0 n r) a w := by
      rintro cx cy rfl h1 h2
      cases hx : exec K x s with
      | none => simp [hx] at he
      | some p =>
        obtain ⟨ex, s'⟩ := p
        refine wp_seq (wp_mono (ihx.1 cx s _ a w F σ h1 hx hs) fun e a' w' hp => ?_)
        obtain ⟨rfl, F', σ', hs'⟩ := hp
        cases ex with
        | nrm =>
          simp only [hx] at he
          exact ihy.1 cy s' r a' w' F' σ' h2 he hs'
        | exit id => simp only [hx, Option.some.injEq] at he; subst he; exact ⟨rfl, F', σ', hs'⟩
        | goto l => simp only [hx, Option.some.injEq] at he; subst he; exact ⟨rfl, F', σ', hs'⟩
        | ret => simp only [hx, Option.some.injEq] at he; subst he; exact ⟨rfl, F', σ', hs'⟩
    by_cases hgc : ∃ m' sl, x = .tidy m' sl
    · obtain ⟨m', sl, rfl⟩ := hgc
      have hc' : (m' == m0) = true ∧ chk P m0 n y code = true := by cases code <;> simpa only [chk, Bool.and_eq_true] using hc
      obtain ⟨hm', hc'⟩ := hc'
      obtain rfl : m' = m0 := by simpa using hm'
      simp only [exec] at he
      cases hts : tidyS m' sl s with
      | none => simp [hts] at he
      | some s' =>
        simp only [hts] at he
        obtain ⟨σ', hs'⟩ := hs.tidy hts
        exact ihy.1 code _ r a w F σ' hc' he hs'
    · by_cases hown : ∃ t k, x = .own t k
      · obtain ⟨t, k, rfl⟩ := hown
        have hc' : decide (t < n) = true ∧ chk P m0 n y code = true := by cases code <;> simpa only [chk, Bool.and_eq_true] using hc
        simp only [exec] at he
        cases hl : look s.rho t with
        | none => simp [hl] at he
        | some v =>
          cases v with
          | fs c k' rows =>
            cases rows with
            | nil =>
              simp only [hl] at he
              by_cases hk : k' = k
              · simp only [hk, if_true] at he
                exact ihy.1 code _ r a w F σ hc'.2 he (hs.own hl)
              · simp [hk] at he
            | cons _ _ => simp [hl] at he
          | _ => simp [hl] at he
      · by_cases hfrz : ∃ m' t j, x = .frz m' t j
        · obtain ⟨m', t, j, rfl⟩ := hfrz
          have hc' : (m' == m0) = true ∧ chk P m0 n y code = true := by cases code <;> simpa only [chk, Bool.and_eq_true] using hc
          obtain ⟨hm', hc'⟩ := hc'
          obtain rfl : m' = m0 := by simpa using hm'
          simp only [exec] at he
          obtain ⟨F', σ', hs'⟩ := hs.freeze t j
          exact ihy.1 code _ r a w F' σ' hc' he hs'
        · cases code with
          | seq cx cy =>
            have : chk P m0 n x cx = true ∧ chk P m0 n y cy = true := by
              cases x <;> first | (exact absurd ⟨_, _, rfl⟩ hgc) | (exact absurd ⟨_, _, rfl⟩ hown) | (exact absurd ⟨_, _, _, rfl⟩ hfrz) | (simpa only [chk, Bool.and_eq_true] using hc)
            exact plain cx cy rfl this.1 this.2
          | _ => cases x <;> first | (exact absurd ⟨_, _, rfl⟩ hgc) | (exact absurd ⟨_, _, rfl⟩ hown) | (exact absurd ⟨_, _, _, rfl⟩ hfrz) | (simp [chk] at hc)
  | cond e x y ihx ihy =>
    refine ⟨?_, fun code l g _ h => by simp [exec.labelled] at h⟩
    intro code s r a w F σ hc he hs
    cases code <;> simp only [chk] at hc <;> (try (cases hc; done))
    rename_i oc cx cy
    simp only [Bool.and_eq_true, decide_eq_true_eq] at hc
    simp only [exec] at he
    cases hv : ev K s e with
    | none => simp [hv] at he
    | some v =>
      cases v with
      | d k x =>
        cases x with
        | bool b =>
          simp only [hv] at he
          have hb := (held_done hs hc.1.1 hv).bool_inv
          refine wp_cond hb ?_
          cases b with
          | true => exact ihx.1 cx s r a w F σ hc.1.2 (by simpa using he) hs
          | false => exact ihy.1 cy s r a w F σ hc.2 (by simpa using he) hs
        | _ => simp [hv] at he
      | _ => simp [hv] at he
  | block id x ih =>
    refine ⟨?_, fun code l g _ h => by simp [exec.labelled] at h⟩
    intro code s r a w F σ hc he hs
    cases code <;> simp only [chk] at hc <;> (try (cases hc; done))
    rename_i id' cx
    simp only [Bool.and_eq_true, beq_iff_eq] at hc
    obtain ⟨rfl, hc⟩ := hc
    simp only [exec] at he
    cases hx : exec K x s with
    | none => simp [hx] at he
    | some p =>
      obtain ⟨ex, s'⟩ := p
      refine wp_block (wp_mono (ih.1 cx s _ a w F σ hc hx hs) fun e a' w' hp => ?_)
      obtain ⟨rfl, F', σ', hs'⟩ := hp
      cases ex with
      | exit i =>
        simp only [hx] at he
        simp only [Ex.to, Exit.inBlock]
        split at he
        · rename_i hi
          rw [if_pos hi]
          simp only [Option.some.injEq] at he
          subst he
          exact ⟨rfl, F', σ', hs'⟩
        · rename_i hi
          rw [if_neg hi]
          simp only [Option.some.injEq] at he
          subst he
          exact ⟨rfl, F', σ', hs'⟩
      | nrm => simp only [hx, Option.some.injEq] at he; subst he; exact ⟨rfl, F', σ', hs'⟩
      | goto l => simp only [hx, Option.some.injEq] at he; subst he; exact ⟨rfl, F', σ', hs'⟩
      | ret => simp only [hx, Option.some.injEq] at he; subst he; exact ⟨rfl, F', σ', hs'⟩
  | loop x ih =>
    refine ⟨?_, fun code l g _ h => by simp [exec.labelled] at h⟩
    intro code s r a w F σ hc he hs
    cases code <;> simp only [chk] at hc <;> (try (cases hc; done))
    rename_i cx
    simp only [exec, loopF] at he
    split at he
    case isFalse => cases he
    rename_i hex
    refine wp_loop_rounds (J := fun m a w => ∃ s F σ, iter (exec K x) m s = some r ∧ StRel K X base w0 F0 m0 σ0 n s a w F σ) (fun a w h => ?_) (fun m a w h => ?_) (m := hex.choose) ⟨s, F, σ, he, hs⟩
    · obtain ⟨s, F, σ, h, _⟩ := h
      simp [iter] at h
    · obtain ⟨s, F, σ, h, hs⟩ := h
      simp only [iter] at h
      cases hx : exec K x s with
      | none => simp [hx] at h
      | some p =>
        obtain ⟨ex, s'⟩ := p
        refine wp_mono (ih.1 cx s _ a w F σ hc hx hs) fun e a' w' hp => ?_
        obtain ⟨rfl, F', σ', hs'⟩ := hp
        cases ex with
        | nrm => simp only [hx] at h; exact ⟨s', F', σ', h, hs'⟩
        | exit id => simp only [hx, Option.some.injEq] at h; subst h; exact ⟨rfl, F', σ', hs'⟩
        | goto l => simp only [hx, Option.some.injEq] at h; subst h; exact ⟨rfl, F', σ', hs'⟩
        | ret => simp only [hx, Option.some.injEq] at h; subst h; exact ⟨rfl, F', σ', hs'⟩
  | exit id =>
    refine ⟨?_, fun code l g _ h => by simp [exec.labelled] at h⟩
    intro code s r a w F σ hc he hs
    cases code <;> simp only [chk] at hc <;> (try (cases hc; done))
    simp only [beq_iff_eq] at hc
    subst hc
    simp only [exec, Option.some.injEq] at he
    subst he
    exact wp_exit ⟨rfl, F, σ, hs⟩
  | scope x ls ihx ihl =>
    refine ⟨?_, fun code l g _ h => by simp [exec.labelled] at h⟩
    intro code s r a w F σ hc he hs
    cases code <;> simp only [chk] at hc <;> (try (cases hc; done))
    rename_i cx
    simp only [Bool.and_eq_true] at hc
    simp only [exec, scopeF] at he
    split at he
    case isFalse => cases he
    rename_i hex
    generalize hex.choose = m at he
    cases m with
    | zero => simp [jumps] at he
    | succ m =>
      have post : ∀ (m : Nat) (p : Ex × S) (e : Exit) (a : Act) (w : World), jumps (fun l => exec.labelled K ls l) (m + 1) (some p) = some r → Post K X base w0 F0 m0 σ0 n p e a w →
          Exit.jumpR (fun l a w => ∃ g s F σ, exec.labelled K ls l = some g ∧ jumps (fun l => exec.labelled K ls l) m (g s) = some r ∧ StRel K X base w0 F0 m0 σ0 n s a w F σ) (Post K X base w0 F0 m0 σ0 n r) e a w := by
        intro m p e a w hj hp
        obtain ⟨ex, s'⟩ := p
        obtain ⟨rfl, F', σ', hs'⟩ := hp
        simp only [jumps] at hj
        cases ex with
        | nrm => simp only [Option.some.injEq] at hj; subst hj; exact ⟨rfl, F', σ', hs'⟩
        | exit id => simp only [Option.some.injEq] at hj; subst hj; exact ⟨rfl, F', σ', hs'⟩
        | ret => simp only [Option.some.injEq] at hj; subst hj; exact ⟨rfl, F', σ', hs'⟩
        | goto l =>
          simp only at hj
          cases hl : exec.labelled K ls l with
          | none => simp [hl] at hj
          | some g =>
            simp only [hl] at hj
            exact ⟨g, s', F', σ', hl, hj, hs'⟩
      cases hx : exec K x s with
      | none => simp [hx, jumps] at he
      | some p =>
        rw [hx] at he
        refine wp_scope_rounds (m := m) (J := fun m l a w => ∃ g s F σ, exec.labelled K ls l = some g ∧ jumps (fun l => exec.labelled K ls l) m (g s) = some r ∧ StRel K X base w0 F0 m0 σ0 n s a w F σ) (fun l a w h => ?_) (fun m l a w h => ?_) (wp_mono (ihx.1 cx s _ a w F σ hc.1 hx hs) fun e a' w' hp => post m p e a' w' he hp)
        · obtain ⟨g, s, F, σ, _, h, _⟩ := h
          simp [jumps] at h
        · obtain ⟨g, s, F, σ, hl, hj, hs⟩ := h
          obtain ⟨rest, hf, hrest⟩ := ihl.2 cx l g hc.2 hl
          refine ⟨rest, hf, ?_⟩
          cases hg : g s with
          | none => rw [hg] at hj; simp [jumps] at hj
          | some p =>
            rw [hg] at hj
            exact wp_mono (hrest s p a w F σ hg hs) fun e a' w' hp => post m p e a' w' hj hp
  | lnil => exact ⟨fun code s r a w F σ hc he => by simp [exec] at he, fun code l g _ h => by simp [exec.labelled] at h⟩
  | lcons l0 c ls ihc ihl =>
    refine ⟨fun code s r a w F σ hc he => by simp [exec] at he, fun code l g hc h => ?_⟩
    have hc' : ((match findLabel code l0 with | some rest => chk P m0 n c rest | none => false) && chk P m0 n ls code) = true := by cases code <;> simpa only [chk] using hc
    simp only [Bool.and_eq_true] at hc'
    simp only [exec.labelled] at h
    split at h
    · rename_i he
      subst he
      obtain rfl := Option.some.inj h
      cases hf : findLabel code l0 with
      | none => simp [hf] at hc'
      | some rest =>
        simp only [hf] at hc'
        exact ⟨rest, rfl, fun s r a w F σ he hs => ihc.1 rest s r a w F σ hc'.1 he hs⟩
    · exact ihl.2 code l g hc'.2 h
  | label l =>
    refine ⟨?_, fun code l g _ h => by simp [exec.labelled] at h⟩
    intro code s r a w F σ hc he hs
    cases code <;> simp only [chk] at hc <;> (try (cases hc; done))
    simp only [exec, Option.some.injEq] at he
    subst he
    exact wp_label ⟨rfl, F, σ, hs⟩
  | goto l =>
    refine ⟨?_, fun code l g _ h => by simp [exec.labelled] at h⟩
    intro code s r a w F σ hc he hs
    cases code <;> simp only [chk] at hc <;> (try (cases hc; done))
    simp only [beq_iff_eq] at hc
    subst hc
    simp only [exec, Option.some.injEq] at he
    subst he
    exact wp_goto ⟨rfl, F, σ, hs⟩
  | ret =>
    refine ⟨?_, fun code l g _ h => by simp [exec.labelled] at h⟩
    intro code s r a w F σ hc he hs
    cases code <;> simp only [chk] at hc <;> (try (cases hc; done))
    simp only [exec, Option.some.injEq] at he
    subst he
    exact wp_ret ⟨rfl, F, σ, hs⟩
  | tidy => exact ⟨fun code s r a w F σ hc he => by cases code <;> simp [chk] at hc, fun code l g _ h => by simp [exec.labelled] at h⟩
  | own => exact ⟨fun code s r a w F σ hc he => by cases code <;> simp [chk] at hc, fun code l g _ h => by simp [exec.labelled] at h⟩
  | stuck => exact ⟨fun code s r a w F σ hc he => by simp [exec] at he, fun code l g _ h => by simp [exec.labelled] at h⟩
  | frz => exact ⟨fun code s r a w F σ hc he => by cases code <;> simp [chk] at hc, fun code l g _ h => by simp [exec.labelled] at h⟩

theorem exec_sound (hm : P.follows .mixedOrders = true) (hK : K.Sound P) (c : C) (code : Code) (s : S) (r : Ex × S) (a : Act) (w : World) (F : Nat → Prop) (σ : Nat → Option Loc) (hc : chk P m0 n c code = true) (he : exec K c s = some r) (hs : StRel K X base w0 F0 m0 σ0 n s a w F σ) :
    code.wp P (Post K X base w0 F0 m0 σ0 n r) a w := (exec_both hm hK c).1 code s r a w F σ hc he hs

end Go.Vm
end

section
namespace Go.Vm
open Go.RowKit

def hNew (H : List (Nat × Blk)) : Bool := H.all fun p => match p.2 with
  | .dat c _ _ => c
  | .mix _ rows => rows.all (·.all V.newR)
  | .map es => es.all fun q => match q.2 with
    | .agg cs => cs.all V.newR
    | v => v.newR

def restH (bs : List Nat) (H : List (Nat × Blk)) : List (Nat × Blk) := forgetH bs.contains (H.filter fun p => !bs.contains p.1)

def finC (z : Bool) (bs : List Nat) (H : List (Nat × Blk)) : V → Option V
  | .d c y => some (.d c y)
  | .fs c k r => some (.fs c k r)
  | .ptr b i j => if bs.contains b then some (.ptr (bs.idxOf b) i j) else (viewD viewDepth (restH bs H) (.ptr b i j)).map (.d (z && hNew (restH bs H)))
  | .bsl b i n => if bs.contains b then some (.bsl (bs.idxOf b) i n) else (viewD viewDepth (restH bs H) (.bsl b i n)).map (.d (z && hNew (restH bs H)))
  | .iface t v => (viewD viewDepth (restH bs H) (V.drop1 bs.contains (.iface t v))).map (.d false)
  | .map b => if bs.contains b then some (.map (bs.idxOf b)) else none
  | _ => none
def finA (z : Bool) (bs : List Nat) (H : List (Nat × Blk)) : V → Option V
  | .agg cs => (mapO (finC z bs H) cs).map .agg
  | .fn f cs => (mapO (finC z bs H) cs).map (.fn f)
  | v => finC z bs H v
def finV (z : Bool) (bs : List Nat) (H : List (Nat × Blk)) : V → Option V
  | .tup vs => (mapO (finA z bs H) vs).map .tup
  | v => finA z bs H v
def finB (z : Bool) (bs : List Nat) (H : List (Nat × Blk)) (b : Nat) : Option Blk := match look H b with
  | some (.dat c k rows) => some (.dat c k rows)
  | some (.mix k rows) => (mapO (mapO (finC z bs H)) rows).map (.mix k)
  | some (.map es) => (mapO (fun q => (finA z bs H q.2).map fun v => (q.1, v)) es).map .map
  | none => none

structure Fun where
  body : C
  res : List E
  own : Bool
  deriving Inhabited

def oneOr : List V → V
  | [v] => v
  | vs => .tup vs

def finish (m : Nat) (own : Bool) (s : S) (v : V) : Option (V × List Blk × List Nat) :=
  let bs := if own then reachB s.heap 64 [] (List.range m ++ v.refs) else List.range m
  if decide bs.Nodup && decide (bs.take m = List.range m) then
    match finV (m == 0) bs s.heap v, mapO (finB (m == 0) bs s.heap) bs with
    | some r, some news => some (r, news, s.mv)
    | _, _ => none
  else none

def startS (args : List V) (blks : List Blk) : S := ⟨(args.zipIdx.map fun (v, i) => (i, v)), indexed blks, blks.length, []⟩

noncomputable def runFun (K : Cx) (g : Fun) (args : List V) (blks : List Blk) : Option (V × List Blk × List Nat) :=
  match exec K g.body (startS args blks) with
  | some (.nrm, s) => match mapO (ev K s) g.res with
    | some vs => finish blks.length g.own s (oneOr vs)
    | none => none
  | some (.ret, s) => match mapO (ev K s) g.res with
    | some vs => finish blks.length g.own s (oneOr vs)
    | none => none
  | _ => none

def resE (P : Program) : ResultVar → Option E
  | .tmp t => some (.sl t)
  | .cell a t => match P.info? t, P.underlying t with
    | some i, some d => some (.ld i.size (isAggD d) (.sl a))
    | _, _ => none

def funOk (P : Program) (f : FuncId) (m n : Nat) (g : Fun) : Bool :=
  match P.funcs[f]? with
  | some fn => match fn.body with
    | some code => chk P m fn.ntmps g.body code && decide (mapO (resE P) fn.results.toList = some g.res) && decide (n ≤ fn.ntmps) && (fn.name != "runtime.NumGoroutine")
    | none => false
  | none => false

variable {P : Program} {w : World} {F : Nat → Prop} {X : Nat → Nat → Prop} {base nx : Nat} {σ : Nat → Option Loc} {H : List (Nat × Blk)} {bs : List Nat}

theorem keys_mapO {f : V → Option V} : ∀ {es es' : List (D × V)}, mapO (fun q => (f q.2).map fun v => (q.1, v)) es = some es' → es'.map (·.1) = es.map (·.1)
  | [], es', h => by obtain rfl := Option.some.inj h; rfl
  | q :: es, es', h => by
    simp only [mapO] at h
    cases hq : f q.2 with
    | none => simp [hq] at h
    | some v =>
      cases hr : mapO (fun q => (f q.2).map fun v => (q.1, v)) es with
      | none => simp [hq, hr] at h
      | some r =>
        simp only [hq, hr, Option.map_some, Option.some.injEq] at h
        subst h
        simp only [List.map_cons, keys_mapO hr]

theorem MemObj.ofO {f : V → Option V} {w w' : World} {σ σ' : Nat → Option Loc} {l : Loc} {ck : Nat} {es : Array MapEntry} {ds ds' : List (D × V)} (hw : w'.heap[l.blk]? = w.heap[l.blk]?) (hes : mapO (fun q => (f q.2).map fun v => (q.1, v)) ds = some ds')
    (hf : ∀ q ∈ ds, ∀ y, f q.2 = some y → ∀ v, BufV σ v q.2 → BufV σ' v y) (h : MemObj w σ l es ck ds) : MemObj w' σ' l es ck ds' := by
  have hk := keys_mapO hes
  rcases h with ⟨h, hx, ht⟩ | ⟨T, p, v, x, h1, h2, h3, h4⟩ | ⟨T, cur, fz, bs, h1, h2, h3⟩
  · refine .inl ⟨by rw [hw]; exact h, hx, ?_⟩
    cases ds with
    | nil => obtain rfl : ds' = [] := by simpa using hk
             rfl
    | cons q ds =>
      obtain ⟨k, v⟩ := q
      cases ds' with
      | nil => simp at hk
      | cons q' ds' =>
        obtain ⟨k', v'⟩ := q'
        simp only [List.map_cons, List.cons.injEq] at hk
        obtain ⟨rfl, _⟩ := hk
        cases k' <;> first | rfl | (simp [tagged] at ht)
  · subst h1
    simp only [mapO] at hes
    cases hx : f x with
    | none => simp [hx] at hes
    | some y =>
      simp only [hx, Option.map_some, Option.some.injEq] at hes
      subst hes
      exact .inr (.inl ⟨T, p, v, y, rfl, by rw [hw]; exact h2, h3, hf (.nils T, x) (by simp) y hx v h4⟩)
  · exact .inr (.inr ⟨T, cur, fz, bs, by rw [hk]; exact h1, by rw [hw]; exact h2, h3⟩)

theorem New_New {c : Bool} {b : Nat} (h : col F base true b) : col (New F base) base c b := by
  cases c
  · exact h
  · exact ⟨h, h.2⟩

theorem RepV.newF {v : Value} {x : V} (hx : x.newR = true) (h : RepV w F base σ v x) : RepV w (New F base) base σ v x := by
  cases h with
  | d c v x h =>
    simp only [V.newR, V.new1, Bool.or_eq_true] at hx
    cases c with
    | true => exact .d _ _ _ (h.mono fun b hb => ⟨New_New hb, rfl⟩)
    | false => exact .d _ _ _ (h.flat (by simpa using hx))
  | fs c a len k rows h =>
    simp only [V.newR, V.new1] at hx
    subst hx
    exact .fs _ _ _ _ _ (h.mono fun b hb => ⟨New_New hb, rfl⟩)
  | ptr b i j l hl => exact .ptr b i j l hl
  | bsl0 a b i => exact .bsl0 a b i
  | bsl b i len cap l hl h1 h2 => exact .bsl b i len cap l hl h1 h2
  | map b l hl => exact .map b l hl
  | _ => simp [V.newR, V.new1] at hx

theorem mkd_newR {c : Bool} (hc : c = true) (d : D) : (mkd c d).newR = true := by
  subst hc
  unfold mkd
  split <;> simp [V.newR, V.new1, *]

theorem HeapRel.newF (hn : hNew H = true) (h : HeapRel w F X base σ nx H) : HeapRel w (New F base) X base σ nx H := by
  refine ⟨fun b blk hb => ?_, h.inj, fun b l hb => ⟨(h.own b l hb).1, fun hf => (h.own b l hb).2.1 hf.1, (h.own b l hb).2.2⟩, fun b hb => h.fro b hb.1⟩
  have hin : ∃ p ∈ H, p = (b, blk) := by
    clear hn h
    induction H with
    | nil => simp [look] at hb
    | cons p H ih =>
      obtain ⟨k, v⟩ := p
      simp only [look] at hb
      split at hb
      · rename_i hk
        subst hk
        obtain rfl := Option.some.inj hb
        exact ⟨_, List.mem_cons_self .., rfl⟩
      · obtain ⟨p, hp, he⟩ := ih hb
        exact ⟨p, List.mem_cons_of_mem _ hp, he⟩
  obtain ⟨p, hp, rfl⟩ := hin
  simp only [hNew, List.all_eq_true] at hn
  have hnb := hn _ hp
  rcases h.blk b blk hb with ⟨h1, h2⟩ | ⟨l, es, ck, ds, rfl, h1, h2, h3, h4, h5⟩ | ⟨l, cs, T, h1, h2, h3, h4, h5, h6, h7⟩
  · exact .inl ⟨h1, h2⟩
  · have := h5.transM (f := fun x => x) (w' := w) (F' := New F base) (base' := base) (σ' := σ) fun q hq v hv => by
      simp only [List.all_eq_true] at hnb
      have hqn := hnb q hq
      obtain ⟨qk, qv⟩ := q
      cases qv with
      | agg cs =>
        cases hv with
        | agg vs _ g1 g2 g3 =>
          simp only [List.all_eq_true] at hqn
          exact .agg vs cs g1 (fun j v x hv hx => (g2 j v x hv hx).newF (hqn x (List.mem_of_getElem? hx))) g3
      | _ => exact hv.newF hqn
    exact .inr (.inl ⟨l, es, ck, ds, rfl, h1, h2, h3, h4, by simpa using this⟩)
  · refine .inr <| .inr ⟨l, cs, T, h1, h2, h3, h4, h5, fun i row hrow => ⟨(h6 i row hrow).1, fun j x hx => ?_⟩, h7⟩
    obtain ⟨v, g1, g2, g3⟩ := (h6 i row hrow).2 j x hx
    refine ⟨v, g1, g2, g3.newF ?_⟩
    cases blk with
    | dat c k rows =>
      simp only [Blk.row?, Option.map_eq_some_iff] at hrow
      obtain ⟨r, _, rfl⟩ := hrow
      simp only [List.getElem?_map, Option.map_eq_some_iff] at hx
      obtain ⟨d, _, rfl⟩ := hx
      exact mkd_newR hnb d
    | mix k rows =>
      simp only [Blk.row?] at hrow
      simp only [List.all_eq_true] at hnb
      exact hnb row (List.mem_of_getElem? hrow) x (List.mem_of_getElem? hx)
    | map es => simp [Blk.entries] at h7

def wo (bs : List Nat) (σ : Nat → Option Loc) (b : Nat) : Option Loc := if bs.contains b then none else σ b
def outs (bs : List Nat) (σ : Nat → Option Loc) (i : Nat) : Option Loc := match bs[i]? with
  | some b => σ b
  | none => none

theorem wo_some {b : Nat} {l : Loc} (h : wo bs σ b = some l) : bs.contains b = false ∧ σ b = some l := by
  unfold wo at h
  split at h
  · cases h
  · rename_i hb; exact ⟨by simpa using hb, h⟩
theorem wo_of : ∀ b l, σ b = some l → bs.contains b = false → wo bs σ b = some l := by
  intro b l h1 h2
  unfold wo
  rw [if_neg (by rw [h2]; exact Bool.false_ne_true)]
  exact h1

theorem look_filter (p : Nat → Bool) : ∀ (H : List (Nat × Blk)) (b : Nat) (blk : Blk), look (H.filter fun q => p q.1) b = some blk → p b = true ∧ look H b = some blk
  | [], b, blk, h => by simp [look] at h
  | (k, v) :: H, b, blk, h => by
    simp only [List.filter_cons] at h
    split at h
    · rename_i hk
      simp only [look] at h ⊢
      split at h
      · rename_i he
        subst he
        rw [if_pos rfl]
        exact ⟨hk, h⟩
      · rename_i he
        rw [if_neg he]
        exact look_filter p H b blk h
    · rename_i hk
      obtain ⟨h1, h2⟩ := look_filter p H b blk h
      refine ⟨h1, ?_⟩
      simp only [look]
      rw [if_neg (fun e => hk (by subst e; exact h1))]
      exact h2

theorem rest_heap (h : HeapRel w F X base σ nx H) : HeapRel w F X base (wo bs σ) nx (restH bs H) := by
  refine ⟨fun b blk hb => ?_, fun b b' l l' h1 h2 => h.inj b b' l l' (wo_some h1).2 (wo_some h2).2, fun b l hb => h.own b l (wo_some hb).2, h.fro⟩
  unfold restH forgetH at hb
  rw [look_mapB] at hb
  simp only [Option.map_eq_some_iff] at hb
  obtain ⟨blk0, h1, rfl⟩ := hb
  obtain ⟨h2, h3⟩ := look_filter (fun b => !bs.contains b) H b blk0 h1
  have h2' : bs.contains b = false := by simpa using h2
  have hs : ∀ l, σ b = some l → wo bs σ b = some l := fun l hl => wo_of b l hl h2'
  refine (h.blk b blk0 h3).forget _ (fun b hb => ⟨hb, rfl⟩) wo_of hs (fun h4 => ?_) (fun _ _ => rfl)
  unfold wo
  split
  · rfl
  · exact h4

def FZ (F : Nat → Prop) (bs : List Nat) (σ : Nat → Option Loc) : Nat → Prop := All F (wo bs σ)

variable {z : Bool}

def Young (X : Nat → Nat → Prop) (base : Nat) (bs : List Nat) (σ : Nat → Option Loc) : Prop := ∀ i l, wo bs σ i = some l → base ≤ l.blk

theorem out_idx {b : Nat} {l : Loc} (h1 : σ b = some l) (h2 : bs.contains b = true) : outs bs σ (bs.idxOf b) = some l := by
  unfold outs
  have hm : b ∈ bs := by simpa using h2
  have : bs[bs.idxOf b]? = some b := by
    rw [List.getElem?_eq_getElem (List.idxOf_lt_length_of_mem hm)]
    rw [List.getElem_idxOf]
  rw [this]
  exact h1

theorem finC_buf {z : Bool} {x y : V} (hy : finC z bs H x = some y) {v : Value} (hv : BufV σ v x) : BufV (outs bs σ) v y := by
  cases x with
  | bsl b i n =>
    simp only [finC] at hy
    split at hy
    · rename_i hb
      obtain rfl := Option.some.inj hy
      obtain ⟨h0, h | ⟨l, h1, h2⟩⟩ := hv
      · exact ⟨h0, .inl h⟩
      · exact ⟨h0, .inr ⟨l, out_idx h1 hb, h2⟩⟩
    · simp only [Option.map_eq_some_iff] at hy
      obtain ⟨d, _, rfl⟩ := hy
      trivial
  | d c d => obtain rfl := Option.some.inj hy; trivial
  | fs c k r => obtain rfl := Option.some.inj hy; trivial
  | ptr b i j =>
    simp only [finC] at hy
    split at hy
    · obtain rfl := Option.some.inj hy; trivial
    · simp only [Option.map_eq_some_iff] at hy
      obtain ⟨d, _, rfl⟩ := hy
      trivial
  | iface t u =>
    simp only [finC, Option.map_eq_some_iff] at hy
    obtain ⟨d, _, rfl⟩ := hy
    trivial
  | map b =>
    simp only [finC] at hy
    split at hy
    · obtain rfl := Option.some.inj hy; trivial
    · cases hy
  | _ => simp [finC] at hy
theorem finA_buf {z : Bool} {x y : V} (hy : finA z bs H x = some y) {v : Value} (hv : BufV σ v x) : BufV (outs bs σ) v y := by
  cases x with
  | agg cs =>
    simp only [finA, Option.map_eq_some_iff] at hy
    obtain ⟨d, _, rfl⟩ := hy
    trivial
  | fn f cs =>
    simp only [finA, Option.map_eq_some_iff] at hy
    obtain ⟨d, _, rfl⟩ := hy
    trivial
  | _ => exact finC_buf (by simpa only [finA] using hy) hv

theorem finC_sound (h : HeapRel w F X base σ nx H) (hy : Young X base bs σ) (v : Value) (x r : V) (hr : finC z bs H x = some r) (hR : RepV w F base σ v x) : RepV w (FZ F bs σ) base (outs bs σ) v r := by
  have hsub : ∀ b, F b → FZ F bs σ b ∧ w.heap[b]? = w.heap[b]? := fun b hb => ⟨.inl hb, rfl⟩
  have frozen : ∀ (x : V), x.newR = true → (∃ y, (viewD viewDepth (restH bs H) x) = some y ∧ r = .d (z && hNew (restH bs H)) y) → RepV w F base (wo bs σ) v x → RepV w (FZ F bs σ) base (outs bs σ) v r := by
    rintro x hx ⟨y, hyy, rfl⟩ hR
    have hH := rest_heap (bs := bs) h
    cases hn : z && hNew (restH bs H) with
    | false => exact .d _ _ _ (viewD_sound hH _ _ _ _ hyy hR)
    | true =>
      simp only [Bool.and_eq_true] at hn
      refine .d _ _ _ ((viewD_sound (hH.newF hn.2) _ _ _ _ hyy (hR.newF hx)).mono fun b hb => ⟨?_, rfl⟩)
      rcases hb with hb | ⟨i, l, hl, rfl⟩
      · exact ⟨.inl hb.1, hb.2⟩
      · exact ⟨.inr ⟨i, l, hl, rfl⟩, hy i l hl⟩
  have hFF : ∀ b, F b → F b ∧ w.heap[b]? = w.heap[b]? := fun b hb => ⟨hb, rfl⟩
  cases x with
  | d c y =>
    simp only [finC, Option.some.injEq] at hr
    subst hr
    cases hR with
    | d _ _ _ hd => exact .d _ _ _ (hd.mono (col_mono hsub c))
  | fs c k rows =>
    simp only [finC, Option.some.injEq] at hr
    subst hr
    cases hR with
    | fs _ _ _ _ _ hd => exact .fs _ _ _ _ _ (hd.mono (col_mono hsub c))
  | ptr b i j =>
    simp only [finC] at hr
    split at hr
    · rename_i hb
      obtain rfl := Option.some.inj hr
      cases hR with
      | ptr _ _ _ l hl => exact .ptr _ _ _ l (out_idx hl hb)
    · rename_i hb
      simp only [Option.map_eq_some_iff] at hr
      obtain ⟨y, hy, rfl⟩ := hr
      exact frozen (.ptr b i j) rfl ⟨y, hy, rfl⟩ (hR.keep0 hFF wo_of (by simpa [V.ref0] using hb))
  | bsl b i n =>
    simp only [finC] at hr
    split at hr
    · rename_i hb
      obtain rfl := Option.some.inj hr
      cases hR with
      | bsl0 => exact .bsl0 _ _ _
      | bsl _ _ _ cap l hl h1 h2 => exact .bsl _ _ _ cap l (out_idx hl hb) h1 h2
    · rename_i hb
      simp only [Option.map_eq_some_iff] at hr
      obtain ⟨y, hy, rfl⟩ := hr
      exact frozen (.bsl b i n) rfl ⟨y, hy, rfl⟩ (hR.keep0 hFF wo_of (by simpa [V.ref0] using hb))
  | iface t u =>
    simp only [finC, Option.map_eq_some_iff] at hr
    obtain ⟨y, hy, rfl⟩ := hr
    exact .d _ _ _ (viewD_sound (rest_heap (bs := bs) h) _ _ _ _ hy (hR.drop1 hFF wo_of))
  | map b =>
    simp only [finC] at hr
    split at hr
    · rename_i hb
      obtain rfl := Option.some.inj hr
      cases hR with
      | map _ l hl => exact .map _ l (out_idx hl hb)
    · cases hr
  | _ => simp [finC] at hr

theorem reps_map {f : V → Option V} {R R' : Value → V → Prop} (hf : ∀ v x r, f x = some r → R v x → R' v r) {cs : Array Value} {xs rs : List V} (hm : mapO f xs = some rs) (hsz : cs.size = xs.length) (h : ∀ (j : Nat) (v : Value) (x : V), cs[j]? = some v → xs[j]? = some x → R v x) :
    cs.size = rs.length ∧ ∀ (j : Nat) (v : Value) (x : V), cs[j]? = some v → rs[j]? = some x → R' v x := by
  obtain ⟨m1, m2⟩ := mapO_some hm
  refine ⟨by omega, fun j v x hv hx => ?_⟩
  have hj : j < xs.length := by rw [← m1]; exact (List.getElem?_eq_some_iff.1 hx).1
  obtain ⟨y, hy, hvd⟩ := m2 j _ (List.getElem?_eq_getElem hj)
  rw [hx] at hy
  obtain rfl := Option.some.inj hy
  exact hf v _ x hvd (h j v _ hv (List.getElem?_eq_getElem hj))

theorem finA_sound (h : HeapRel w F X base σ nx H) (hy : Young X base bs σ) (v : Value) (x r : V) (hr : finA z bs H x = some r) (hR : RepV w F base σ v x) : RepV w (FZ F bs σ) base (outs bs σ) v r := by
  have one : ∀ v x r, finC z bs H x = some r → RepV w F base σ v x → RepV w (FZ F bs σ) base (outs bs σ) v r := fun v x r h1 h2 => finC_sound h hy v x r h1 h2
  cases x with
  | agg xs =>
    simp only [finA, Option.map_eq_some_iff] at hr
    obtain ⟨rs, hm, rfl⟩ := hr
    cases hR with
    | agg cs _ h1 h2 h3 =>
      obtain ⟨g1, g2⟩ := reps_map one hm h1 h2
      exact .agg cs rs g1 g2 h3
  | fn f xs =>
    simp only [finA, Option.map_eq_some_iff] at hr
    obtain ⟨rs, hm, rfl⟩ := hr
    cases hR with
    | fn _ cs _ h1 h2 =>
      obtain ⟨g1, g2⟩ := reps_map one hm h1 h2
      exact .fn f cs rs g1 g2
  | _ => simp only [finA] at hr; exact one v _ r hr hR

theorem finV_sound (h : HeapRel w F X base σ nx H) (hy : Young X base bs σ) {v : Value} {x r : V} (hr : finV z bs H x = some r) (hR : RepV w F base σ v x) : RepV w (FZ F bs σ) base (outs bs σ) v r := by
  cases x with
  | tup xs =>
    simp only [finV, Option.map_eq_some_iff] at hr
    obtain ⟨rs, hm, rfl⟩ := hr
    cases hR with
    | tup cs _ h1 h2 =>
      obtain ⟨g1, g2⟩ := reps_map (finA_sound h hy) hm h1 h2
      exact .tup cs rs g1 g2
  | _ => simp only [finV] at hr; exact finA_sound h hy v _ r hr hR

theorem outs_some {i : Nat} {l : Loc} (hi : outs bs σ i = some l) : ∃ b, bs[i]? = some b ∧ σ b = some l := by
  unfold outs at hi
  split at hi
  · rename_i b hb; exact ⟨b, hb, hi⟩
  · cases hi

theorem finB_heap (h : HeapRel w F X base σ nx H) (hy : Young X base bs σ) (hbs : bs.Nodup) (hX : ∀ b k, X b k → bs[b]? = some b) {news : List Blk} (hm : mapO (finB z bs H) bs = some news) : HeapRel w (FZ F bs σ) X base (outs bs σ) news.length (indexed news) := by
  obtain ⟨m1, m2⟩ := mapO_some hm
  have hsub : ∀ b, F b → FZ F bs σ b ∧ w.heap[b]? = w.heap[b]? := fun b hb => ⟨.inl hb, rfl⟩
  refine ⟨fun i blk hi => ?_, fun i j l l' h1 h2 he => ?_, fun i l hi => ?_, fun b hb => ?_⟩
  · rw [look_indexed] at hi
    have hil : i < bs.length := by rw [← m1]; exact (List.getElem?_eq_some_iff.1 hi).1
    obtain ⟨y, hyy, hb⟩ := m2 i _ (List.getElem?_eq_getElem hil)
    rw [hi] at hyy
    obtain rfl := Option.some.inj hyy
    have hout : outs bs σ i = σ bs[i] := by unfold outs; rw [List.getElem?_eq_getElem hil]
    unfold finB at hb
    split at hb
    · rename_i c k rows hlk
      obtain rfl := Option.some.inj hb
      rcases h.blk _ _ hlk with ⟨g1, g2⟩ | ⟨_, _, _, _, hbad, _⟩ | ⟨l, cs, T, g1, g2, g3, g4, g5, g6, g7⟩
      · exact .inl ⟨g1, by rw [hout]; exact g2⟩
      · cases hbad
      · refine .inr <| .inr ⟨l, cs, T, by rw [hout]; exact g1, g2, g3, g4, g5, fun i row hrow => ⟨(g6 i row hrow).1, fun j x hx => ?_⟩, g7⟩
        obtain ⟨v, e1, e2, e3⟩ := (g6 i row hrow).2 j x hx
        refine ⟨v, e1, e2, ?_⟩
        simp only [Blk.row?, Option.map_eq_some_iff] at hrow
        obtain ⟨r, _, rfl⟩ := hrow
        simp only [List.getElem?_map, Option.map_eq_some_iff] at hx
        obtain ⟨d, _, rfl⟩ := hx
        refine e3.keep0 (p := fun _ => true) hsub (fun _ _ _ h => by cases h) ?_
        unfold mkd
        split <;> rfl
    · rename_i k rows hlk
      simp only [Option.map_eq_some_iff] at hb
      obtain ⟨rows', hrows, rfl⟩ := hb
      obtain ⟨p1, p2⟩ := mapO_some hrows
      rcases h.blk _ _ hlk with ⟨g1, g2⟩ | ⟨_, _, _, _, hbad, _⟩ | ⟨l, cs, T, g1, g2, g3, g4, g5, g6, g7⟩
      · exact .inl ⟨by simp only [Blk.n] at g1 ⊢; omega, by rw [hout]; exact g2⟩
      · cases hbad
      · refine .inr <| .inr ⟨l, cs, T, by rw [hout]; exact g1, g2, g3, by simp only [Blk.n] at g4 ⊢; omega, g5, fun i row hrow => ?_, rfl⟩
        simp only [Blk.row?] at hrow
        have hi' : i < rows.length := by rw [← p1]; exact (List.getElem?_eq_some_iff.1 hrow).1
        obtain ⟨row', hrow', hm'⟩ := p2 i _ (List.getElem?_eq_getElem hi')
        rw [hrow] at hrow'
        obtain rfl := Option.some.inj hrow'
        obtain ⟨q1, q2⟩ := mapO_some hm'
        obtain ⟨r1, r2⟩ := g6 i rows[i] (by simp [Blk.row?, hi'])
        refine ⟨by simp only [Blk.k] at r1 ⊢; omega, fun j x hx => ?_⟩
        have hj : j < rows[i].length := by rw [← q1]; exact (List.getElem?_eq_some_iff.1 hx).1
        obtain ⟨x', hx', hfx⟩ := q2 j _ (List.getElem?_eq_getElem hj)
        rw [hx] at hx'
        obtain rfl := Option.some.inj hx'
        obtain ⟨v, e1, e2, e3⟩ := r2 j _ (List.getElem?_eq_getElem hj)
        exact ⟨v, e1, e2, finC_sound h hy v _ x hfx e3⟩
    · rename_i es hlk
      simp only [Option.map_eq_some_iff] at hb
      obtain ⟨es', hes, rfl⟩ := hb
      obtain ⟨p1, p2⟩ := mapO_some hes
      rcases h.blk _ _ hlk with ⟨g1, _⟩ | ⟨l, xs, ck, ds, hds, g1, g2, g3, g4, g5⟩ | ⟨_, _, _, _, _, _, _, _, _, hbad⟩
      · refine .inl ⟨?_, by rw [hout]; assumption⟩
        have hk := keys_mapO hes
        simp only [Blk.n, nilBuf, hk] at g1 ⊢
        exact g1
      · obtain rfl : es = ds := by injection hds
        refine .inr (.inl ⟨l, xs, ck, es', rfl, by rw [hout]; exact g1, g2.ofO rfl hes (fun q hq y hy v hv => finA_buf hy hv), g3, g4, by rw [g5.1, p1], fun j e p he hp => ?_⟩)
        have hj : j < es.length := by rw [← p1]; exact (List.getElem?_eq_some_iff.1 hp).1
        obtain ⟨y, hy', hfy⟩ := p2 j _ (List.getElem?_eq_getElem hj)
        rw [hp] at hy'
        obtain rfl := Option.some.inj hy'
        simp only [Option.map_eq_some_iff] at hfy
        obtain ⟨u, hu, rfl⟩ := hfy
        obtain ⟨q1, q2, q3⟩ := g5.2 j e _ he (List.getElem?_eq_getElem hj)
        exact ⟨q1, q2.flat q1, finA_sound h hy _ _ u hu q3⟩
      · simp [Blk.entries] at hbad
    · cases hb
  · obtain ⟨b, hb, h3⟩ := outs_some h1
    obtain ⟨b', hb', h4⟩ := outs_some h2
    obtain rfl := h.inj b b' l l' h3 h4 he
    have hi := (List.getElem?_eq_some_iff.1 hb).1
    exact (List.getElem?_inj hi hbs).1 (hb.trans hb'.symm)
  · obtain ⟨b, hb, h3⟩ := outs_some hi
    obtain ⟨o1, o2, o3, o4⟩ := h.own b l h3
    refine ⟨by rw [m1]; exact (List.getElem?_eq_some_iff.1 hb).1, ?_, o3.imp id (fun hx => ?_), o4⟩
    · rintro (hF | ⟨b', l', hl', he⟩)
      · exact o2 hF
      · obtain ⟨h5, h6⟩ := wo_some hl'
        obtain rfl := h.inj b' b l' l h6 h3 he
        have : b' ∈ bs := List.mem_of_getElem? hb
        simp [this] at h5
    · have := (List.getElem?_inj (List.getElem?_eq_some_iff.1 hb).1 hbs).1 (hb.trans (hX b _ hx).symm)
      rw [this]
      exact hx
  · rcases hb with hb | ⟨i, l, hl, rfl⟩
    · exact h.fro b hb
    · exact (h.own i l (wo_some hl).2).2.2.2

def rvGet (tmps : Array Value) (rv : ResultVar) : Sem Value := match rv with
  | .tmp t => pure (tmps.getD t undef)
  | .cell b t => do loadVar t (← asAddr (tmps.getD b undef))

theorem results_eq (fn : Func) (tmps : Array Value) : results fn tmps = (do
    let vs ← fn.results.mapM (rvGet tmps)
    pure (if h : vs.size = 1 then vs[0] else .tuple vs)) := by
  unfold results
  congr 1

theorem results_sound {K : Cx} {n m0 : Nat} {σ0 : Nat → Option Loc} {w0 : World} {F0 : Nat → Prop} {s : S} {a : Act} (h : StRel K X base w0 F0 m0 σ0 n s a w F σ) {fn : Func} {es : List E} {vs : List V} (he : mapO (resE P) fn.results.toList = some es) (hv : mapO (ev K s) es = some vs) :
    ∃ v, (results fn a.tmps).run P w = .ok v w ∧ RepV w F base σ v (oneOr vs) := by
  have one : ∀ (rv : ResultVar) (e : E) (x : V), resE P rv = some e → ev K s e = some x → ∃ v, (rvGet a.tmps rv).run P w = .ok v w ∧ RepV w F base σ v x := by
    intro rv e x he hx
    cases rv with
    | tmp t =>
      simp only [resE, Option.some.injEq] at he
      subst he
      simp only [ev] at hx
      exact ⟨_, rfl, h.rho t x hx⟩
    | cell b t =>
      simp only [resE] at he
      cases hi : P.info? t with
      | none => simp [hi] at he
      | some i =>
        cases hd : P.underlying t with
        | none => simp [hi, hd] at he
        | some d =>
          simp only [hi, hd, Option.some.injEq] at he
          subst he
          simp only [ev] at hx
          cases hp : look s.rho b with
          | none => simp [hp] at hx
          | some p =>
            simp only [hp] at hx
            rw [evLd_eq] at hx
            cases hc : cellsAt s.heap p with
            | none => simp [hc] at hx
            | some xs =>
              simp only [hc, Option.bind_some] at hx
              obtain ⟨ba, of, hva, hcell⟩ := cellsAt_sound h.heap hc (h.rho b p hp)
              obtain ⟨v, h1, h2⟩ := loadVar_sound (P := P) hd hi hcell hx
              exact ⟨v, by simp [rvGet, hva, asAddr, h1], h2⟩
  have many : ∀ (l : List ResultVar) (es : List E) (vs : List V), mapO (resE P) l = some es → mapO (ev K s) es = some vs → ∃ us : List Value, (l.mapM (rvGet a.tmps)).run P w = .ok us w ∧ us.length = vs.length ∧ ∀ (j : Nat) (v : Value) (x : V), us[j]? = some v → vs[j]? = some x → RepV w F base σ v x := by
    intro l
    induction l with
    | nil =>
      intro es vs he hv
      simp only [mapO, Option.some.injEq] at he
      subst he
      simp only [mapO, Option.some.injEq] at hv
      subst hv
      exact ⟨[], by simp, rfl, fun j v x h => by simp at h⟩
    | cons rv l ih =>
      intro es vs he hv
      simp only [mapO] at he
      cases hr : resE P rv with
      | none => simp [hr] at he
      | some e =>
        cases hl : mapO (resE P) l with
        | none => simp [hr, hl] at he
        | some es' =>
          simp only [hr, hl, Option.some.injEq] at he
          subst he
          simp only [mapO] at hv
          cases hx : ev K s e with
          | none => simp [hx] at hv
          | some x =>
            cases hxs : mapO (ev K s) es' with
            | none => simp [hx, hxs] at hv
            | some xs =>
              simp only [hx, hxs, Option.some.injEq] at hv
              subst hv
              obtain ⟨v, h1, h2⟩ := one rv e x hr hx
              obtain ⟨us, h3, h4, h5⟩ := ih es' xs hl hxs
              refine ⟨v :: us, ?_, by simp [h4], fun j u y hu hy => ?_⟩
              · rw [List.mapM_cons, Sem.run_bind, h1]
                show Sem.run P (do let a ← List.mapM _ l; pure (v :: a)) w = _
                rw [Sem.run_bind, h3]
                rfl
              · cases j with
                | zero => simp only [List.getElem?_cons_zero, Option.some.injEq] at hu hy; subst hu; subst hy; exact h2
                | succ j => exact h5 j u y (by simpa using hu) (by simpa using hy)
  obtain ⟨us, h1, h2, h3⟩ := many _ es vs he hv
  refine ⟨if h : us.length = 1 then us[0] else .tuple us.toArray, ?_, ?_⟩
  · rw [results_eq, Sem.run_bind]
    rw [Array.mapM_eq_mapM_toList, ← bind_pure_comp, Sem.run_bind, h1]
    show Sem.run P (pure (if h : us.toArray.size = 1 then us.toArray[0] else .tuple us.toArray)) w = _
    by_cases hu : us.length = 1
    · rw [dif_pos hu, dif_pos (by simpa using hu)]; rfl
    · rw [dif_neg hu, dif_neg (by simpa using hu)]; rfl
  · match us, vs, h2, h3 with
    | [], [], _, h3 => exact .tup _ _ rfl fun j v x hv hx => h3 j v x (by simp at hv) hx
    | [u], [x], _, h3 => exact h3 0 u x rfl rfl
    | u1 :: u2 :: us, x1 :: x2 :: xs, h2, h3 =>
      simp only [List.length_cons, Nat.reduceEqDiff, oneOr]
      rw [dif_neg (by simp)]
      exact .tup _ _ (by simpa using h2) fun j v x hv hx => h3 j v x (by simpa using hv) hx

theorem look_args (l : List V) : ∀ (k t : Nat) (v : V), look ((l.zipIdx k).map fun (v, i) => (i, v)) t = some v → k ≤ t ∧ l[t - k]? = some v := by
  induction l with
  | nil => intro k t v h; simp [look] at h
  | cons x l ih =>
    intro k t v h
    simp only [List.zipIdx_cons, List.map_cons, look] at h
    split at h
    · rename_i he
      subst he
      exact ⟨Nat.le_refl _, by simpa using h⟩
    · obtain ⟨h1, h2⟩ := ih (k + 1) t v h
      refine ⟨by omega, ?_⟩
      have : t - k = (t - (k + 1)) + 1 := by omega
      rw [this, List.getElem?_cons_succ]
      exact h2

theorem run_sound (hm : P.follows .mixedOrders = true) {K : Cx} (hK : K.Sound P) {f : FuncId} {g : Fun} {args : List V} {blks : List Blk} {r : V} {news : List Blk} {mv : List Nat} (hok : funOk P f blks.length args.length g = true) (hr : runFun K g args blks = some (r, news, mv))
    {w : World} {F : Nat → Prop} {σ : Nat → Option Loc} {vals : Array Value} (hG : GlobRel w F K.glob) (hH : HeapRel w F (OwnB σ) w.heap.size σ blks.length (indexed blks)) (hargs : Reps w F w.heap.size σ vals args) :
    callable P f = true ∧ Calls P f vals w fun e w' => ∃ v F' σ', e = .returned v ∧ Frame (OwnB σ) w.heap.size w w' ∧ (∀ b, F b → F' b) ∧ (∀ b, F' b → F b ∨ w.heap.size ≤ b) ∧
      RepV w' F' w.heap.size σ' v r ∧ HeapRel w' F' (OwnB σ) w.heap.size σ' news.length (indexed news) ∧ ∀ i l, i < blks.length → σ i = some l → i ∉ mv → σ' i = some l := by
  unfold funOk at hok
  cases hf : P.funcs[f]? with
  | none => simp [hf] at hok
  | some fn =>
    cases hb : fn.body with
    | none => simp [hf, hb] at hok
    | some code =>
      simp only [hf, hb, Bool.and_eq_true, decide_eq_true_eq] at hok
      obtain ⟨⟨⟨hc, hres⟩, hn⟩, hname⟩ := hok
      refine ⟨by simp [callable, hf, hb, hname], ?_⟩
      refine calls_of_wp hf hb ?_
      have hst : StRel K (OwnB σ) w.heap.size w F blks.length σ fn.ntmps (startS args blks) { tmps := vals ++ Array.replicate (fn.ntmps - vals.size) undef, defers := [] } w F σ := by
        refine ⟨hH, hG, Nat.le_refl _, .refl _ _ _, fun b hb => .inl hb, ?_, rfl, fun t v hv => ?_, fun b blk h => ?_, fun _ _ _ h _ => h, Nat.le_refl _, fun b k hx => ?_, fun _ h => h⟩
        · have := hargs.1
          simp; omega
        · obtain ⟨_, hv'⟩ := look_args args 0 t v hv
          rw [Nat.sub_zero] at hv'
          have ht : t < vals.size := by rw [hargs.1]; exact (List.getElem?_eq_some_iff.1 hv').1
          have hget : (vals ++ Array.replicate (fn.ntmps - vals.size) undef).getD t undef = vals[t] := by
            rw [Array.getD_eq_getD_getElem?, Array.getElem?_append_left ht]
            simp [ht]
          show RepV w F w.heap.size σ ((vals ++ Array.replicate (fn.ntmps - vals.size) undef).getD t undef) v
          rw [hget]
          exact hargs.2 t _ v (by simp [ht]) hv'
        · have : (indexed blks).length = blks.length := by simp [indexed]
          simp only [startS] at h ⊢
          rw [look_indexed] at h
          exact (List.getElem?_eq_some_iff.1 h).1
        · obtain ⟨l, hl, _⟩ := hx
          exact (hH.own b l hl).1
      have fin : ∀ (s : S) (a : Act) (w' : World) (F' : Nat → Prop) (σ' : Nat → Option Loc) (vs : List V), StRel K (OwnB σ) w.heap.size w F blks.length σ fn.ntmps s a w' F' σ' → mapO (ev K s) g.res = some vs → finish blks.length g.own s (oneOr vs) = some (r, news, mv) →
          a.defers = [] ∧ ∃ v, (results fn a.tmps).run P w' = .ok v w' ∧ ∃ v' F' σ', Ending.returned v = .returned v' ∧ Frame (OwnB σ) w.heap.size w w' ∧ (∀ b, F b → F' b) ∧ (∀ b, F' b → F b ∨ w.heap.size ≤ b) ∧
            RepV w' F' w.heap.size σ' v' r ∧ HeapRel w' F' (OwnB σ) w.heap.size σ' news.length (indexed news) ∧ ∀ i l, i < blks.length → σ i = some l → i ∉ mv → σ' i = some l := by
        intro s a w' F' σ' vs hs hvs hfin
        obtain ⟨v, h1, h2⟩ := results_sound hs hres hvs
        unfold finish at hfin
        simp only at hfin
        generalize (if g.own = true then reachB s.heap 64 [] (List.range blks.length ++ (oneOr vs).refs) else List.range blks.length) = bs at hfin
        split at hfin
        case isFalse => cases hfin
        rename_i hc2
        simp only [Bool.and_eq_true, decide_eq_true_eq] at hc2
        obtain ⟨hnd, hpre⟩ := hc2
        cases h3 : finV (blks.length == 0) bs s.heap (oneOr vs) with
        | none => simp [h3] at hfin
        | some r' =>
          cases h4 : mapO (finB (blks.length == 0) bs s.heap) bs with
          | none => simp [h3, h4] at hfin
          | some news' =>
            simp only [h3, h4, Option.some.injEq, Prod.mk.injEq] at hfin
            obtain ⟨rfl, rfl, rfl⟩ := hfin
            have hpin : ∀ b, b < blks.length → bs[b]? = some b := fun b hb' => by
              have : (bs.take blks.length)[b]? = some b := by rw [hpre]; simp [hb']
              simpa [List.getElem?_take, hb'] using this
            have hX : ∀ b k, OwnB σ b k → bs[b]? = some b := fun b k hx => hpin b (hs.xm b k hx)
            have hy : Young (OwnB σ) w.heap.size bs σ' := by
              intro i l hl
              obtain ⟨hni, hl'⟩ := wo_some hl
              rcases (hs.heap.own i l hl').2.2.1 with h | h
              · exact h
              · have := List.mem_of_getElem? (hX i _ h)
                simp [this] at hni
            refine ⟨hs.dfr, v, h1, v, FZ F' bs σ', outs bs σ', rfl, hs.frame, fun b hb' => .inl (hs.sub b hb'), fun b hb' => ?_, finV_sound hs.heap hy h3 h2, finB_heap hs.heap hy hnd hX h4, fun i l hi hl hm' => ?_⟩
            · rcases hb' with hb' | ⟨i, l, hl, rfl⟩
              · exact hs.frz b hb'
              · exact .inr (hy i l hl)
            · unfold outs
              rw [hpin i hi]
              exact hs.stab i l hi hl hm'
      unfold runFun at hr
      cases hex : exec K g.body (startS args blks) with
      | none => simp [hex] at hr
      | some p =>
        obtain ⟨ex, s⟩ := p
        refine wp_mono (exec_sound hm hK g.body code _ _ _ _ _ _ hc hex hst) fun e a w' hp => ?_
        obtain ⟨rfl, F', σ', hs⟩ := hp
        cases ex with
        | nrm =>
          simp only [hex] at hr
          cases hvs : mapO (ev K s) g.res with
          | none => simp [hvs] at hr
          | some vs =>
            simp only [hvs] at hr
            exact fin s a w' F' σ' vs hs hvs hr
        | ret =>
          simp only [hex] at hr
          cases hvs : mapO (ev K s) g.res with
          | none => simp [hvs] at hr
          | some vs =>
            simp only [hvs] at hr
            exact fin s a w' F' σ' vs hs hvs hr
        | exit id => simp [hex] at hr
        | goto l => simp [hex] at hr

theorem pure_sound (hm : P.follows .mixedOrders = true) {K : Cx} (hK : K.Sound P) {f : FuncId} {g : Fun} {args : List V} {r : V} {news : List Blk} {mv : List Nat} (hok : funOk P f 0 args.length g = true) (hr : runFun K g args [] = some (r, news, mv)) :
    callable P f = true ∧ PureCall P K.glob f args r news := by
  have hcal : callable P f = true := by
    unfold funOk at hok
    cases hf : P.funcs[f]? with
    | none => simp [hf] at hok
    | some fn =>
      cases hb : fn.body with
      | none => simp [hf, hb] at hok
      | some code =>
        simp only [hf, hb, Bool.and_eq_true] at hok
        simp [callable, hf, hb, hok.2]
  refine ⟨hcal, fun w F vals hF hG hargs => ?_⟩
  have hX : ∀ b k, ¬ OwnB (fun _ => none) b k := by rintro b k ⟨l, h, _⟩; cases h
  have hH : HeapRel w F (OwnB fun _ => none) w.heap.size (fun _ => none) ([] : List Blk).length (indexed []) := ⟨fun b blk h => by simp [indexed, look] at h, fun b b' l l' h => (by cases h), fun b l h => (by cases h), hF⟩
  obtain ⟨_, h⟩ := run_sound hm hK hok hr hG hH hargs
  refine h.mono fun e w' ⟨v, F', σ', he, hfr, _, hF', hR, hHr, _⟩ => ⟨v, F', σ', he, ⟨hfr.os, hfr.tape, hfr.output, hfr.size, fun k hk => hfr.block k hk (fun b => hX b k)⟩, hF', hR, ⟨hHr.blk, hHr.inj, fun b l hb => ?_, hHr.fro⟩⟩
  obtain ⟨o1, o2, o3, o4⟩ := hHr.own b l hb
  exact ⟨o1, o2, o3.imp id (fun hx => hX b _ hx), o4⟩

theorem eff_sound (hm : P.follows .mixedOrders = true) {K : Cx} (hK : K.Sound P) {f : FuncId} {g : Fun} {args : List V} {blks : List Blk} {r : V} {news : List Blk} {mv : List Nat} (hok : funOk P f blks.length args.length g = true) (hr : runFun K g args blks = some (r, news, mv)) :
    callable P f = true ∧ EffCall P K.glob f args blks r news mv := by
  have hcal : callable P f = true := by
    unfold funOk at hok
    cases hf : P.funcs[f]? with
    | none => simp [hf] at hok
    | some fn =>
      cases hb : fn.body with
      | none => simp [hf, hb] at hok
      | some code =>
        simp only [hf, hb, Bool.and_eq_true] at hok
        simp [callable, hf, hb, hok.2]
  exact ⟨hcal, fun w F σ vals hG hH hargs => (run_sound hm hK hok hr hG hH hargs).2⟩

end Go.Vm
end

section
namespace Go.Vm

theorem iter_more {f : S → Option (Ex × S)} : ∀ {n : Nat} {s : S} {r : Ex × S}, iter f n s = some r → ∀ m, n ≤ m → iter f m s = some r
  | 0, s, r, h, m, _ => by simp [iter] at h
  | n + 1, s, r, h, 0, hm => by omega
  | n + 1, s, r, h, m + 1, hm => by
    simp only [iter] at h ⊢
    cases hf : f s with
    | none => simp [hf] at h
    | some p =>
      obtain ⟨e, s'⟩ := p
      cases e with
      | nrm => simp only [hf] at h ⊢; exact iter_more h m (by omega)
      | exit id => simpa [hf] using h
      | goto l => simpa [hf] using h
      | ret => simpa [hf] using h

theorem loopF_of {f : S → Option (Ex × S)} {n : Nat} {s : S} {r : Ex × S} (h : iter f n s = some r) : loopF f s = some r := by
  have hex : ∃ n, (iter f n s).isSome := ⟨n, by rw [h]; rfl⟩
  unfold loopF
  rw [dif_pos hex]
  have hc := hex.choose_spec
  obtain ⟨r', hr'⟩ := Option.isSome_iff_exists.1 hc
  have h1 := iter_more h (n + hex.choose) (by omega)
  have h2 := iter_more hr' (n + hex.choose) (by omega)
  rw [hr', ← h2, h1]

theorem loopF_run {α : Type} {f : S → Option (Ex × S)} (st : α → S) (μ : α → Nat) (out : α → Ex × S) (round : ∀ x, (∃ y, f (st x) = some (.nrm, st y) ∧ μ y < μ x ∧ out y = out x) ∨ (f (st x) = some (out x) ∧ (out x).1 ≠ .nrm)) (x : α) : loopF f (st x) = some (out x) := by
  have key : ∀ n x, μ x < n → iter f n (st x) = some (out x) := by
    intro n
    induction n with
    | zero => intro x h; omega
    | succ n ih =>
      intro x h
      simp only [iter]
      rcases round x with ⟨y, h1, h2, h3⟩ | ⟨h1, h2⟩
      · rw [h1]
        simp only
        rw [ih y (by omega), h3]
      · rw [h1]
        generalize hx : out x = q at h2
        obtain ⟨e, s'⟩ := q
        cases e with
        | nrm => exact absurd rfl h2
        | exit id => rfl
        | goto l => rfl
        | ret => rfl
  exact loopF_of (key _ x (Nat.lt_succ_self _))

theorem jumps_more {f : Nat → Option (S → Option (Ex × S))} : ∀ {n : Nat} {q : Option (Ex × S)} {r : Ex × S}, jumps f n q = some r → ∀ m, n ≤ m → jumps f m q = some r
  | 0, q, r, h, m, _ => by simp [jumps] at h
  | n + 1, q, r, h, 0, hm => by omega
  | n + 1, q, r, h, m + 1, hm => by
    simp only [jumps] at h ⊢
    cases q with
    | none => simp at h
    | some p =>
      obtain ⟨e, s'⟩ := p
      cases e with
      | goto l =>
        simp only at h ⊢
        cases hl : f l with
        | none => simp [hl] at h
        | some g => simp only [hl] at h ⊢; exact jumps_more h m (by omega)
      | nrm => simpa using h
      | exit id => simpa using h
      | ret => simpa using h

theorem scopeF_of {f : Nat → Option (S → Option (Ex × S))} {n : Nat} {q : Option (Ex × S)} {r : Ex × S} (h : jumps f n q = some r) : scopeF f q = some r := by
  have hex : ∃ n, (jumps f n q).isSome := ⟨n, by rw [h]; rfl⟩
  unfold scopeF
  rw [dif_pos hex]
  have hc := hex.choose_spec
  obtain ⟨r', hr'⟩ := Option.isSome_iff_exists.1 hc
  have h1 := jumps_more h (n + hex.choose) (by omega)
  have h2 := jumps_more hr' (n + hex.choose) (by omega)
  rw [hr', ← h2, h1]

end Go.Vm
end

section
namespace Go.Vm
open Go.RowKit Go.Deep

variable {H : Type} {enc : TypeId × Value → H} {P : Program} {w : World} {spare : Nat → Bool} {held : Bool}

def laidFrom (P : Program) (T : TypeId → Bool) : Nat → List Field → Option Nat
  | off, [] => some off
  | off, f :: fs => if f.offset = off ∧ T f.type = true then laidFrom P T (off + P.cellsOf f.type) fs else none
def plainT (P : Program) : Nat → TypeId → Bool
  | 0, _ => false
  | n + 1, t => match P.underlying t with
    | some .bool | some (.int _) | some .string => true
    | some (.slice e) => decide (0 < P.cellsOf e) && plainT P n e
    | some (.struct fs) => decide (laidFrom P (plainT P n) 0 fs.toList = some (P.cellsOf t))
    | _ => false

def TypedF (P : Program) (T : TypeId → List D → Prop) : List Field → List D → Prop
  | [], ds => ds = []
  | f :: fs, ds => ∃ a b, ds = a ++ b ∧ a.length = P.cellsOf f.type ∧ T f.type a ∧ TypedF P T fs b
def Typed (P : Program) : Nat → TypeId → List D → Prop
  | 0, _, _ => False
  | n + 1, t, ds => match P.underlying t with
    | some .bool => ∃ b, ds = [.bool b]
    | some (.int k) => ∃ m, ds = [.int k m] ∧ (Lit.int k m).wf = true
    | some .string => ∃ s, ds = [.str s] ∧ s.length ≤ maxLen
    | some (.slice e) => ∃ rows : List (List D), ds = [.sl (P.cellsOf e) rows] ∧ rows.length ≤ maxLen ∧ ∀ r ∈ rows, r.length = P.cellsOf e ∧ Typed P n e r
    | some (.struct fs) => TypedF P (Typed P n) fs.toList ds
    | _ => False

def There (w : World) (b : Nat) : Prop := b < w.heap.size

def RepL (w : World) (cs : List Value) (ds : List D) : Prop := ds.length = cs.length ∧ ∀ (j : Nat) (v : Value) (d : D), cs[j]? = some v → ds[j]? = some d → RepD w (There w) v d

theorem RepL.append {a b : List Value} {x y : List D} (h1 : RepL w a x) (h2 : RepL w b y) : RepL w (a ++ b) (x ++ y) := by
  refine ⟨by simp [h1.1, h2.1], fun j v d hv hd => ?_⟩
  by_cases hj : j < a.length
  · rw [List.getElem?_append_left hj] at hv
    rw [List.getElem?_append_left (by rw [h1.1]; exact hj)] at hd
    exact h1.2 j v d hv hd
  · rw [List.getElem?_append_right (by omega)] at hv
    rw [List.getElem?_append_right (by rw [h1.1]; omega), h1.1] at hd
    exact h2.2 _ v d hv hd

theorem RepL.one {v : Value} {d : D} (h : RepD w (There w) v d) : RepL w [v] [d] := by
  refine ⟨rfl, fun j u x hu hx => ?_⟩
  cases j with
  | zero => simp at hu hx; subst hu; subst hx; exact h
  | succ j => simp at hu

theorem fields_rep (T : TypeId → Bool) (Ty : TypeId → List D → Prop) (g : TypeId → List Value → Option (DataW H × List MemPlace))
    (hT : ∀ t cs x, T t = true → g t cs = some x → cs.length = P.cellsOf t → ∃ ds, RepL w cs ds ∧ Ty t ds) (cs : List Value) :
    ∀ (fs : List Field) (off : Nat) (xs : List (DataW H × List MemPlace)), laidFrom P T off fs = some cs.length → (fs.mapM fun f => g f.type ((cs.drop f.offset).take (P.cellsOf f.type))) = some xs → ∃ ds, RepL w (cs.drop off) ds ∧ TypedF P Ty fs ds
  | [], off, xs, hl, _ => by
    simp only [laidFrom, Option.some.injEq] at hl
    refine ⟨[], ⟨by simp [hl], fun j v d _ hd => by simp at hd⟩, rfl⟩
  | f :: fs, off, xs, hl, hm => by
    simp only [laidFrom] at hl
    split at hl
    case isFalse => cases hl
    rename_i hc
    obtain ⟨ho, ht⟩ := hc
    rw [List.mapM_cons] at hm
    cases hg : g f.type ((cs.drop f.offset).take (P.cellsOf f.type)) with
    | none => rw [hg] at hm; cases hm
    | some x =>
      rw [hg] at hm
      cases hr : fs.mapM (fun f => g f.type ((cs.drop f.offset).take (P.cellsOf f.type))) with
      | none => rw [hr] at hm; cases hm
      | some ys =>
        have hle : ∀ (fs : List Field) (off m : Nat), laidFrom P T off fs = some m → off ≤ m := by
          intro fs
          induction fs with
          | nil => intro off m h; simp only [laidFrom, Option.some.injEq] at h; omega
          | cons f fs ih =>
            intro off m h
            simp only [laidFrom] at h
            split at h
            · have := ih _ _ h; omega
            · cases h
        have hb := hle _ _ _ hl
        obtain ⟨ds, h1, h2⟩ := fields_rep T Ty g hT cs fs _ ys hl hr
        have hlen : ((cs.drop off).take (P.cellsOf f.type)).length = P.cellsOf f.type := by
          rw [List.length_take, List.length_drop]; omega
        rw [ho] at hg
        obtain ⟨as, h3, h4⟩ := hT f.type _ x ht hg hlen
        refine ⟨as ++ ds, ?_, as, ds, rfl, by rw [h3.1]; exact hlen, h4, h2⟩
        have := h3.append h1
        rwa [← List.drop_drop, List.take_append_drop] at this

theorem cells?_get {base n : Nat} {a : Addr} {cs : List Value} (h : w.cells? base a n = some cs) : cs.length = n ∧ ∀ (i : Nat) (v : Value), cs[i]? = some v → w.cell? (a.add i) = some v := by
  unfold World.cells? at h
  split at h
  case isFalse => cases h
  have key : ∀ (l : List Nat) (cs : List Value), (l.mapM fun i => w.cell? (a.add i)) = some cs → cs.length = l.length ∧ ∀ (i : Nat) (v : Value), cs[i]? = some v → ∃ j : Nat, l[i]? = some j ∧ w.cell? (a.add j) = some v := by
    intro l
    induction l with
    | nil => intro cs h; simp at h; subst h; exact ⟨rfl, fun i v h => by simp at h⟩
    | cons m l ih =>
      intro cs h
      rw [List.mapM_cons] at h
      cases hm : w.cell? (a.add m) with
      | none => rw [hm] at h; cases h
      | some v =>
        rw [hm] at h
        cases hr : l.mapM (fun i => w.cell? (a.add i)) with
        | none => rw [hr] at h; cases h
        | some vs =>
          rw [hr] at h
          obtain rfl : v :: vs = cs := Option.some.inj h
          obtain ⟨h1, h2⟩ := ih vs hr
          refine ⟨by simp [h1], fun i u hu => ?_⟩
          cases i with
          | zero => simp at hu; subst hu; exact ⟨m, rfl, hm⟩
          | succ i => simpa using h2 i u (by simpa using hu)
  obtain ⟨h1, h2⟩ := key _ _ h
  refine ⟨by simpa using h1, fun i v hv => ?_⟩
  obtain ⟨j, hj, hc⟩ := h2 i v hv
  have : j = i := by
    rw [List.getElem?_range] at hj
    · simpa using hj.symm
    · have := (List.getElem?_eq_some_iff.1 hv).1
      simp at h1; omega
  subst this
  exact hc

theorem exists_list {α : Type} {Q : Nat → α → Prop} : ∀ (n : Nat), (∀ i, i < n → ∃ y, Q i y) → ∃ l : List α, l.length = n ∧ ∀ (i : Nat) (y : α), l[i]? = some y → Q i y
  | 0, _ => ⟨[], rfl, fun i y h => by simp at h⟩
  | n + 1, h => by
    obtain ⟨l, h1, h2⟩ := exists_list n (fun i hi => h i (by omega))
    obtain ⟨y, hy⟩ := h n (by omega)
    refine ⟨l ++ [y], by simp [h1], fun i z hz => ?_⟩
    by_cases hi : i < l.length
    · rw [List.getElem?_append_left hi] at hz
      exact h2 i z hz
    · rw [List.getElem?_append_right (by omega)] at hz
      have : i - l.length = 0 := by
        rcases Nat.eq_zero_or_pos (i - l.length) with h | h
        · exact h
        · rw [List.getElem?_eq_none (by simp; omega)] at hz; cases hz
      rw [this] at hz
      simp at hz
      subst hz
      have : i = n := by omega
      subst this
      exact hy

theorem trod_rep : ∀ (n fuel : Nat) (t : TypeId) (cs : List Value) (x : DataW H × List MemPlace), plainT P n t = true → DataW.trod enc P w 0 spare held fuel t cs = some x → ∃ ds, RepL w cs ds ∧ Typed P n t ds
  | 0, _, _, _, _, h, _ => by simp [plainT] at h
  | _ + 1, 0, _, _, _, _, h => by simp [DataW.trod] at h
  | n + 1, fuel + 1, t, cs, x, hp, h => by
    simp only [plainT] at hp
    cases ht : P.underlying t with
    | none => simp [ht] at hp
    | some d =>
      simp only [Typed, ht] at hp ⊢
      cases d with
      | bool =>
        have : ∃ b, cs = [.bool b] := by
          unfold DataW.trod at h
          simp only [ht] at h
          split at h <;> first | (exact ⟨_, rfl⟩) | (simp_all; done) | (cases h; done)
        obtain ⟨b, rfl⟩ := this
        exact ⟨_, .one (.bool b), b, rfl⟩
      | int k =>
        have : ∃ m, cs = [.int k m] ∧ (Lit.int k m).wf = true := by
          unfold DataW.trod at h
          simp only [ht] at h
          split at h <;> first | (cases h; done) | skip
          all_goals (try (simp_all; done))
          all_goals (split at h <;> first | (cases h; done) | skip)
          all_goals (simp_all)
        obtain ⟨m, rfl, hw⟩ := this
        exact ⟨_, .one (.int k m), m, rfl, hw⟩
      | string =>
        have : ∃ b : ByteArray, cs = [.string b] ∧ b.size ≤ maxLen := by
          unfold DataW.trod at h
          simp only [ht] at h
          split at h <;> first | (cases h; done) | skip
          all_goals (try (simp_all; done))
          all_goals (split at h <;> first | (cases h; done) | skip)
          all_goals (simp_all)
        obtain ⟨b, rfl, hb⟩ := this
        exact ⟨_, .one (.str b), _, rfl, by simpa using hb⟩
      | slice e =>
        simp only [Bool.and_eq_true, decide_eq_true_eq] at hp
        rcases open_slice ht h with ⟨rfl, _⟩ | ⟨a, len, cap, m, n', Dd, Pl, rfl, _, hlc, hcm, hm, _, hel⟩
        · exact ⟨_, .one (.sl0 none 0 (P.cellsOf e) (fun _ => rfl)), [], rfl, by simp, fun r hr => by simp at hr⟩
        · have hml : len ≤ m := by rw [hm]; split <;> omega
          have rowsOf : ∀ i, i < len → ∃ ds, ∃ cs', w.cells? 0 (a.add (i * P.cellsOf e)) (P.cellsOf e) = some cs' ∧ RepL w cs' ds ∧ Typed P n e ds := by
            intro i hi
            obtain ⟨cs', h1, h2⟩ := hel i (by omega)
            obtain ⟨ds, h3, h4⟩ := trod_rep n n' e cs' _ hp.2 h2
            exact ⟨ds, cs', h1, h3, h4⟩
          obtain ⟨rows, hr1, hr2⟩ := exists_list len rowsOf
          have typed : ∀ r ∈ rows, r.length = P.cellsOf e ∧ Typed P n e r := fun r hr => by
            obtain ⟨i, hi⟩ := List.getElem?_of_mem hr
            obtain ⟨cs', h1, h3, h4⟩ := hr2 i r hi
            exact ⟨by rw [h3.1, (cells?_get h1).1], h4⟩
          refine ⟨[.sl (P.cellsOf e) rows], .one ?_, rows, rfl, by omega, typed⟩
          by_cases hz : len = 0
          · have : rows = [] := List.eq_nil_of_length_eq_zero (by omega)
            subst this
            subst hz
            exact .sl0 (some a) cap _ (fun h => by cases h)
          · have h0 : 0 < rows.length := by omega
            obtain ⟨cs0, g1, g2, _⟩ := hr2 0 rows[0] (List.getElem?_eq_getElem h0)
            obtain ⟨c1, c2⟩ := cells?_get g1
            have hv := c2 0 cs0[0] (List.getElem?_eq_getElem (by omega))
            simp only [Nat.zero_mul] at hv
            have hsp : a.spot = none := by simpa [Addr.add] using World.cell?_spot hv
            have hblk : a.block < w.heap.size := by
              unfold World.cell? at hv
              split at hv
              · rename_i hh
                have := (Array.getElem?_eq_some_iff.1 hh).1
                simpa [Addr.add] using this
              · cases hv
            obtain ⟨ab, ao, as⟩ := a
            simp only at hsp hblk
            subst hsp
            have cellat : ∀ (i j : Nat) (r : List D) (d : D), rows[i]? = some r → r[j]? = some d → ∃ v, w.cell? ⟨ab, ao + (i * P.cellsOf e + j), none⟩ = some v ∧ RepD w (There w) v d := by
              intro i j r d hi hj
              obtain ⟨cs', h1, h3, _⟩ := hr2 i r hi
              have hjl : j < cs'.length := by rw [← h3.1]; exact (List.getElem?_eq_some_iff.1 hj).1
              refine ⟨cs'[j], ?_, h3.2 j _ d (List.getElem?_eq_getElem hjl) hj⟩
              have := (cells?_get h1).2 j _ (List.getElem?_eq_getElem hjl)
              rw [add_lit, add_lit, Nat.add_assoc] at this
              exact this
            refine .sl ab ao len cap (P.cellsOf e) rows (fun i j => (w.cell? ⟨ab, ao + (i * P.cellsOf e + j), none⟩).getD default) hr1 hlc hblk (fun r hr => (typed r hr).1) (fun i j r d hi hj => ?_) (fun i j r d hi hj => ?_)
            · obtain ⟨v, hv, _⟩ := cellat i j r d hi hj
              rw [hv]; rfl
            · obtain ⟨v, hv, hR⟩ := cellat i j r d hi hj
              rw [hv]; exact hR
      | struct fs =>
        simp only [decide_eq_true_eq] at hp
        have hs : cs.length = P.cellsOf t ∧ ∃ xs, (fs.toList.mapM fun f => DataW.trod enc P w 0 spare held fuel f.type ((cs.drop f.offset).take (P.cellsOf f.type))) = some xs := by
          unfold DataW.trod at h
          simp only [ht] at h
          split at h
          · rename_i hl
            simp only [Option.map_eq_some_iff] at h
            obtain ⟨xs, hx, _⟩ := h
            exact ⟨hl, xs, hx⟩
          · cases h
        obtain ⟨hl, xs, hx⟩ := hs
        obtain ⟨ds, h1, h2⟩ := fields_rep (plainT P n) (Typed P n) (fun t cs => DataW.trod enc P w 0 spare held fuel t cs) (fun t cs x hp h _ => trod_rep n fuel t cs x hp h) cs fs.toList 0 xs (by rw [hl]; exact hp) hx
        exact ⟨ds, by simpa using h1, h2⟩
      | _ => simp at hp

end Go.Vm
end

section
namespace Go.Vm
open Go.RowKit Go.Deep

variable {H : Type} {enc : TypeId × Value → H} {P : Program} {w : World} {spare : Nat → Bool} {held : Bool}

def argV (agg : Bool) (ds : List D) : V := if agg then .agg (ds.map (.d false)) else match ds with
  | [d] => .d false d
  | _ => .junk

theorem single {v : Value} {d : D} {base : Nat} (hag : ∀ cs, v ≠ .agg cs) (h : RepL w v.cells.toList [d]) : RepV w (There w) base (fun _ => none) v (argV false [d]) := by
  have hc : v.cells = #[v] := by
    cases v with
    | agg cs => exact absurd rfl (hag cs)
    | _ => rfl
  rw [hc] at h
  exact .d _ _ _ (h.2 0 v d rfl rfl)

theorem arg_rep {n : Nat} {t : TypeId} {v : Value} {d : DataW H} {ps : List MemPlace} {r : Reach} {b0 base : Nat} (hp : plainT P n t = true) (hv : Value.okWide P w r b0 t v) (h : DataW.Trod enc P w 0 spare held t v d ps) :
    ∃ ds, Typed P n t ds ∧ RepV w (There w) base (fun _ => none) v (argV (aggOf P t) ds) := by
  obtain ⟨fuel, h⟩ := h
  obtain ⟨ds, h1, h2⟩ := trod_rep n fuel t v.cells.toList _ hp h
  refine ⟨ds, h2, ?_⟩
  cases n with
  | zero => simp [plainT] at hp
  | succ n =>
    simp only [plainT] at hp
    cases ht : P.underlying t with
    | none => simp [ht] at hp
    | some td =>
      simp only [ht] at hp
      have ha : aggOf P t = isAggD td := by simp [aggOf, ht]
      cases td with
      | struct fs =>
        simp only [Value.okWide, ht] at hv
        obtain ⟨cs, rfl, _, _⟩ := hv
        rw [ha]
        simp only [isAggD, argV, if_true]
        have hlen : ds.length = cs.size := by simpa [Value.cells] using h1.1
        refine .agg _ _ (by simp [hlen]) (fun j u x hu hx => ?_) (fun u hu => ?_)
        · simp only [List.getElem?_map, Option.map_eq_some_iff] at hx
          obtain ⟨y, hy, rfl⟩ := hx
          exact .d _ _ _ (h1.2 j u y (by simpa [Value.cells] using hu) hy)
        · obtain ⟨j, hj⟩ := Array.getElem?_of_mem hu
          have hjl : j < ds.length := by rw [hlen]; exact (Array.getElem?_eq_some_iff.1 hj).1
          exact (h1.2 j u _ (by simpa [Value.cells] using hj) (List.getElem?_eq_getElem hjl)).oneCell
      | bool =>
        simp only [Typed, ht] at h2
        obtain ⟨b, rfl⟩ := h2
        have hag : ∀ cs, v ≠ .agg cs := by rintro cs rfl; simp [Value.okWide, ht, Cell.okWide, Cell.ok] at hv
        rw [ha]
        exact single hag h1
      | int k =>
        simp only [Typed, ht] at h2
        obtain ⟨m, rfl, _⟩ := h2
        have hag : ∀ cs, v ≠ .agg cs := by rintro cs rfl; simp [Value.okWide, ht, Cell.okWide, Cell.ok] at hv
        rw [ha]
        exact single hag h1
      | string =>
        simp only [Typed, ht] at h2
        obtain ⟨m, rfl, _⟩ := h2
        have hag : ∀ cs, v ≠ .agg cs := by rintro cs rfl; simp [Value.okWide, ht, Cell.okWide, Cell.ok] at hv
        rw [ha]
        exact single hag h1
      | slice e =>
        simp only [Typed, ht] at h2
        obtain ⟨m, rfl, _⟩ := h2
        have hag : ∀ cs, v ≠ .agg cs := by rintro cs rfl; simp [Value.okWide, ht, Cell.okWide, Cell.ok] at hv
        rw [ha]
        exact single hag h1
      | _ => simp at hp

end Go.Vm
end

section
namespace Go.Vm

def thn (x : Option (Ex × S)) (f : S → Option (Ex × S)) : Option (Ex × S) := match x with
  | some (.nrm, s) => f s
  | r => r
theorem thn_nrm (s : S) (f) : thn (some (.nrm, s)) f = f s := rfl
theorem thn_ret (s : S) (f) : thn (some (.ret, s)) f = some (.ret, s) := rfl
theorem thn_exit (n : Nat) (s : S) (f) : thn (some (.exit n, s)) f = some (.exit n, s) := rfl
theorem thn_goto (n : Nat) (s : S) (f) : thn (some (.goto n, s)) f = some (.goto n, s) := rfl
def brn (x : Option V) (f g : S → Option (Ex × S)) (s : S) : Option (Ex × S) := match x with
  | some (.d _ (.bool b)) => if b then f s else g s
  | _ => none
theorem brn_true (c) (f g) (s : S) : brn (some (.d c (.bool true))) f g s = f s := rfl
theorem brn_false (c) (f g) (s : S) : brn (some (.d c (.bool false))) f g s = g s := rfl
def blk (id : Nat) (x : Option (Ex × S)) : Option (Ex × S) := match x with
  | some (.exit i, s') => if i = id then some (.nrm, s') else some (.exit i, s')
  | r => r
theorem blk_nrm (id) (s : S) : blk id (some (.nrm, s)) = some (.nrm, s) := rfl
theorem blk_ret (id) (s : S) : blk id (some (.ret, s)) = some (.ret, s) := rfl
theorem blk_goto (id n) (s : S) : blk id (some (.goto n, s)) = some (.goto n, s) := rfl
theorem blk_exit (id i) (s : S) : blk id (some (.exit i, s)) = if i = id then some (.nrm, s) else some (.exit i, s) := rfl
def nrm (x : Option S) : Option (Ex × S) := x.map fun s => (.nrm, s)
theorem nrm_some (s : S) : nrm (some s) = some (.nrm, s) := rfl

theorem exec_skip (K s) : exec K .skip s = some (.nrm, s) := rfl
theorem exec_reg (K l s) : exec K (.reg l) s = nrm (evSegs K s l) := by
  simp only [exec, nrm]; cases evSegs K s l <;> rfl
theorem exec_seq (K a b s) : exec K (.seq a b) s = thn (exec K a s) (exec K b) := by
  simp only [exec, thn]; cases exec K a s with
  | none => rfl
  | some p => obtain ⟨e, s'⟩ := p; cases e <;> rfl
theorem exec_cond (K e a b s) : exec K (.cond e a b) s = brn (ev K s e) (exec K a) (exec K b) s := by
  simp only [exec, brn]
  rcases ev K s e with _ | v
  · rfl
  · cases v with
    | d c x => cases x <;> rfl
    | _ => rfl
theorem exec_block (K id c s) : exec K (.block id c) s = blk id (exec K c s) := by
  simp only [exec, blk]
  rcases exec K c s with _ | ⟨e, s'⟩
  · rfl
  · cases e <;> rfl
theorem exec_exit (K id s) : exec K (.exit id) s = some (.exit id, s) := rfl
theorem exec_label (K l s) : exec K (.label l) s = some (.nrm, s) := rfl
theorem exec_goto (K l s) : exec K (.goto l) s = some (.goto l, s) := rfl
theorem exec_ret (K s) : exec K .ret s = some (.ret, s) := rfl
theorem exec_tidy (K m l s) : exec K (.tidy m l) s = nrm (tidyS m l s) := by
  simp only [exec, nrm]; cases tidyS m l s <;> rfl
theorem exec_own (K t k s) : exec K (.own t k) s = match look s.rho t with
    | some (.fs _ k' []) => if k' = k then some (.nrm, ⟨put s.rho t (.bsl s.nx 0 0), (s.nx, .dat true k []) :: s.heap, s.nx + 1, s.mv⟩) else none
    | _ => none := rfl

def o1 {α β : Type} (f : α → Option β) (x : Option α) : Option β := x.bind f
theorem o1_some {α β : Type} (f : α → Option β) (a : α) : o1 f (some a) = f a := rfl
def o2 {α β γ : Type} (f : α → β → Option γ) (x : Option α) (y : Option β) : Option γ := x.bind fun a => y.bind fun b => f a b
theorem o2_some {α β γ : Type} (f : α → β → Option γ) (a : α) (b : β) : o2 f (some a) (some b) = f a b := rfl
def o4 (f : V → V → V → V → Option V) (x y z w : Option V) : Option V := x.bind fun a => y.bind fun b => z.bind fun c => w.bind fun d => f a b c d
theorem o4_some (f : V → V → V → V → Option V) (a b c d : V) : o4 f (some a) (some b) (some c) (some d) = f a b c d := rfl

theorem evSegs_nil (K s) : evSegs K s [] = some s := rfl
noncomputable def segs (K : Cx) (r : List Seg) (s : S) : Option S := evSegs K s r
theorem segs_nil (K s) : segs K [] s = some s := rfl
theorem evSegs_cons (K s g r) : evSegs K s (g :: r) = o1 (segs K r) (evSeg K s g) := by
  simp only [evSegs, o1, segs]; cases evSeg K s g <;> rfl
theorem segs_cons (K s g r) : segs K (g :: r) s = o1 (segs K r) (evSeg K s g) := evSegs_cons K s g r

def segL (K : Cx) (s : S) (g : Seg) (p : S × List Blk) : Option S :=
  match evLets K p.1 g.lets with
    | some l => if evChk K p.1 g.chk then match g.wr with
        | none => some ⟨l ++ restrict p.1.rho g.keep, addBlks s.heap s.nx p.2, p.1.nx, s.mv⟩
        | some (d, wr) => match wonB K p.1 g.wg with
          | some true => match evWr K p.1 (addBlks s.heap s.nx p.2) wr with
            | some (H, v, q, nx) => match d with
              | some d => some ⟨(d, v) :: lose q (l ++ restrict p.1.rho g.keep), loseH q H, nx, q.ids ++ s.mv⟩
              | none => some ⟨lose q (l ++ restrict p.1.rho g.keep), loseH q H, nx, q.ids ++ s.mv⟩
            | none => none
          | some false => some ⟨l ++ restrict p.1.rho g.keep, addBlks s.heap s.nx p.2, p.1.nx, s.mv⟩
          | none => none
      else none
    | none => none

def segW (K : Cx) (s s1 : S) (news : List Blk) (keep : List Nat) (wr : Option (Option Nat × Wr)) (won : Option Bool) (chk : Bool) (l : Option (List (Nat × V))) : Option S :=
  match l with
  | some l => if chk then match wr with
      | none => some ⟨l ++ restrict s1.rho keep, addBlks s.heap s.nx news, s1.nx, s.mv⟩
      | some (d, wr) => match won with
        | some true => match evWr K s1 (addBlks s.heap s.nx news) wr with
          | some (H, v, q, nx) => match d with
            | some d => some ⟨(d, v) :: lose q (l ++ restrict s1.rho keep), loseH q H, nx, q.ids ++ s.mv⟩
            | none => some ⟨lose q (l ++ restrict s1.rho keep), loseH q H, nx, q.ids ++ s.mv⟩
          | none => none
        | some false => some ⟨l ++ restrict s1.rho keep, addBlks s.heap s.nx news, s1.nx, s.mv⟩
        | none => none
    else none
  | none => none

theorem evSeg_eq (K s mks lets chk wr keep cnt aux wg) : evSeg K s ⟨mks, lets, chk, wr, keep, cnt, aux, wg, []⟩ = o1 (segL K s ⟨[], lets, chk, wr, keep, cnt, [], wg, []⟩) (evMks K s mks) := by
  have h : lateOk K s ⟨mks, lets, chk, wr, keep, cnt, aux, wg, []⟩ := fun e he => by simp at he
  rw [evSeg, if_pos h]
  simp only [evSeg0, o1, segL]; cases evMks K s mks <;> rfl
theorem evSeg_late {K s mks lets chk wr keep cnt aux wg late} (h : lateOk K s ⟨mks, lets, chk, wr, keep, cnt, aux, wg, late⟩) : evSeg K s ⟨mks, lets, chk, wr, keep, cnt, aux, wg, late⟩ = o1 (segL K s ⟨[], lets, chk, wr, keep, cnt, [], wg, []⟩) (evMks K s mks) := by
  rw [evSeg, if_pos h]
  simp only [evSeg0, o1, segL]; cases evMks K s mks <;> rfl
theorem segL_eq (K s mks lets chk wr keep cnt aux wg late s1 news) : segL K s ⟨mks, lets, chk, wr, keep, cnt, aux, wg, late⟩ (s1, news) = segW K s s1 news keep wr (wonB K s1 wg) (evChk K s1 chk) (evLets K s1 lets) := by
  simp only [segL, segW]
def segO (s : S) (d : Option Nat) (ρ : List (Nat × V)) (x : Option (List (Nat × Blk) × V × Lost × Nat)) : Option S := match x with
  | some (H, v, q, nx) => match d with
    | some d => some ⟨(d, v) :: lose q ρ, loseH q H, nx, q.ids ++ s.mv⟩
    | none => some ⟨lose q ρ, loseH q H, nx, q.ids ++ s.mv⟩
  | none => none
theorem segO_some (s d ρ H v q nx) : segO s (some d) ρ (some (H, v, q, nx)) = some ⟨(d, v) :: lose q ρ, loseH q H, nx, q.ids ++ s.mv⟩ := rfl
theorem segO_none (s ρ H v q nx) : segO s none ρ (some (H, v, q, nx)) = some ⟨lose q ρ, loseH q H, nx, q.ids ++ s.mv⟩ := rfl
theorem segW_none (K s s1 news keep won l) : segW K s s1 news keep none won true (some l) = some ⟨l ++ restrict s1.rho keep, addBlks s.heap s.nx news, s1.nx, s.mv⟩ := rfl
theorem segW_some (K s s1 news keep d wr l) : segW K s s1 news keep (some (d, wr)) (some true) true (some l) = segO s d (l ++ restrict s1.rho keep) (evWr K s1 (addBlks s.heap s.nx news) wr) := by
  simp only [segW, segO, if_true]
theorem segW_off (K s s1 news keep d wr l) : segW K s s1 news keep (some (d, wr)) (some false) true (some l) = some ⟨l ++ restrict s1.rho keep, addBlks s.heap s.nx news, s1.nx, s.mv⟩ := rfl

theorem evMks_nil (K s) : evMks K s [] = some (s, []) := rfl
def mksA (K : Cx) (s : S) (d : Nat) (r : List (Nat × Mk)) (p : V × List Blk) : Option (S × List Blk) :=
  match evMks K ⟨put s.rho d p.1, s.heap, s.nx + p.2.length, s.mv⟩ r with
  | some (s', more) => some (s', p.2 ++ more)
  | none => none
def mksB (news : List Blk) (p : S × List Blk) : Option (S × List Blk) := some (p.1, news ++ p.2)
theorem mksB_eq (news s' more) : mksB news (s', more) = some (s', news ++ more) := rfl
theorem evMks_cons (K s d m r) : evMks K s ((d, m) :: r) = o1 (mksA K s d r) (evMk K s m) := by
  simp only [evMks, o1, mksA]; cases evMk K s m <;> rfl
theorem mksA_eq (K s d r v news) : mksA K s d r (v, news) = o1 (mksB news) (evMks K ⟨put s.rho d v, s.heap, s.nx + news.length, s.mv⟩ r) := by
  simp only [mksA, o1]; cases evMks K ⟨put s.rho d v, s.heap, s.nx + news.length, s.mv⟩ r <;> rfl

theorem evLets_nil (K s) : evLets K s [] = some [] := rfl
def letC (d : Nat) (v : V) (l : List (Nat × V)) : Option (List (Nat × V)) := some ((d, v) :: l)
theorem letC_eq (d v l) : letC d v l = some ((d, v) :: l) := rfl
theorem evLets_cons (K s d e r) : evLets K s ((d, e) :: r) = o2 (letC d) (ev K s e) (evLets K s r) := by
  simp only [evLets, o2, letC]; cases ev K s e <;> cases evLets K s r <;> rfl
theorem evChk_nil (K s) : evChk K s [] = true := rfl
theorem evChk_cons (K s e r) : evChk K s (e :: r) = ((ev K s e).isSome && evChk K s r) := rfl
theorem wonB_nil (K s) : wonB K s [] = some true := rfl

theorem e_sl (K s t) : ev K s (.sl t) = look s.rho t := rfl
theorem e_int (K s k n) : ev K s (.int k n) = some (.int k n) := rfl
theorem e_bool (K s b) : ev K s (.bool b) = some (.bool b) := rfl
theorem e_str (K s l) : ev K s (.str l) = some (.str l) := rfl
theorem e_nilsl (K s k) : ev K s (.nilsl k) = some (.fs true k []) := rfl
theorem e_nilp (K s) : ev K s .nilp = some (.d false .nilp) := rfl
theorem e_nilif (K s) : ev K s .nilif = some (.d false .nilif) := rfl
theorem e_nilfn (K s) : ev K s .nilfn = some (.d false .nilfn) := rfl
theorem e_un (K s o a) : ev K s (.un o a) = o1 (evUn o) (ev K s a) := by
  simp only [ev, o1]; cases ev K s a <;> rfl
theorem e_bin (K s o a b) : ev K s (.bin o a b) = o2 (evBin o) (ev K s a) (ev K s b) := by
  simp only [ev, o2]; cases ev K s a <;> cases ev K s b <;> rfl
theorem e_eqs (K s n g ks a b) : ev K s (.eqs n g ks a b) = o2 (evEqs n g ks) (ev K s a) (ev K s b) := by
  simp only [ev, o2]; cases ev K s a <;> cases ev K s b <;> rfl
def andV (x y : Option V) : Option V := match x, y with
  | some (.d _ (.bool x)), some (.d _ (.bool y)) => some (.bool (x && y))
  | some (.d _ (.bool false)), _ => some (.bool false)
  | _, _ => none
theorem andV_some (c c' x y) : andV (some (.d c (.bool x))) (some (.d c' (.bool y))) = some (.bool (x && y)) := by cases x <;> rfl
theorem andV_false (c y) : andV (some (.d c (.bool false))) y = some (.bool false) := by
  unfold andV; split <;> simp_all
theorem e_and (K s a b) : ev K s (.and a b) = andV (ev K s a) (ev K s b) := rfl
def orV (x y : Option V) : Option V := match x, y with
  | some (.d _ (.bool x)), some (.d _ (.bool y)) => some (.bool (x || y))
  | some (.d _ (.bool true)), _ => some (.bool true)
  | _, _ => none
theorem orV_some (c c' x y) : orV (some (.d c (.bool x))) (some (.d c' (.bool y))) = some (.bool (x || y)) := by cases x <;> rfl
theorem orV_true (c y) : orV (some (.d c (.bool true))) y = some (.bool true) := by
  unfold orV; split <;> simp_all
theorem e_or (K s a b) : ev K s (.or a b) = orV (ev K s a) (ev K s b) := rfl
def condV (x a b : Option V) : Option V := match x with
  | some (.d _ (.bool x)) => if x then a else b
  | _ => none
theorem condV_true (c a b) : condV (some (.d c (.bool true))) a b = a := rfl
theorem condV_false (c a b) : condV (some (.d c (.bool false))) a b = b := rfl
theorem condV_some (c x a b) : condV (some (.d c (.bool x))) a b = if x then a else b := rfl
theorem e_cond (K s c a b) : ev K s (.cond c a b) = condV (ev K s c) (ev K s a) (ev K s b) := rfl
theorem e_fa (K s o a) : ev K s (.fa o a) = o1 (evFa o) (ev K s a) := by
  simp only [ev, o1]; cases ev K s a <;> rfl
theorem e_fld (K s o n g a) : ev K s (.fld o n g a) = o1 (evFld o n g) (ev K s a) := by
  simp only [ev, o1]; cases ev K s a <;> rfl
theorem e_ia (K s k a b) : ev K s (.ia k a b) = o2 (evIa s.heap k) (ev K s a) (ev K s b) := by
  simp only [ev, o2]; cases ev K s a <;> cases ev K s b <;> rfl
theorem e_aa (K s l k a b) : ev K s (.aa l k a b) = o2 (evAa l k) (ev K s a) (ev K s b) := by
  simp only [ev, o2]; cases ev K s a <;> cases ev K s b <;> rfl
theorem e_ix (K s a b) : ev K s (.ix a b) = o2 evIx (ev K s a) (ev K s b) := by
  simp only [ev, o2]; cases ev K s a <;> cases ev K s b <;> rfl
theorem e_ax (K s l k g a b) : ev K s (.ax l k g a b) = o2 (evAx l k g) (ev K s a) (ev K s b) := by
  simp only [ev, o2]; cases ev K s a <;> cases ev K s b <;> rfl
theorem e_ld (K s n g a) : ev K s (.ld n g a) = o1 (evLd s.heap n g) (ev K s a) := by
  simp only [ev, o1]; cases ev K s a <;> rfl
theorem e_ext (K s i a) : ev K s (.ext i a) = o1 (evExt i) (ev K s a) := by
  simp only [ev, o1]; cases ev K s a <;> rfl
theorem e_len (K s b a) : ev K s (.len b a) = o1 (evLen b) (ev K s a) := by
  simp only [ev, o1]; cases ev K s a <;> rfl
def evCutS (H : List (Nat × Blk)) (str bl bh bm : Bool) (k : Nat) (v l h m : V) : Option V := if str == v.isStr then evCut H bl bh bm k v l h m else none
theorem e_cut (K s str bl bh bm k a lo hi mx) : ev K s (.cut str bl bh bm k a lo hi mx) = o4 (evCutS s.heap str bl bh bm k) (ev K s a) (ev K s lo) (ev K s hi) (ev K s mx) := by
  simp only [ev, o4, evCutS]; cases ev K s a <;> cases ev K s lo <;> cases ev K s hi <;> cases ev K s mx <;> rfl
def aggV : V → Option V
  | .tup vs => some (.agg vs)
  | _ => none
theorem aggV_tup (vs) : aggV (.tup vs) = some (.agg vs) := rfl
theorem e_agg (K s a) : ev K s (.agg a) = o1 aggV (ev K s a) := by
  simp only [ev, o1]; cases ev K s a with
  | none => rfl
  | some v => cases v <;> rfl
theorem e_set (K s o n a b) : ev K s (.set o n a b) = o2 (evSet o n) (ev K s a) (ev K s b) := by
  simp only [ev, o2]; cases ev K s a <;> cases ev K s b <;> rfl
theorem e_conv (K s k a) : ev K s (.conv k a) = o1 (evConv k) (ev K s a) := by
  simp only [ev, o1]; cases ev K s a <;> rfl
def mkfV (f : FuncId) : V → Option V
  | .tup vs => some (.fn f vs)
  | _ => none
theorem mkfV_tup (f vs) : mkfV f (.tup vs) = some (.fn f vs) := rfl
theorem e_mkf (K s f a) : ev K s (.mkf f a) = o1 (mkfV f) (ev K s a) := by
  simp only [ev, o1]; cases ev K s a with
  | none => rfl
  | some v => cases v <;> rfl
def mkiV (t : TypeId) (v : V) : Option V := some (.iface t v)
theorem mkiV_eq (t v) : mkiV t v = some (.iface t v) := rfl
theorem e_mki (K s t a) : ev K s (.mki t a) = o1 (mkiV t) (ev K s a) := by
  simp only [ev, o1]; cases ev K s a <;> rfl
def callV (K : Cx) (H : List (Nat × Blk)) (f : FuncId) : V → Option V
  | .tup vs => evCall K H f vs
  | _ => none
theorem callV_tup (K H f vs) : callV K H f (.tup vs) = evCall K H f vs := rfl
theorem e_call (K s f a) : ev K s (.call f a) = o1 (callV K s.heap f) (ev K s a) := by
  simp only [ev, o1]; cases ev K s a with
  | none => rfl
  | some v => cases v <;> rfl
def callvV (K : Cx) (H : List (Nat × Blk)) : V → V → Option V
  | .fn f caps, .tup vs => evCall K H f (vs ++ caps)
  | _, _ => none
theorem callvV_tup (K H f caps vs) : callvV K H (.fn f caps) (.tup vs) = evCall K H f (vs ++ caps) := rfl
theorem e_callv (K s f a) : ev K s (.callv f a) = o2 (callvV K s.heap) (ev K s f) (ev K s a) := by
  simp only [ev, o2]; cases ev K s f with
  | none => rfl
  | some v => cases ev K s a with
    | none => cases v <;> rfl
    | some u => cases v <;> cases u <;> rfl
theorem e_nil (K s) : ev K s .nil = some (.tup []) := rfl
def consV (v : V) : V → Option V
  | .tup vs => some (.tup (v :: vs))
  | _ => none
theorem consV_tup (v vs) : consV v (.tup vs) = some (.tup (v :: vs)) := rfl
theorem e_cons (K s a b) : ev K s (.cons a b) = o2 consV (ev K s a) (ev K s b) := by
  simp only [ev, o2]; cases ev K s a with
  | none => rfl
  | some v => cases ev K s b with
    | none => rfl
    | some u => cases u <;> rfl

def callR (own ps : Bool) (x : Option (V × List Blk)) : Option V := match x with
  | some (r, []) => if ps then some r.renew else if own && !r.new then none else some r
  | _ => none
theorem callR_some (own r) : callR own false (some (r, [])) = if own && !r.new then none else some r := rfl
theorem callR_pass (own r) : callR own true (some (r, [])) = some r.renew := rfl
def callA (K : Cx) (f : FuncId) (own ps : Bool) (ws : List V) : Option V := callR own ps (K.call f ws)
theorem callA_eq (K f own ps ws) : callA K f own ps ws = callR own ps (K.call f ws) := rfl
theorem passes_eq (C : Cx) (f vs) : passes C f vs = (vs.all V.new && !vs.all V.flatV && C.loc f) := rfl
theorem evCall_eq (K H f vs) : evCall K H f vs = o1 (callA K f (vs.any V.own) (passes K f vs)) (mapO (view H) vs) := by
  unfold evCall
  cases mapO (view H) vs with
  | none => rfl
  | some ws =>
    show _ = callR (vs.any V.own) (passes K f vs) (K.call f ws)
    cases hk : K.call f ws with
    | none => simp [hk, callR]
    | some p => obtain ⟨r, news⟩ := p; cases news <;> simp [hk, callR]
def mapC {β : Type} (b : β) (bs : List β) : Option (List β) := some (b :: bs)
theorem mapC_eq {β : Type} (b : β) (bs) : mapC b bs = some (b :: bs) := rfl
theorem mapO_nil {α β : Type} (f : α → Option β) : mapO f [] = some [] := rfl
theorem mapO_cons {α β : Type} (f : α → Option β) (a r) : mapO f (a :: r) = o2 mapC (f a) (mapO f r) := by
  simp only [mapO, o2, mapC]; cases f a <;> cases mapO f r <;> rfl

def mkBox (nx : Nat) (v : V) : Option (V × List Blk) := if v.laid then some (.ptr nx 0 0, [.mix v.cells.length [v.cells]]) else none
theorem evMk_box (K s e) : evMk K s (.box e) = o1 (mkBox s.nx) (ev K s e) := by
  simp only [evMk, o1, mkBox]; cases ev K s e <;> rfl
def mkMks (nx k : Nat) (z l c : V) : Option (V × List Blk) := match z, l, c with
  | .tup zs, .d _ (.int _ n), .d _ (.int _ c) => match mapO asD zs with
    | some ds => if 0 ≤ n ∧ n ≤ c ∧ c ≤ most ∧ ds.length = k ∧ 0 < k ∧ ds.all D.flat then some (.bsl nx 0 n.toNat, [.dat true k (List.replicate n.toNat ds)]) else none
    | none => none
  | _, _, _ => none
def o3 {β : Type} (f : V → V → V → Option β) (x y z : Option V) : Option β := x.bind fun a => y.bind fun b => z.bind fun c => f a b c
theorem o3_some {β : Type} (f : V → V → V → Option β) (a b c : V) : o3 f (some a) (some b) (some c) = f a b c := rfl
theorem evMk_mks (K s k z l c) : evMk K s (.mks k z l c) = o3 (mkMks s.nx k) (ev K s z) (ev K s l) (ev K s c) := by
  simp only [evMk, o3]
  cases ev K s z with
  | none => rfl
  | some z => cases ev K s l with
    | none => cases z <;> rfl
    | some l => cases ev K s c with
      | none =>
        cases z <;> try rfl
        cases l <;> try rfl
        rename_i d; cases d <;> rfl
      | some c =>
        cases z <;> try rfl
        cases l <;> try rfl
        rename_i d; cases d <;> try rfl
        cases c <;> try rfl
        rename_i d; cases d <;> rfl
def mkLits (nx k : Nat) : V → Option (V × List Blk)
  | .tup vs => if vs.all (fun v => v.laid && v.cells.length == k) && decide (0 < k) then some (.bsl nx 0 vs.length, [mkBlk k (vs.map V.cells)]) else none
  | _ => none
theorem mkLits_tup (nx k vs) : mkLits nx k (.tup vs) = if vs.all (fun v => v.laid && v.cells.length == k) && decide (0 < k) then some (.bsl nx 0 vs.length, [mkBlk k (vs.map V.cells)]) else none := rfl
theorem evMk_lits (K s k e) : evMk K s (.lits k e) = o1 (mkLits s.nx k) (ev K s e) := by
  simp only [evMk, o1]; cases ev K s e with
  | none => rfl
  | some v => cases v <;> rfl
def mkOR (nx : Nat) (own : Bool) (x : Option (V × List Blk)) : Option (V × List Blk) := match x with
  | some (r, news) => if news.all Blk.plain && (!own || (r.new2 && news.all Blk.new)) then some (r.shift nx, news) else none
  | none => none
theorem mkOR_some (nx own r news) : mkOR nx own (some (r, news)) = if news.all Blk.plain && (!own || (r.new2 && news.all Blk.new)) then some (r.shift nx, news) else none := rfl
def mkOA (K : Cx) (nx : Nat) (f : FuncId) (own : Bool) (ws : List V) : Option (V × List Blk) := mkOR nx own (K.call f ws)
theorem mkOA_eq (K nx f own ws) : mkOA K nx f own ws = mkOR nx own (K.call f ws) := rfl
def mkO (K : Cx) (s : S) (f : FuncId) : V → Option (V × List Blk)
  | .tup vs => o1 (mkOA K s.nx f (vs.any V.own)) (mapO (view s.heap) vs)
  | _ => none
theorem mkO_tup (K s f vs) : mkO K s f (.tup vs) = o1 (mkOA K s.nx f (vs.any V.own)) (mapO (view s.heap) vs) := rfl
theorem evMk_callo (K s f e) : evMk K s (.callo f e) = o1 (mkO K s f) (ev K s e) := by
  simp only [evMk, o1]; cases ev K s e with
  | none => rfl
  | some v =>
    cases v <;> try rfl
    rename_i vs
    simp only [Option.bind_some, mkO, o1]
    cases mapO (view s.heap) vs with
    | none => rfl
    | some ws => simp only [Option.bind_some, mkOA, mkOR]; cases K.call f ws <;> rfl

def wrStore (H : List (Nat × Blk)) (nx n : Nat) (a x : V) : Option (List (Nat × Blk) × V × Lost × Nat) := match a with
  | .ptr b i j => if x.laid && x.cells.length == n then match look H b with
        | some blk => match blk.set i j x.cells with
          | some blk' => some (put H b blk', .junk, .none, nx)
          | none => none
        | none => none
      else none
  | _ => none
def stB (H : List (Nat × Blk)) (nx b : Nat) (x : Option Blk) : Option (List (Nat × Blk) × V × Lost × Nat) := x.bind fun k => some (put H b k, .junk, .none, nx)
theorem stB_some (H nx b k) : stB H nx b (some k) = some (put H b k, .junk, .none, nx) := rfl
def stA (H : List (Nat × Blk)) (nx b i j : Nat) (cs : List V) (k : Blk) : Option (List (Nat × Blk) × V × Lost × Nat) := stB H nx b (k.set i j cs)
theorem stA_eq (H nx b i j cs k) : stA H nx b i j cs k = stB H nx b (k.set i j cs) := rfl
theorem wrStore_ptr (H nx n b i j x) : wrStore H nx n (.ptr b i j) x = if x.laid && x.cells.length == n then o1 (stA H nx b i j x.cells) (look H b) else none := by
  simp only [wrStore]
  split
  · cases look H b with
    | none => rfl
    | some k => simp only [o1, Option.bind_some, stA, stB]; cases k.set i j x.cells <;> rfl
  · rfl
theorem evWr_store (K s H n a v) : evWr K s H (.store n a v) = o2 (wrStore H s.nx n) (ev K s a) (ev K s v) := by
  simp only [evWr, o2]
  cases ev K s a with
  | none => rfl
  | some a => cases ev K s v with
    | none => cases a <;> rfl
    | some v => cases a <;> rfl
def wrApp (s : S) (H : List (Nat × Blk)) (k : Nat) (x : V) (rows : Rows) : Option (List (Nat × Blk) × V × Lost × Nat) := match x with
  | .bsl id i len => match look H id with
    | some blk => if i = 0 ∧ blk.n = len ∧ blk.k = k ∧ len + rows.n ≤ most then some (put H id (blk.app rows), .bsl id 0 (len + rows.n), .some id, s.nx) else none
    | none => none
  | .fs _ k' [] => if k' = k ∧ rows.n ≤ most then some ((s.nx, rows.blk k) :: H, .bsl s.nx 0 rows.n, .none, s.nx + 1) else none
  | _ => none
def apA (s : S) (H : List (Nat × Blk)) (k id i len : Nat) (rows : Rows) (blk : Blk) : Option (List (Nat × Blk) × V × Lost × Nat) :=
  if i = 0 ∧ blk.n = len ∧ blk.k = k ∧ len + rows.n ≤ most then some (put H id (blk.app rows), .bsl id 0 (len + rows.n), .some id, s.nx) else none
theorem apA_eq (s H k id i len rows blk) (h : i = 0 ∧ blk.n = len ∧ blk.k = k ∧ len + rows.n ≤ most) : apA s H k id i len rows blk = some (put H id (blk.app rows), .bsl id 0 (len + rows.n), .some id, s.nx) := if_pos h
theorem wrApp_bsl (s H k id i len rows) : wrApp s H k (.bsl id i len) rows = o1 (apA s H k id i len rows) (look H id) := by
  simp only [wrApp, o1, apA]; cases look H id <;> rfl
theorem wrApp_fs (s H k c rows) (h : rows.n ≤ most) : wrApp s H k (.fs c k []) rows = some ((s.nx, rows.blk k) :: H, .bsl s.nx 0 rows.n, .none, s.nx + 1) := if_pos ⟨rfl, h⟩
theorem evWr_app (K s H k a b) : evWr K s H (.app k a b) = o2 (wrApp s H k) (ev K s a) (o1 (rowsOf H k) (ev K s b)) := by
  simp only [evWr, o2, o1]
  cases ev K s a with
  | none => rfl
  | some x => cases ev K s b with
    | none => cases x <;> rfl
    | some y =>
      simp only [Option.bind_some]
      cases rowsOf H k y <;> rfl
def wrEff (K : Cx) (nx : Nat) (H : List (Nat × Blk)) (f : FuncId) : V → Option (List (Nat × Blk) × V × Lost × Nat)
  | .tup vs => evEff K nx H f vs (reachB H 64 [] (refsL vs))
  | _ => none
theorem wrEff_tup (K nx H f vs) : wrEff K nx H f (.tup vs) = evEff K nx H f vs (reachB H 64 [] (refsL vs)) := rfl
theorem evWr_calle (K s H f e) : evWr K s H (.calle f e) = o1 (wrEff K s.nx H f) (ev K s e) := by
  simp only [evWr, o1]; cases ev K s e with
  | none => rfl
  | some v => cases v <;> rfl

def effR (nx : Nat) (H : List (Nat × Blk)) (bs : List Nat) (p : V × List Blk × List Nat) : Option (List (Nat × Blk) × V × Lost × Nat) :=
  if bs.length ≤ p.2.1.length then some (putAll (loseM (p.2.2.map (backB bs nx)) H) (backB bs nx) 0 p.2.1, p.1.ren (backB bs nx), .many (p.2.2.map (backB bs nx)), nx + (p.2.1.length - bs.length)) else none
theorem effR_eq (nx H bs r b m) : effR nx H bs (r, b, m) = if bs.length ≤ b.length then some (putAll (loseM (m.map (backB bs nx)) H) (backB bs nx) 0 b, r.ren (backB bs nx), .many (m.map (backB bs nx)), nx + (b.length - bs.length)) else none := rfl
def effA (K : Cx) (nx : Nat) (H : List (Nat × Blk)) (f : FuncId) (vs : List V) (bs : List Nat) (blks : List Blk) : Option (List (Nat × Blk) × V × Lost × Nat) := o1 (effR nx H bs) (K.eff f (vs.map fun v => v.dim.ren bs.idxOf) blks)
theorem effA_eq (K nx H f vs bs blks) : effA K nx H f vs bs blks = o1 (effR nx H bs) (K.eff f (vs.map fun v => v.dim.ren bs.idxOf) blks) := rfl
theorem evEff_eq (K nx H f vs bs) : evEff K nx H f vs bs = if decide bs.Nodup && vs.all (V.within bs.contains) && closedB H bs then o1 (effA K nx H f vs bs) (handed H bs) else none := by
  unfold evEff
  split
  · cases handed H bs with
    | none => rfl
    | some blks =>
      simp only [o1_some, effA]
      cases K.eff f (vs.map fun v => v.dim.ren bs.idxOf) blks with
      | none => rfl
      | some p => obtain ⟨r, b, m⟩ := p; rfl
  · rfl
theorem backB_eq (bs nx i) : backB bs nx i = (bs[i]?).getD (nx + (i - bs.length)) := by
  unfold backB; cases bs[i]? <;> rfl
def wonV (b : Bool) : Option V → Option Bool
  | some (.d _ (.bool x)) => some (x == b)
  | _ => none
theorem wonV_some (b c x) : wonV b (some (.d c (.bool x))) = some (x == b) := rfl
theorem wonB_one (K s e b) : wonB K s [(e, b)] = wonV b (ev K s e) := by
  simp only [wonB, wonV]
  cases ev K s e with
  | none => rfl
  | some v => cases v with
    | d c x => cases x <;> rfl
    | _ => rfl
theorem look_nil {α : Type} (t) : look ([] : List (Nat × α)) t = none := rfl
def lookB {α : Type} (v : α) (r : List (Nat × α)) (t : Nat) : Bool → Option α
  | true => some v
  | false => look r t
theorem lookB_true {α : Type} (v : α) (r t) : lookB v r t true = some v := rfl
theorem lookB_false {α : Type} (v : α) (r t) : lookB v r t false = look r t := rfl
theorem look_cons {α : Type} (k v r t) : look ((k, v) :: r : List (Nat × α)) t = lookB v r t (k == t) := by
  simp only [look]
  by_cases h : k = t
  · simp [h, lookB]
  · have : (k == t) = false := by simpa using h
    simp [h, this, lookB]
def putB {α : Type} (k : Nat) (u : α) (r : List (Nat × α)) (t : Nat) (v : α) : Bool → List (Nat × α)
  | true => (t, v) :: r
  | false => (k, u) :: put r t v
theorem putB_true {α : Type} (k : Nat) (u : α) (r t v) : putB k u r t v true = (t, v) :: r := rfl
theorem putB_false {α : Type} (k : Nat) (u : α) (r t v) : putB k u r t v false = (k, u) :: put r t v := rfl
theorem put_nil {α : Type} (t v) : put ([] : List (Nat × α)) t v = [(t, v)] := rfl
theorem put_cons {α : Type} (k u r t v) : put ((k, u) :: r : List (Nat × α)) t v = putB k u r t v (k == t) := by
  simp only [put]
  by_cases h : k = t
  · simp [h, putB]
  · have : (k == t) = false := by simpa using h
    simp [h, this, putB]
def resC {α : Type} (l : List (Nat × α)) (t : Nat) (r : List Nat) (x : Option α) : List (Nat × α) := match x with
  | some v => (t, v) :: restrict l r
  | none => restrict l r
theorem resC_some {α : Type} (l : List (Nat × α)) (t r v) : resC l t r (some v) = (t, v) :: restrict l r := rfl
theorem resC_none {α : Type} (l : List (Nat × α)) (t r) : resC l t r none = restrict l r := rfl
theorem restrict_nil {α : Type} (l : List (Nat × α)) : restrict l [] = [] := rfl
theorem restrict_cons {α : Type} (l : List (Nat × α)) (t r) : restrict l (t :: r) = resC l t r (look l t) := rfl

noncomputable def endF (K : Cx) (res : List E) (own : Bool) (m : Nat) (x : Option (Ex × S)) : Option (V × List Blk × List Nat) := match x with
  | some (.nrm, s) => o1 (finish m own s) ((mapO (ev K s) res).map oneOr)
  | some (.ret, s) => o1 (finish m own s) ((mapO (ev K s) res).map oneOr)
  | _ => none
theorem endF_nrm (K res own m s) : endF K res own m (some (.nrm, s)) = o1 (finish m own s) ((mapO (ev K s) res).map oneOr) := rfl
theorem endF_ret (K res own m s) : endF K res own m (some (.ret, s)) = o1 (finish m own s) ((mapO (ev K s) res).map oneOr) := rfl
theorem runFun_eq (K body res own args blks) : runFun K ⟨body, res, own⟩ args blks = endF K res own blks.length (exec K body (startS args blks)) := by
  unfold runFun endF
  simp only
  cases exec K body (startS args blks) with
  | none => rfl
  | some p =>
    obtain ⟨e, s⟩ := p
    cases e <;> try rfl
    all_goals
      simp only [o1]
      cases mapO (ev K s) res <;> rfl

theorem loopF_unfold (f : S → Option (Ex × S)) (s : S) : loopF f s = match f s with
    | some (.nrm, s') => loopF f s'
    | r => r := by
  have key : ∀ r, loopF f s = some r → (match f s with | some (.nrm, s') => loopF f s' | r => r) = some r := by
    intro r h
    unfold loopF at h
    split at h
    · rename_i hex
      generalize hex.choose = n at h
      cases n with
      | zero => simp [iter] at h
      | succ n =>
        simp only [iter] at h
        cases hf : f s with
        | none => simp [hf] at h
        | some p =>
          obtain ⟨e, s'⟩ := p
          cases e with
          | nrm => simp only [hf] at h ⊢; exact loopF_of h
          | _ => simpa [hf] using h
    · cases h
  have back : ∀ r, (match f s with | some (.nrm, s') => loopF f s' | r => r) = some r → loopF f s = some r := by
    intro r h
    cases hf : f s with
    | none => simp [hf] at h
    | some p =>
      obtain ⟨e, s'⟩ := p
      cases e with
      | nrm =>
        simp only [hf] at h
        have h0 := h
        unfold loopF at h
        split at h
        · rename_i hex
          exact loopF_of (n := hex.choose + 1) (by simp only [iter, hf]; exact h)
        · cases h
      | exit id => exact loopF_of (n := 1) (by simpa [iter, hf] using h)
      | goto id => exact loopF_of (n := 1) (by simpa [iter, hf] using h)
      | ret => exact loopF_of (n := 1) (by simpa [iter, hf] using h)
  cases h1 : loopF f s with
  | some r => exact (key r h1).symm
  | none =>
    cases h2 : (match f s with | some (.nrm, s') => loopF f s' | r => r) with
    | none => rfl
    | some r => rw [back r h2] at h1; cases h1

noncomputable def lp (K : Cx) (m : Nat) (sl : List Nat) (body : C) (s : S) : Option (Ex × S) := match exec K body s with
  | some (.nrm, s') => exec K (.loop (.seq (.tidy m sl) body)) s'
  | r => r
noncomputable def lpT (K : Cx) (m : Nat) (sl : List Nat) (body : C) (x : Option (Ex × S)) : Option (Ex × S) := match x with
  | some (.nrm, s') => o1 (lp K m sl body) (tidyS m sl s')
  | r => r
theorem lpT_nrm (K m sl body s) : lpT K m sl body (some (.nrm, s)) = o1 (lp K m sl body) (tidyS m sl s) := rfl
theorem lpT_exit (K m sl body n s) : lpT K m sl body (some (.exit n, s)) = some (.exit n, s) := rfl
theorem lpT_ret (K m sl body s) : lpT K m sl body (some (.ret, s)) = some (.ret, s) := rfl
theorem lpT_goto (K m sl body n s) : lpT K m sl body (some (.goto n, s)) = some (.goto n, s) := rfl

theorem exec_loop (K m sl body s) : exec K (.loop (.seq (.tidy m sl) body)) s = o1 (lp K m sl body) (tidyS m sl s) := by
  show loopF (exec K (.seq (.tidy m sl) body)) s = _
  rw [loopF_unfold, exec_seq, exec_tidy]
  cases tidyS m sl s with
  | none => rfl
  | some s' =>
    rw [nrm_some, thn_nrm, o1_some]
    rfl
theorem lp_eq0 (K m sl body s) : lp K m sl body s = lpT K m sl body (exec K body s) := by
  unfold lp lpT
  cases exec K body s with
  | none => rfl
  | some p =>
    obtain ⟨e, s'⟩ := p
    cases e <;> try rfl
    exact exec_loop K m sl body s'
theorem lp_un {K m sl body body' s} (h : body = body') : lp K m sl body s = lpT K m sl body (exec K body' s) := by
  subst h; exact lp_eq0 K m sl body s

end Go.Vm
end

section
namespace Go.Vm

def nth {α : Type} [Inhabited α] (l : List α) (n : Int) : α := l.getD n.toNat default

theorem nth_nat {α : Type} [Inhabited α] (l : List α) (i : Nat) : nth l (i : Int) = l.getD i default := by simp [nth]
theorem nth_get? {α : Type} [Inhabited α] {l : List α} {n : Int} (h : n.toNat < l.length) : l[n.toNat]? = some (nth l n) := by
  unfold nth; rw [List.getD_eq_getElem?_getD, List.getElem?_eq_getElem h]; rfl
theorem nth_getElem {α : Type} [Inhabited α] {l : List α} {n : Int} (h : n.toNat < l.length) : l[n.toNat] = nth l n := by
  have := nth_get? h
  rw [List.getElem?_eq_getElem h] at this
  exact Option.some.inj this
theorem nth_of {α : Type} [Inhabited α] {l : List α} {i : Nat} {x : α} (h : l[i]? = some x) : nth l (i : Int) = x := by
  rw [nth_nat, List.getD_eq_getElem?_getD, h]; rfl
theorem drop_nth {α : Type} [Inhabited α] {l : List α} {i : Nat} (h : i < l.length) : l.drop i = nth l (i : Int) :: l.drop (i + 1) := by
  rw [List.drop_eq_getElem_cons h, ← nth_getElem (n := (i : Int)) (by simpa using h)]
  simp

theorem tidyS_eq (m slots s) : tidyS m slots s = (let ρ := restrict s.rho slots
  let bs := reachB s.heap 64 [] (List.range m ++ refsL (ρ.map (·.2)))
  if decide bs.Nodup && decide (bs.take m = List.range m) && ρ.all (fun p => p.2.within bs.contains) && closedB s.heap bs then
    some ⟨ρ.map fun p => (p.1, p.2.ren bs.idxOf), bs.zipIdx.filterMap fun p => (look s.heap p.1).map fun k => (p.2, k.ren bs.idxOf), bs.length, (List.range m).filter s.mv.contains⟩
  else none) := rfl
def tidyB (m : Nat) (H : List (Nat × Blk)) (mv : List Nat) (ρ : List (Nat × V)) (bs : List Nat) : Option S :=
  if decide bs.Nodup && decide (bs.take m = List.range m) && ρ.all (fun p => p.2.within bs.contains) && closedB H bs then
    some ⟨ρ.map fun p => (p.1, p.2.ren bs.idxOf), bs.zipIdx.filterMap fun p => (look H p.1).map fun k => (p.2, k.ren bs.idxOf), bs.length, (List.range m).filter mv.contains⟩
  else none
def tidyA (m : Nat) (H : List (Nat × Blk)) (mv : List Nat) (ρ : List (Nat × V)) : Option S := tidyB m H mv ρ (reachB H 64 [] (List.range m ++ refsL (ρ.map (·.2))))
theorem tidyS_a (m slots ρ H nx mv) : tidyS m slots ⟨ρ, H, nx, mv⟩ = tidyA m H mv (restrict ρ slots) := rfl
theorem tidyA_eq (m H mv ρ) : tidyA m H mv ρ = tidyB m H mv ρ (reachB H 64 [] (List.range m ++ refsL (ρ.map (·.2)))) := rfl
theorem tidyB_eq (m H mv ρ bs) : tidyB m H mv ρ bs = if decide bs.Nodup && decide (bs.take m = List.range m) && ρ.all (fun p => p.2.within bs.contains) && closedB H bs then
    some ⟨ρ.map fun p => (p.1, p.2.ren bs.idxOf), bs.zipIdx.filterMap fun p => (look H p.1).map fun k => (p.2, k.ren bs.idxOf), bs.length, (List.range m).filter mv.contains⟩
  else none := rfl
theorem reachB_nil (H n done) : reachB H n done [] = done := by cases n <;> rfl
def reachC (H : List (Nat × Blk)) (n : Nat) (done : List Nat) (b : Nat) (todo : List Nat) : Bool → List Nat
  | true => reachB H n done todo
  | false => reachB H n (done ++ [b]) (todo ++ (match look H b with | some k => k.refs | none => []))
def refsO : Option Blk → List Nat
  | some k => k.refs
  | none => []
theorem refsO_some (k) : refsO (some k) = k.refs := rfl
theorem refsO_none : refsO none = [] := rfl
theorem reachB_cons (H n done b todo) : reachB H (n + 1) done (b :: todo) = reachC H n done b todo (done.contains b) := by
  simp only [reachB]; cases done.contains b <;> rfl
theorem reachC_true (H n done b todo) : reachC H n done b todo true = reachB H n done todo := rfl
theorem reachC_false (H n done b todo) : reachC H n done b todo false = reachB H n (done ++ [b]) (todo ++ refsO (look H b)) := by
  simp only [reachC, refsO]

theorem evIa_d (H k c rows c' kd) (n : Int) : evIa H k (.d c (.sl k rows)) (.d c' (.int kd n)) = if 0 ≤ n then (rows[n.toNat]?).map (fun row => .d c (.ptr row)) else none := by
  simp only [evIa]
  by_cases h : 0 ≤ n <;> simp [h]
  cases rows[n.toNat]? <;> rfl
theorem evIa_fs (H k c rows c' kd) (n : Int) : evIa H k (.fs c k rows) (.d c' (.int kd n)) = if 0 ≤ n then (rows[n.toNat]?).map (fun row => .d c (.ptr row)) else none := by
  simp only [evIa]
  by_cases h : 0 ≤ n <;> simp [h]
  cases rows[n.toNat]? <;> rfl
theorem evIa_dm {α : Type} [Inhabited α] (H k c) (l : List α) (e : α → List D) (c' kd) (n : Int) (h0 : 0 ≤ n) (h : n < l.length) : evIa H k (.d c (.sl k (l.map e))) (.d c' (.int kd n)) = some (.d c (.ptr (e (nth l n)))) := by
  rw [evIa_d, if_pos h0, List.getElem?_map, nth_get? (by omega)]; rfl
theorem evIa_fm {α : Type} [Inhabited α] (H k c) (l : List α) (e : α → List D) (c' kd) (n : Int) (h0 : 0 ≤ n) (h : n < l.length) : evIa H k (.fs c k (l.map e)) (.d c' (.int kd n)) = some (.d c (.ptr (e (nth l n)))) := by
  rw [evIa_fs, if_pos h0, List.getElem?_map, nth_get? (by omega)]; rfl
def iaB (k b i len : Nat) (n : Int) (blk : Blk) : Option V := if blk.k = k ∧ 0 ≤ n ∧ n < len then some (.ptr b (i + n.toNat) 0) else none
theorem evIa_bsl (H k b i len c kd) (n : Int) : evIa H k (.bsl b i len) (.d c (.int kd n)) = o1 (iaB k b i len n) (look H b) := by
  simp only [evIa, o1, iaB]; cases look H b <;> rfl
theorem iaB_dat (k b i) (len : Nat) (n : Int) (c rows) (h0 : 0 ≤ n) (h : n < len) : iaB k b i len n (.dat c k rows) = some (.ptr b (i + n.toNat) 0) := if_pos ⟨rfl, h0, h⟩
theorem iaB_mix (k b i) (len : Nat) (n : Int) (rows) (h0 : 0 ≤ n) (h : n < len) : iaB k b i len n (.mix k rows) = some (.ptr b (i + n.toNat) 0) := if_pos ⟨rfl, h0, h⟩

def ldR (n : Nat) (g : Bool) (j : Nat) (row : List V) : Option V := part g n (row.drop j)
theorem ldR_eq (n g j row) : ldR n g j row = part g n (row.drop j) := rfl
def ldB (n : Nat) (g : Bool) (i j : Nat) (blk : Blk) : Option V := o1 (ldR n g j) (blk.row? i)
theorem ldB_eq (n g i j blk) : ldB n g i j blk = o1 (ldR n g j) (blk.row? i) := rfl
theorem evLd_ptr (H n g b i j) : evLd H n g (.ptr b i j) = o1 (ldB n g i j) (look H b) := by
  simp only [evLd, o1, ldB, ldR]
  cases look H b with
  | none => rfl
  | some blk =>
    show _ = o1 (ldR n g j) (blk.row? i)
    cases h : blk.row? i <;> simp [h, o1, ldR]
theorem evLd_d (H n g c cells) : evLd H n g (.d c (.ptr cells)) = part g n (cells.map (mkd c)) := rfl
theorem part_true (n cs) : part true n cs = if n ≤ cs.length then some (.agg (cs.take n)) else none := rfl
theorem part_one (v cs) : part false 1 (v :: cs) = some v := rfl
theorem row_mix (k rows i) : (Blk.mix k rows).row? i = rows[i]? := rfl
theorem row_dat (c k rows i) : (Blk.dat c k rows).row? i = (rows[i]?).map (·.map (mkd c)) := rfl
theorem row_datm {α : Type} [Inhabited α] (c k) (l : List α) (e : α → List D) (i : Nat) (h : i < l.length) : (Blk.dat c k (l.map e)).row? i = some ((e (nth l i)).map (mkd c)) := by
  rw [row_dat, List.getElem?_map, List.getElem?_eq_getElem h, nth_nat, List.getD_eq_getElem?_getD, List.getElem?_eq_getElem h]; rfl

theorem set_mix (k rows i j cells) : (Blk.mix k rows).set i j cells = o1 (fun row => if j + cells.length ≤ row.length then some (.mix k (rows.set i (splice j cells row))) else none) rows[i]? := by
  simp only [Blk.set, o1]; cases rows[i]? <;> rfl
theorem set_mix0 (k row rows j cells) : (Blk.mix k (row :: rows)).set 0 j cells = if j + cells.length ≤ row.length then some (.mix k (splice j cells row :: rows)) else none := by
  simp [Blk.set]
def setD (c : Bool) (k : Nat) (rows : List (List D)) (row : List D) (i j : Nat) (cells : List V) (x : Option (List D)) : Option Blk := match x with
  | some ds => some (.dat (c && cells.all V.new1) k (rows.set i (splice j ds row)))
  | none => some (.mix k ((rows.map (·.map (mkd c))).set i (splice j cells (row.map (mkd c)))))
theorem setD_some (c k rows row i j cells ds) : setD c k rows row i j cells (some ds) = some (.dat (c && cells.all V.new1) k (rows.set i (splice j ds row))) := rfl
theorem set_datm {α : Type} [Inhabited α] (c k) (l : List α) (e : α → List D) (i j cells) (hi : i < l.length) : (Blk.dat c k (l.map e)).set i j cells = if j + cells.length ≤ (e (nth l i)).length then setD c k (l.map e) (e (nth l i)) i j cells (mapO asD cells) else none := by
  have : (l.map e)[i]? = some (e (nth l i)) := by
    rw [List.getElem?_map, List.getElem?_eq_getElem hi, nth_nat, List.getD_eq_getElem?_getD, List.getElem?_eq_getElem hi]; rfl
  simp only [Blk.set, this, setD]
  split
  · cases mapO asD cells <;> rfl
  · rfl
theorem splice_0 {α : Type} (new cells : List α) : splice 0 new cells = new ++ cells.drop new.length := by simp [splice]

theorem wrap64 {x : Int} (h1 : -9223372036854775808 ≤ x) (h2 : x ≤ 9223372036854775807) : IntKind.i64.wrap x = x := by
  unfold IntKind.wrap
  have e1 : (2 : Int) ^ IntKind.i64.bits = 18446744073709551616 := by decide
  have e2 : (2 : Int) ^ (IntKind.i64.bits - 1) = 9223372036854775808 := by decide
  simp only [e1, e2]
  have : IntKind.i64.signed = true := rfl
  simp only [this, Bool.true_and, decide_eq_true_eq]
  split <;> omega

end Go.Vm
namespace Go.Vm
theorem lt_t {a b : Int} (h : a < b) : decide (a < b) = true := by simpa using h
theorem lt_f {a b : Int} (h : ¬ a < b) : decide (a < b) = false := by simpa using h
theorem le_t {a b : Int} (h : a ≤ b) : decide (a ≤ b) = true := by simpa using h
theorem le_f {a b : Int} (h : ¬ a ≤ b) : decide (a ≤ b) = false := by simpa using h
theorem eq_t {a b : Int} (h : a = b) : (a == b) = true := by simpa using h
theorem eq_f {a b : Int} (h : ¬ a = b) : (a == b) = false := by simpa using h
theorem ne_t {a b : Int} (h : ¬ a = b) : (a != b) = true := by simpa using h
theorem ne_f {a b : Int} (h : a = b) : (a != b) = false := by simp [h]
theorem cut_hm {α : Type} (H k c) (l : List α) (e : α → List D) (lo : V) (c1 k1 c2 k2) (p q : Int) (h0 : 0 ≤ p) (h1 : p ≤ l.length) (hq : q = p) : evCutS H false false true true k (.d c (.sl k (l.map e))) lo (.d c1 (.int k1 p)) (.d c2 (.int k2 q)) = some (.fs c k ((l.take p.toNat).map e)) := by
  subst hq
  simp [evCutS, V.isStr, evCut, bound, h0, h1, List.map_take]
theorem cut_lhm {α : Type} (H k c) (l : List α) (e : α → List D) (c0 k0 c1 k1 c2 k2) (o p q : Int) (h : 0 ≤ o) (h0 : o ≤ p) (h1 : p ≤ l.length) (hq : q = p) : evCutS H false true true true k (.d c (.sl k (l.map e))) (.d c0 (.int k0 o)) (.d c1 (.int k1 p)) (.d c2 (.int k2 q)) = some (.fs c k (((l.drop o.toNat).take (p.toNat - o.toNat)).map e)) := by
  subst hq
  simp [evCutS, V.isStr, evCut, bound, h, h0, h1, List.map_take, List.map_drop]
theorem rows_d {α : Type} (H k c) (l : List α) (e : α → List D) : rowsOf H k (.d c (.sl k (l.map e))) = some (.dat (c || flatRows (l.map e)) (l.map e)) := by simp [rowsOf]
theorem rows_fs {α : Type} (H k c) (l : List α) (e : α → List D) : rowsOf H k (.fs c k (l.map e)) = some (.dat (c || flatRows (l.map e)) (l.map e)) := by simp [rowsOf]
theorem rows_lit (H k c r rows) : rowsOf H k (.d c (.sl k (r :: rows))) = some (.dat (c || flatRows (r :: rows)) (r :: rows)) := by simp [rowsOf]
theorem rows_fs0 (H k c) : rowsOf H k (.fs c k []) = some (.dat true []) := by simp [rowsOf, flatRows]
theorem flatRows_nil : flatRows [] = true := rfl
theorem flatRows_cons (r rows) : flatRows (r :: rows) = (r.all D.flat && flatRows rows) := rfl
theorem flatRows_map {α : Type} (l : List α) (e : α → List D) (h : ∀ x, (e x).all D.flat = true) : flatRows (l.map e) = true := by
  simp only [flatRows, List.all_map, List.all_eq_true, Function.comp]
  exact fun x _ => by simpa using h x
theorem apA_dat (s H k id len rs c rows) (h : rows.length = len) (h2 : len + rs.n ≤ most) : apA s H k id 0 len rs (.dat c k rows) = some (put H id ((Blk.dat c k rows).app rs), .bsl id 0 (len + rs.n), .some id, s.nx) := if_pos ⟨rfl, h, rfl, h2⟩
theorem apA_mix (s H k id len rs rows) (h : rows.length = len) (h2 : len + rs.n ≤ most) : apA s H k id 0 len rs (.mix k rows) = some (put H id ((Blk.mix k rows).app rs), .bsl id 0 (len + rs.n), .some id, s.nx) := if_pos ⟨rfl, h, rfl, h2⟩
theorem mkMks_eq (nx k zs c1 k1 n c2 k2 m ds) (hz : mapO asD zs = some ds) (h0 : 0 ≤ n) (h1 : n ≤ m) (h2 : m ≤ (most : Int)) (hk : ds.length = k) (hp : 0 < k) (hf : ds.all D.flat = true) : mkMks nx k (.tup zs) (.d c1 (.int k1 n)) (.d c2 (.int k2 m)) = some (.bsl nx 0 n.toNat, [.dat true k (List.replicate n.toNat ds)]) := by
  simp only [mkMks, hz]
  rw [if_pos ⟨h0, h1, h2, hk, hp, hf⟩]
theorem viewD_datm {α : Type} (n H b i len c k) (l : List α) (e : α → List D) (hb : look H b = some (.dat c k (l.map e))) (h : i + len ≤ l.length) : viewD (n + 1) H (.bsl b i len) = some (.sl k (((l.drop i).take len).map e)) := by
  simp only [viewD, hb, List.length_map, h, if_true, List.map_take, List.map_drop]
theorem ile_T {a b : Int} (h : a ≤ b) : (a ≤ b) = True := by simpa using h
theorem ile_F {a b : Int} (h : ¬ a ≤ b) : (a ≤ b) = False := by simpa using h
theorem ilt_T {a b : Int} (h : a < b) : (a < b) = True := by simpa using h
theorem ilt_F {a b : Int} (h : ¬ a < b) : (a < b) = False := by simpa using h
theorem nle_T {a b : Nat} (h : a ≤ b) : (a ≤ b) = True := by simpa using h
theorem nle_F {a b : Nat} (h : ¬ a ≤ b) : (a ≤ b) = False := by simpa using h
theorem nlt_T {a b : Nat} (h : a < b) : (a < b) = True := by simpa using h
theorem nlt_F {a b : Nat} (h : ¬ a < b) : (a < b) = False := by simpa using h
theorem take_all {α : Type} {l : List α} {n : Nat} (h : l.length ≤ n) : l.take n = l := List.take_of_length_le h
theorem toNat_add1 (n : Nat) : ((n : Int) + 1).toNat = n + 1 := by omega
theorem evIx_str (c c' k) (s : List UInt8) (n : Int) (h0 : 0 ≤ n) (h : n < s.length) : evIx (.d c (.str s)) (.d c' (.int k n)) = some (.int .u8 (nth s n).toNat) := by
  simp only [evIx, h0, if_true]
  rw [nth_get? (by omega)]
theorem nth_toNat {α : Type} [Inhabited α] (l : List α) (n : Int) : nth l ((n.toNat : Nat) : Int) = nth l n := by
  unfold nth; rw [Int.toNat_natCast]
theorem most_eq : most = 1099511627776 := rfl
theorem range0 : List.range 0 = [] := rfl
theorem range1 : List.range 1 = [0] := rfl
theorem range2 : List.range 2 = [0, 1] := rfl
theorem range3 : List.range 3 = [0, 1, 2] := rfl
end Go.Vm
end

section
namespace Go.Vm
theorem evMk_mkm (K s) : evMk K s .mkm = some (.map s.nx, [.map []]) := rfl
theorem e_lkp (K s ok kk z m k) : ev K s (.lkp ok kk z m k) = o3 (evLkp s.heap ok kk) (ev K s z) (ev K s m) (ev K s k) := by
  simp only [ev, o3]; cases ev K s z <;> cases ev K s m <;> cases ev K s k <;> rfl
theorem e_mlen (K s a) : ev K s (.mlen a) = o1 (evMlen s.heap) (ev K s a) := by
  simp only [ev, o1]; cases ev K s a <;> rfl
def lkO (ok : Bool) (z : V) : Option (Option V) → Option V
  | some (some v) => some (if ok then .tup [v, .bool true] else v)
  | some none => some (if ok then .tup [z, .bool false] else z)
  | none => none
theorem lkO_some (z v) : lkO false z (some (some v)) = some v := rfl
theorem lkO_none (z) : lkO false z (some none) = some z := rfl
theorem lkO_someT (z v) : lkO true z (some (some v)) = some (.tup [v, .bool true]) := rfl
theorem lkO_noneT (z) : lkO true z (some none) = some (.tup [z, .bool false]) := rfl
def lkB (ok : Bool) (kk : Nat) (z : V) (k : D) : Blk → Option V
  | .map es => lkO ok z (findE kk k es)
  | _ => none
theorem lkB_map (ok kk z k es) : lkB ok kk z k (.map es) = lkO ok z (findE kk k es) := rfl
theorem evLkp_map (H ok kk z b c k) : evLkp H ok kk z (.map b) (.d c k) = o1 (lkB ok kk z k) (look H b) := by
  simp only [evLkp, o1]
  cases look H b with
  | none => rfl
  | some blk =>
    cases blk with
    | map es =>
      simp only [Blk.entries, Option.bind_some, lkB, lkO]
      cases findE kk k es with
      | none => rfl
      | some r => cases r <;> rfl
    | _ => rfl
def stM (H : List (Nat × Blk)) (nx b : Nat) (x : Option (List (D × V))) : Option (List (Nat × Blk) × V × Lost × Nat) := x.bind fun es => some (put H b (.map es), .junk, .none, nx)
theorem stM_some (H nx b es) : stM H nx b (some es) = some (put H b (.map es), .junk, .none, nx) := rfl
def msB (H : List (Nat × Blk)) (nx b kk : Nat) (d : D) (x : V) : Blk → Option (List (Nat × Blk) × V × Lost × Nat)
  | .map es => stM H nx b (setE kk d x es)
  | _ => none
theorem msB_map (H nx b kk d x es) : msB H nx b kk d x (.map es) = stM H nx b (setE kk d x es) := rfl
def wrMset (H : List (Nat × Blk)) (nx kk : Nat) (m k x : V) : Option (List (Nat × Blk) × V × Lost × Nat) := match m, k with
  | .map b, .d _ d => if x.laid then o1 (msB H nx b kk d x) (look H b) else none
  | _, _ => none
theorem wrMset_map (H nx kk b c d x) : wrMset H nx kk (.map b) (.d c d) x = if x.laid then o1 (msB H nx b kk d x) (look H b) else none := rfl
theorem evWr_mset (K s H kk m k v) : evWr K s H (.mset kk m k v) = o3 (wrMset H s.nx kk) (ev K s m) (ev K s k) (ev K s v) := by
  simp only [evWr, o3]
  cases ev K s m with
  | none => rfl
  | some a => cases ev K s k with
    | none => cases a <;> rfl
    | some b => cases ev K s v with
      | none => cases a <;> cases b <;> rfl
      | some c =>
        cases a <;> try rfl
        cases b <;> try rfl
        simp only [Option.bind_some, wrMset]
        split
        · rename_i b c' d _
          cases look H b with
          | none => rfl
          | some blk =>
            cases blk with
            | map es => simp only [Blk.entries, o1, Option.bind_some, msB, stM]; cases setE kk d c es <;> rfl
            | _ => rfl
        · rfl
def mcB (H : List (Nat × Blk)) (nx b : Nat) : Blk → Option (List (Nat × Blk) × V × Lost × Nat)
  | .map es => if tagged es then none else some (put H b (.map []), .junk, .none, nx)
  | _ => none
theorem mcB_map (H nx b es) (h : tagged es = false) : mcB H nx b (.map es) = some (put H b (.map []), .junk, .none, nx) := by simp [mcB, h]
def wrMclr (H : List (Nat × Blk)) (nx : Nat) : V → Option (List (Nat × Blk) × V × Lost × Nat)
  | .map b => o1 (mcB H nx b) (look H b)
  | _ => none
theorem wrMclr_map (H nx b) : wrMclr H nx (.map b) = o1 (mcB H nx b) (look H b) := rfl
theorem evWr_mclr (K s H m) : evWr K s H (.mclr m) = o1 (wrMclr H s.nx) (ev K s m) := by
  simp only [evWr, o1]
  cases ev K s m with
  | none => rfl
  | some a =>
    cases a <;> try rfl
    rename_i b
    simp only [Option.bind_some, wrMclr, o1]
    cases look H b with
    | none => rfl
    | some blk => cases blk <;> rfl

def seenE (l : List (List UInt8)) : List (D × V) := l.map fun m => (.str m, .d false (.int .i64 1))
theorem findE_seen (n : List UInt8) (l : List (List UInt8)) : findE 2 (.str n) (seenE l) = some (if l.contains n then some (.d false (.int .i64 1)) else none) := by
  induction l with
  | nil => rfl
  | cons m l ih =>
    simp only [seenE, List.map_cons, findE, keyEq, List.contains_cons] at ih ⊢
    by_cases h : n = m
    · simp [h]
    · have : (n == m) = false := by simpa using h
      simp only [this, Bool.false_or]
      have hd : decide (n = m) = false := by simpa using h
      simp only [hd]
      exact ih
theorem setE_seen (n : List UInt8) (l : List (List UInt8)) (h : l.contains n = false) : setE 2 (.str n) (.d false (.int .i64 1)) (seenE l) = some (seenE (l ++ [n])) := by
  induction l with
  | nil => simp [seenE, setE, keyEq]
  | cons m l ih =>
    simp only [List.contains_cons, Bool.or_eq_false_iff] at h
    have hd : decide (n = m) = false := by simpa using h.1
    have ih := ih h.2
    simp only [seenE, List.map_cons, setE, keyEq, hd, List.cons_append] at ih ⊢
    rw [ih]
theorem seenE_nil : seenE [] = [] := rfl
theorem seen_refs (l : List (List UInt8)) : (seenE l).flatMap (fun q => q.2.refs) = [] := by
  induction l with
  | nil => rfl
  | cons m l ih => simp [seenE, V.refs]
theorem seen_within (l : List (List UInt8)) (p : Nat → Bool) : (seenE l).all (fun q => q.2.within p) = true := by
  simp [seenE, V.within]
theorem seen_ren (l : List (List UInt8)) (g : Nat → Nat) : (seenE l).map (fun q => (q.1, q.2.ren g)) = seenE l := by
  simp [seenE, V.ren]
theorem cast7 : ((7 : Nat) : Int) = 7 := rfl
theorem wonV_t (c x) : wonV true (some (.d c (.bool x))) = some x := by cases x <;> rfl
theorem wonV_f (c x) : wonV false (some (.d c (.bool x))) = some (!x) := by cases x <;> rfl
theorem evMk_bld (K s t e) : evMk K s (.bld t e) = some (.ptr s.nx 0 0, [.map [(.nils t, .bsl (s.nx + 1) 0 0)], .map [(.emps e, .d false .nilp), (.str [], .d false .nilp)]]) := rfl
theorem e_b2s (K s a) : ev K s (.b2s a) = o1 (evB2s s.heap) (ev K s a) := by
  simp only [ev]; cases ev K s a <;> rfl
theorem e_i2s (K s a) : ev K s (.i2s a) = o1 evI2s (ev K s a) := by
  simp only [ev]; cases ev K s a <;> rfl

end Go.Vm
end

section
namespace Go.Vm

theorem exec_scope (K c ls s) : exec K (.scope c ls) s = scopeF (fun l => exec.labelled K ls l) (exec K c s) := rfl
theorem lab_cons (K l c ls) : exec.labelled K (.lcons l c ls) l = some (exec K c) := by simp [exec.labelled]

theorem scopeF_done (f : Nat → Option (S → Option (Ex × S))) (e : Ex) (s : S) (h : ∀ l, e ≠ .goto l) : scopeF f (some (e, s)) = some (e, s) := by
  refine scopeF_of (n := 1) ?_
  cases e with
  | goto l => exact absurd rfl (h l)
  | _ => rfl
theorem scopeF_ret (f : Nat → Option (S → Option (Ex × S))) (s : S) : scopeF f (some (.ret, s)) = some (.ret, s) := scopeF_done f .ret s (fun l h => by cases h)
theorem scopeF_nrm (f : Nat → Option (S → Option (Ex × S))) (s : S) : scopeF f (some (.nrm, s)) = some (.nrm, s) := scopeF_done f .nrm s (fun l h => by cases h)

theorem scopeF_goto {f : Nat → Option (S → Option (Ex × S))} {l : Nat} {g : S → Option (Ex × S)} (h : f l = some g) (s : S) : scopeF f (some (.goto l, s)) = scopeF f (g s) := by
  have step : ∀ n, jumps f (n + 1) (some (.goto l, s)) = jumps f n (g s) := fun n => by simp only [jumps, h]
  by_cases hex : ∃ n, (jumps f n (g s)).isSome
  · obtain ⟨n, hn⟩ := hex
    obtain ⟨r, hr⟩ := Option.isSome_iff_exists.1 hn
    rw [scopeF_of hr, scopeF_of (n := n + 1) (by rw [step]; exact hr)]
  · have hex2 : ¬ ∃ n, (jumps f n (some (.goto l, s))).isSome := by
      rintro ⟨n, hn⟩
      cases n with
      | zero => simp [jumps] at hn
      | succ n => rw [step] at hn; exact hex ⟨n, hn⟩
    unfold scopeF
    rw [dif_neg hex, dif_neg hex2]


def rwB (k i len : Nat) : Blk → Option Rows
  | .dat c k' rows => if k' = k ∧ i + len ≤ rows.length then some (.dat (c || flatRows rows) ((rows.drop i).take len)) else none
  | .mix k' rows => if k' = k ∧ i + len ≤ rows.length then some (.mix ((rows.drop i).take len)) else none
  | .map _ => none
theorem rows_bsl (H k b i len) : rowsOf H k (.bsl b i len) = o1 (rwB k i len) (look H b) := by
  simp only [rowsOf, o1]
  cases look H b with
  | none => rfl
  | some blk => cases blk <;> rfl
theorem rwB_dat (k i len c rows) : rwB k i len (.dat c k rows) = if i + len ≤ rows.length then some (.dat (c || flatRows rows) ((rows.drop i).take len)) else none := by simp [rwB]
theorem rwB_mix (k i len rows) : rwB k i len (.mix k rows) = if i + len ≤ rows.length then some (.mix ((rows.drop i).take len)) else none := by simp [rwB]
end Go.Vm
end

section
namespace Go.Vm

theorem LN : type_of% (And.intro (And.intro (And.intro @List.length_map.{0,0} (And.intro @List.length_append.{0} @List.length_take.{0})) (And.intro @List.length_drop.{0} (And.intro @List.length_replicate.{0} @List.length_set.{0}))) (And.intro (And.intro @List.length_cons.{0} (And.intro @List.length_nil.{0} @Rows.n.eq_1)) (And.intro (And.intro @Rows.n.eq_2 @most_eq) (And.intro @Int.toNat_natCast @Nat.zero_add)))) :=
  (And.intro (And.intro (And.intro @List.length_map.{0,0} (And.intro @List.length_append.{0} @List.length_take.{0})) (And.intro @List.length_drop.{0} (And.intro @List.length_replicate.{0} @List.length_set.{0}))) (And.intro (And.intro @List.length_cons.{0} (And.intro @List.length_nil.{0} @Rows.n.eq_1)) (And.intro (And.intro @Rows.n.eq_2 @most_eq) (And.intro @Int.toNat_natCast @Nat.zero_add))))

theorem SV : type_of% (And.intro (And.intro (And.intro (And.intro (And.intro (And.intro (And.intro (And.intro @e_sl @look_cons) (And.intro @lookB_true @o2_some)) (And.intro (And.intro @lookB_false @o1_some) (And.intro @List.length_nil.{0} (And.intro @List.map_nil.{0,0} @evMks_nil)))) (And.intro (And.intro (And.intro @List.nil_append.{0} @List.append_nil.{0}) (And.intro @segL_eq (And.intro @wonB_nil @evChk_nil))) (And.intro (And.intro @evLets_cons @evLets_nil) (And.intro @letC_eq (And.intro @restrict_cons @resC_some))))) (And.intro (And.intro (And.intro (And.intro @restrict_nil @addBlks.eq_1) (And.intro @addBlks.eq_2 @List.map_cons.{0,0})) (And.intro (And.intro @exec_seq @evSeg_eq) (And.intro @segW_none (And.intro @List.cons_append.{0} @segs_nil)))) (And.intro (And.intro (And.intro @nrm_some @thn_nrm) (And.intro @List.zipIdx_nil.{0} (And.intro @exec_reg @evSegs_cons))) (And.intro (And.intro @tidyS_a @tidyA_eq) (And.intro @refsL.eq_1 (And.intro @refsL.eq_2 @reachB_nil)))))) (And.intro (And.intro (And.intro (And.intro (And.intro @tidyB_eq @List.nodup_nil.{0}) (And.intro @List.all_nil.{0} @closedB.eq_1)) (And.intro (And.intro @Blk.ren.eq_1 @Blk.ren.eq_2) (And.intro @Blk.ren.eq_3 (And.intro @List.filterMap_nil.{0,0} @List.filter_nil.{0})))) (And.intro (And.intro (And.intro @range0 @List.all_cons.{0}) (And.intro @V.within.eq_1 (And.intro @V.within.eq_2 @V.within.eq_3))) (And.intro (And.intro @V.within.eq_4 @V.within.eq_5) (And.intro @V.within.eq_6 (And.intro @V.within.eq_7 @V.within.eq_8))))) (And.intro (And.intro (And.intro (And.intro @V.within.eq_9 @V.within.eq_10) (And.intro @V.ren.eq_1 (And.intro @V.ren.eq_2 @V.ren.eq_3))) (And.intro (And.intro @V.ren.eq_4 @V.ren.eq_5) (And.intro @V.ren.eq_6 (And.intro @V.ren.eq_7 @V.ren.eq_8)))) (And.intro (And.intro (And.intro @V.ren.eq_9 @V.ren.eq_10) (And.intro @take_all (And.intro @e_bin @List.length_cons.{0}))) (And.intro (And.intro @Blk.within.eq_1 @Blk.within.eq_2) (And.intro @Blk.within.eq_3 (And.intro @exec_cond @Option.map_some.{0,0}))))))) (And.intro (And.intro (And.intro (And.intro (And.intro (And.intro @e_int @exec_tidy) (And.intro @mapO_cons @mapO_nil)) (And.intro (And.intro @mapC_eq @e_ld) (And.intro @exec_block (And.intro @List.drop_zero.{0} @put_cons)))) (And.intro (And.intro (And.intro @List.zipIdx_cons.{0} @evLd_ptr) (And.intro @ldB_eq (And.intro @ldR_eq @row_mix))) (And.intro (And.intro @part_one @evMks_cons) (And.intro @mksA_eq (And.intro @put_nil @mksB_eq))))) (And.intro (And.intro (And.intro (And.intro @e_fa @putB_false) (And.intro @List.drop_succ_cons.{0} @brn_false)) (And.intro (And.intro @exec_ret @brn_true) (And.intro @evMk_box (And.intro @mkBox.eq_1 @List.take_zero.{0})))) (And.intro (And.intro (And.intro @endF_ret @finish.eq_1) (And.intro @exec_skip (And.intro @runFun_eq @startS.eq_1))) (And.intro (And.intro @indexed.eq_1 @evChk_cons) (And.intro @Option.isSome_some.{0} (And.intro @e_bool @e_nil)))))) (And.intro (And.intro (And.intro (And.intro (And.intro @loseH.eq_1 @loseH.eq_2) (And.intro @loseH.eq_3 @Lost.ids.eq_1)) (And.intro (And.intro @Lost.ids.eq_2 @Lost.ids.eq_3) (And.intro @segW_some (And.intro @putB_true @segO_none)))) (And.intro (And.intro (And.intro @e_cons @consV_tup) (And.intro @splice.eq_1 (And.intro @evWr_store @wrStore_ptr))) (And.intro (And.intro @stA_eq @stB_some) (And.intro @set_mix0 (And.intro @part_true @blk_nrm))))) (And.intro (And.intro (And.intro (And.intro @e_ia @ilt_T) (And.intro @mkd.eq_1 (And.intro @eq_f @viewDepth.eq_1))) (And.intro (And.intro @evIa_dm @thn_ret) (And.intro @evLd_d (And.intro @List.any_cons.{0} @List.any_nil.{0})))) (And.intro (And.intro (And.intro @evCall_eq @passes_eq) (And.intro @callA_eq (And.intro @e_agg @aggV_tup))) (And.intro (And.intro @List.length_map.{0,0} @e_call) (And.intro @callV_tup (And.intro @e_len @e_and)))))))) (And.intro (And.intro (And.intro (And.intro (And.intro (And.intro (And.intro @andV_some @reachB_cons) (And.intro @List.contains_nil.{0} @reachC_false)) (And.intro (And.intro @refsO_some @Blk.refs.eq_1) (And.intro @Blk.refs.eq_2 (And.intro @Blk.refs.eq_3 @List.nodup_cons.{0})))) (And.intro (And.intro (And.intro @List.not_mem_nil.{0} @List.idxOf_cons.{0}) (And.intro @List.contains_cons.{0} (And.intro @callR_some @wrap64))) (And.intro (And.intro @List.filterMap_cons.{0,0} @e_nilsl) (And.intro @List.flatMap_cons.{0,0} (And.intro @List.flatMap_nil.{0,0} @withinL.eq_1))))) (And.intro (And.intro (And.intro (And.intro @withinL.eq_2 @renL.eq_1) (And.intro @renL.eq_2 @e_or)) (And.intro (And.intro @orV_some @blk_ret) (And.intro @segs_cons (And.intro @e_un @List.mem_cons.{0})))) (And.intro (And.intro (And.intro @ilt_F @ile_T) (And.intro @e_ext (And.intro @lpT_nrm @e_str))) (And.intro (And.intro @evIa_bsl @iaB_dat) (And.intro @lpT_ret (And.intro @nlt_T @exec_loop)))))) (And.intro (And.intro (And.intro (And.intro (And.intro @row_datm @look_nil) (And.intro @blk_exit @evMk_lits)) (And.intro (And.intro @mkLits_tup @mkBlk.eq_1) (And.intro @nle_T (And.intro @Option.map_none.{0,0} @List.take_succ_cons.{0})))) (And.intro (And.intro (And.intro @ile_F @exec_exit) (And.intro @thn_exit (And.intro @segO_some @e_set))) (And.intro (And.intro @Option.some.injEq.{0} @lpT_exit) (And.intro @o3_some (And.intro @forgetH.eq_1 @Blk.forget.eq_1))))) (And.intro (And.intro (And.intro (And.intro @Blk.forget.eq_2 @Blk.forget.eq_3) (And.intro @callR_pass (And.intro @e_eqs @set_datm))) (And.intro (And.intro @setD_some @evWr_app) (And.intro @Rows.n.eq_1 (And.intro @Rows.n.eq_2 @e_lkp)))) (And.intro (And.intro (And.intro @evLkp_map @lkB_map) (And.intro @findE_seen (And.intro @wonB_one @ne_t))) (And.intro (And.intro @seen_refs @seen_within) (And.intro @seen_ren (And.intro @rows_bsl @rwB_dat))))))) (And.intro (And.intro (And.intro (And.intro (And.intro (And.intro @flatRows_cons @flatRows_nil) (And.intro @forgetR.eq_1 @List.filter_cons.{0})) (And.intro (And.intro @evWr_calle @wrEff_tup) (And.intro @evEff_eq (And.intro @handed.eq_1 @Blk.dim.eq_1)))) (And.intro (And.intro (And.intro @Blk.dim.eq_2 @Blk.dim.eq_3) (And.intro @effA_eq (And.intro @V.dim.eq_1 @V.dim.eq_2))) (And.intro (And.intro @V.dim.eq_3 @V.dim.eq_4) (And.intro @V.dim.eq_5 (And.intro @V.dim.eq_6 @V.dim.eq_7))))) (And.intro (And.intro (And.intro (And.intro @V.dim.eq_8 @V.dim.eq_9) (And.intro @V.dim.eq_10 (And.intro @effR_eq @putAll.eq_1))) (And.intro (And.intro @putAll.eq_2 @backB_eq) (And.intro @Option.getD_some.{0} (And.intro @lkO_none @wrApp_bsl)))) (And.intro (And.intro (And.intro @apA_dat @Blk.app.eq_1) (And.intro @Blk.app.eq_2 (And.intro @Blk.app.eq_3 @Blk.app.eq_4))) (And.intro (And.intro @restH.eq_1 @nth_toNat) (And.intro @evMk_mkm (And.intro @evMk_callo @mkO_tup)))))) (And.intro (And.intro (And.intro (And.intro (And.intro @mkOA_eq @mkOR_some) (And.intro @Blk.plain.eq_1 @Blk.plain.eq_2)) (And.intro (And.intro @Blk.plain.eq_3 @Blk.new.eq_1) (And.intro @Blk.new.eq_2 (And.intro @Blk.new.eq_3 @wrApp_fs)))) (And.intro (And.intro (And.intro @Rows.blk.eq_1 @Rows.blk.eq_2) (And.intro @segW_off (And.intro @andV_false @evMk_mks))) (And.intro (And.intro @most_eq @reachC_true) (And.intro @blk_goto (And.intro @thn_goto @cast7))))) (And.intro (And.intro (And.intro (And.intro @ne_f @finB.eq_1) (And.intro @lkO_some (And.intro @evWr_mclr @wrMclr_map))) (And.intro (And.intro @mcB_map @List.set_cons_succ.{0}) (And.intro @List.set_cons_zero.{0} (And.intro @e_cond @condV_some)))) (And.intro (And.intro (And.intro @List.length_drop.{0} @List.length_take.{0}) (And.intro @e_ix (And.intro @evIx_str @toNat_add1))) (And.intro (And.intro @e_callv @callvV_tup) (And.intro @rows_d (And.intro @exec_goto @lpT_goto))))))))) :=
  (And.intro (And.intro (And.intro (And.intro (And.intro (And.intro (And.intro (And.intro @e_sl @look_cons) (And.intro @lookB_true @o2_some)) (And.intro (And.intro @lookB_false @o1_some) (And.intro @List.length_nil.{0} (And.intro @List.map_nil.{0,0} @evMks_nil)))) (And.intro (And.intro (And.intro @List.nil_append.{0} @List.append_nil.{0}) (And.intro @segL_eq (And.intro @wonB_nil @evChk_nil))) (And.intro (And.intro @evLets_cons @evLets_nil) (And.intro @letC_eq (And.intro @restrict_cons @resC_some))))) (And.intro (And.intro (And.intro (And.intro @restrict_nil @addBlks.eq_1) (And.intro @addBlks.eq_2 @List.map_cons.{0,0})) (And.intro (And.intro @exec_seq @evSeg_eq) (And.intro @segW_none (And.intro @List.cons_append.{0} @segs_nil)))) (And.intro (And.intro (And.intro @nrm_some @thn_nrm) (And.intro @List.zipIdx_nil.{0} (And.intro @exec_reg @evSegs_cons))) (And.intro (And.intro @tidyS_a @tidyA_eq) (And.intro @refsL.eq_1 (And.intro @refsL.eq_2 @reachB_nil)))))) (And.intro (And.intro (And.intro (And.intro (And.intro @tidyB_eq @List.nodup_nil.{0}) (And.intro @List.all_nil.{0} @closedB.eq_1)) (And.intro (And.intro @Blk.ren.eq_1 @Blk.ren.eq_2) (And.intro @Blk.ren.eq_3 (And.intro @List.filterMap_nil.{0,0} @List.filter_nil.{0})))) (And.intro (And.intro (And.intro @range0 @List.all_cons.{0}) (And.intro @V.within.eq_1 (And.intro @V.within.eq_2 @V.within.eq_3))) (And.intro (And.intro @V.within.eq_4 @V.within.eq_5) (And.intro @V.within.eq_6 (And.intro @V.within.eq_7 @V.within.eq_8))))) (And.intro (And.intro (And.intro (And.intro @V.within.eq_9 @V.within.eq_10) (And.intro @V.ren.eq_1 (And.intro @V.ren.eq_2 @V.ren.eq_3))) (And.intro (And.intro @V.ren.eq_4 @V.ren.eq_5) (And.intro @V.ren.eq_6 (And.intro @V.ren.eq_7 @V.ren.eq_8)))) (And.intro (And.intro (And.intro @V.ren.eq_9 @V.ren.eq_10) (And.intro @take_all (And.intro @e_bin @List.length_cons.{0}))) (And.intro (And.intro @Blk.within.eq_1 @Blk.within.eq_2) (And.intro @Blk.within.eq_3 (And.intro @exec_cond @Option.map_some.{0,0}))))))) (And.intro (And.intro (And.intro (And.intro (And.intro (And.intro @e_int @exec_tidy) (And.intro @mapO_cons @mapO_nil)) (And.intro (And.intro @mapC_eq @e_ld) (And.intro @exec_block (And.intro @List.drop_zero.{0} @put_cons)))) (And.intro (And.intro (And.intro @List.zipIdx_cons.{0} @evLd_ptr) (And.intro @ldB_eq (And.intro @ldR_eq @row_mix))) (And.intro (And.intro @part_one @evMks_cons) (And.intro @mksA_eq (And.intro @put_nil @mksB_eq))))) (And.intro (And.intro (And.intro (And.intro @e_fa @putB_false) (And.intro @List.drop_succ_cons.{0} @brn_false)) (And.intro (And.intro @exec_ret @brn_true) (And.intro @evMk_box (And.intro @mkBox.eq_1 @List.take_zero.{0})))) (And.intro (And.intro (And.intro @endF_ret @finish.eq_1) (And.intro @exec_skip (And.intro @runFun_eq @startS.eq_1))) (And.intro (And.intro @indexed.eq_1 @evChk_cons) (And.intro @Option.isSome_some.{0} (And.intro @e_bool @e_nil)))))) (And.intro (And.intro (And.intro (And.intro (And.intro @loseH.eq_1 @loseH.eq_2) (And.intro @loseH.eq_3 @Lost.ids.eq_1)) (And.intro (And.intro @Lost.ids.eq_2 @Lost.ids.eq_3) (And.intro @segW_some (And.intro @putB_true @segO_none)))) (And.intro (And.intro (And.intro @e_cons @consV_tup) (And.intro @splice.eq_1 (And.intro @evWr_store @wrStore_ptr))) (And.intro (And.intro @stA_eq @stB_some) (And.intro @set_mix0 (And.intro @part_true @blk_nrm))))) (And.intro (And.intro (And.intro (And.intro @e_ia @ilt_T) (And.intro @mkd.eq_1 (And.intro @eq_f @viewDepth.eq_1))) (And.intro (And.intro @evIa_dm @thn_ret) (And.intro @evLd_d (And.intro @List.any_cons.{0} @List.any_nil.{0})))) (And.intro (And.intro (And.intro @evCall_eq @passes_eq) (And.intro @callA_eq (And.intro @e_agg @aggV_tup))) (And.intro (And.intro @List.length_map.{0,0} @e_call) (And.intro @callV_tup (And.intro @e_len @e_and)))))))) (And.intro (And.intro (And.intro (And.intro (And.intro (And.intro (And.intro @andV_some @reachB_cons) (And.intro @List.contains_nil.{0} @reachC_false)) (And.intro (And.intro @refsO_some @Blk.refs.eq_1) (And.intro @Blk.refs.eq_2 (And.intro @Blk.refs.eq_3 @List.nodup_cons.{0})))) (And.intro (And.intro (And.intro @List.not_mem_nil.{0} @List.idxOf_cons.{0}) (And.intro @List.contains_cons.{0} (And.intro @callR_some @wrap64))) (And.intro (And.intro @List.filterMap_cons.{0,0} @e_nilsl) (And.intro @List.flatMap_cons.{0,0} (And.intro @List.flatMap_nil.{0,0} @withinL.eq_1))))) (And.intro (And.intro (And.intro (And.intro @withinL.eq_2 @renL.eq_1) (And.intro @renL.eq_2 @e_or)) (And.intro (And.intro @orV_some @blk_ret) (And.intro @segs_cons (And.intro @e_un @List.mem_cons.{0})))) (And.intro (And.intro (And.intro @ilt_F @ile_T) (And.intro @e_ext (And.intro @lpT_nrm @e_str))) (And.intro (And.intro @evIa_bsl @iaB_dat) (And.intro @lpT_ret (And.intro @nlt_T @exec_loop)))))) (And.intro (And.intro (And.intro (And.intro (And.intro @row_datm @look_nil) (And.intro @blk_exit @evMk_lits)) (And.intro (And.intro @mkLits_tup @mkBlk.eq_1) (And.intro @nle_T (And.intro @Option.map_none.{0,0} @List.take_succ_cons.{0})))) (And.intro (And.intro (And.intro @ile_F @exec_exit) (And.intro @thn_exit (And.intro @segO_some @e_set))) (And.intro (And.intro @Option.some.injEq.{0} @lpT_exit) (And.intro @o3_some (And.intro @forgetH.eq_1 @Blk.forget.eq_1))))) (And.intro (And.intro (And.intro (And.intro @Blk.forget.eq_2 @Blk.forget.eq_3) (And.intro @callR_pass (And.intro @e_eqs @set_datm))) (And.intro (And.intro @setD_some @evWr_app) (And.intro @Rows.n.eq_1 (And.intro @Rows.n.eq_2 @e_lkp)))) (And.intro (And.intro (And.intro @evLkp_map @lkB_map) (And.intro @findE_seen (And.intro @wonB_one @ne_t))) (And.intro (And.intro @seen_refs @seen_within) (And.intro @seen_ren (And.intro @rows_bsl @rwB_dat))))))) (And.intro (And.intro (And.intro (And.intro (And.intro (And.intro @flatRows_cons @flatRows_nil) (And.intro @forgetR.eq_1 @List.filter_cons.{0})) (And.intro (And.intro @evWr_calle @wrEff_tup) (And.intro @evEff_eq (And.intro @handed.eq_1 @Blk.dim.eq_1)))) (And.intro (And.intro (And.intro @Blk.dim.eq_2 @Blk.dim.eq_3) (And.intro @effA_eq (And.intro @V.dim.eq_1 @V.dim.eq_2))) (And.intro (And.intro @V.dim.eq_3 @V.dim.eq_4) (And.intro @V.dim.eq_5 (And.intro @V.dim.eq_6 @V.dim.eq_7))))) (And.intro (And.intro (And.intro (And.intro @V.dim.eq_8 @V.dim.eq_9) (And.intro @V.dim.eq_10 (And.intro @effR_eq @putAll.eq_1))) (And.intro (And.intro @putAll.eq_2 @backB_eq) (And.intro @Option.getD_some.{0} (And.intro @lkO_none @wrApp_bsl)))) (And.intro (And.intro (And.intro @apA_dat @Blk.app.eq_1) (And.intro @Blk.app.eq_2 (And.intro @Blk.app.eq_3 @Blk.app.eq_4))) (And.intro (And.intro @restH.eq_1 @nth_toNat) (And.intro @evMk_mkm (And.intro @evMk_callo @mkO_tup)))))) (And.intro (And.intro (And.intro (And.intro (And.intro @mkOA_eq @mkOR_some) (And.intro @Blk.plain.eq_1 @Blk.plain.eq_2)) (And.intro (And.intro @Blk.plain.eq_3 @Blk.new.eq_1) (And.intro @Blk.new.eq_2 (And.intro @Blk.new.eq_3 @wrApp_fs)))) (And.intro (And.intro (And.intro @Rows.blk.eq_1 @Rows.blk.eq_2) (And.intro @segW_off (And.intro @andV_false @evMk_mks))) (And.intro (And.intro @most_eq @reachC_true) (And.intro @blk_goto (And.intro @thn_goto @cast7))))) (And.intro (And.intro (And.intro (And.intro @ne_f @finB.eq_1) (And.intro @lkO_some (And.intro @evWr_mclr @wrMclr_map))) (And.intro (And.intro @mcB_map @List.set_cons_succ.{0}) (And.intro @List.set_cons_zero.{0} (And.intro @e_cond @condV_some)))) (And.intro (And.intro (And.intro @List.length_drop.{0} @List.length_take.{0}) (And.intro @e_ix (And.intro @evIx_str @toNat_add1))) (And.intro (And.intro @e_callv @callvV_tup) (And.intro @rows_d (And.intro @exec_goto @lpT_goto)))))))))


end Go.Vm
end
