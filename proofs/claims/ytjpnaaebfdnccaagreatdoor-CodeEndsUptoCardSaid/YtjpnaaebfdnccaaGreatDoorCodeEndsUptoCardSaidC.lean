/-
  Parts of the proof: A piece of a region, in any order that its edges allow. Regions: in the order of the text, or in any order that the edges allow. A block that only one cell leads to, becomes data (frzS of VmJ). Pieces whose operations have one guard, and memory that becomes data ahead of a piece. Drawn regions whose pieces overlap: what may be worked out late may be worked out in the next pieces too. Regions that draw, their operations told in another order. Code that passed the check does what the machine says. Functions: what they return. Loops and jumps, by their rounds. The machine by reckoning: with so many rounds at the most. What is known of functions over package-level tables, put together of what each one answers. Package strings' Builder: its methods, with all that they leave alone. Package strings' Builder: WriteByte, WriteString, Len, String. Package strings' Builder: String. What the machine knows of a Builder's methods. DERIVED: THE SHELF's CONTRACTS AT THIS DUMP, IN PLAIN WORDS (tools/lay-plain.mjs out of 'TryzShelf.lean', which tools/lay-shelf.mjs wrote): THE SAME DECLARATIONS UNDER THE SAME NAMES: 'import', 'namespace', 'open', 'def', 'theorem' AND NOTHING ELSE: no command of the shelf's: FOR A HAND-IN. Each laying: the table of numbers ('.._ren') and one theorem, a field a fact of the dump's own or the kernel's comparison; each contract: ONE APPLICATION. Conditions: none.
-/
import Derived.Test.YtjpnaaebfdnccaaGreatDoorCodeEndsUptoCardSaidB
import Derived.Orders
import Derived.Scope
import Derived.Laws.Sem
import Derived.Shelf.Strings.BuilderK
import Derived.Shelf.Strings.Builder1
import Derived.Shelf.Small.Strs
import Derived.Shelf.LaysM
import Derived.Shelf.Strconv.Itoa3
import Derived.Shelf.Strings.Count
import Derived.Shelf.Strconv.Atoi
import Derived.Test.YtjpnaaebfdnccaaGreatDoorProg
set_option linter.unusedVariables false
set_option linter.unusedSimpArgs false

section
namespace Go.Vm
open Go.RowKit

variable {c : Piece} {D : Nat → Prop} {a : Act} {w : World} {F : Nat → Prop} {σ : Nat → Option Loc} {g : Seg} {s' : S} {news : List Blk} {l : List (Nat × V)} {is : List Nat}

structure Full (c : Piece) (is : List Nat) (g : Seg) (s' : S) (news : List Blk) (l : List (Nat × V)) : Prop where
  ok : c.Ok
  seg : SegOk c.B c.P c.ops c.n is g c.R
  ended : Ended c.K c.s s' g c.s1 news l
  traced : Traced c.K c.s c.s1 news g.mks c.T
  mds : c.mds = g.mks.map (·.1)
  ef : c.ef = g.ef
  nxm : c.m ≤ c.s.nx
  xm : ∀ b k, c.X b k → b < c.m

structure Wrt (c : Piece) (g : Seg) (s' : S) (D : Nat → Prop) (a : Act) (w : World) (F : Nat → Prop) (σ : Nat → Option Loc) : Prop where
  rest : ∀ r ∈ c.R, ¬ D r.i → lateR g.late r = true
  heap : HeapRel w F c.X c.base σ s'.nx s'.heap
  glob : GlobRel w F c.K.glob
  le : c.base ≤ w.heap.size
  frame : Frame c.X c.base c.w0 w
  frz : ∀ b, F b → c.F0 b ∨ c.base ≤ b
  size : a.tmps.size = c.n
  dfr : a.defers = c.K.dfr
  rho : ∀ t v, look s'.rho t = some v → (∀ r ∈ c.R, ¬ D r.i → r.o.dst ≠ some t) → RepV w F c.base σ (a.tmps.getD t undef) v
  dom : ∀ b blk, look s'.heap b = some blk → b < s'.nx
  stab : ∀ b l, b < c.m → c.σ0 b = some l → b ∉ s'.mv → σ b = some l
  nxm : c.m ≤ s'.nx
  xm : ∀ b k, c.X b k → b < c.m
  sub : ∀ b, c.F0 b → F b
  ldone : ∀ q ∈ c.R, D q.i → lateR g.late q = true → ∀ d, q.o.dst = some d → ∀ v, ev c.K (clean (newMv c.s s') (lateH c.K c.s g (newMv c.s s') s'.heap) c.s1) q.x = some v → RepV w F c.base σ (a.tmps.getD d undef) v
  lold : ∀ t v, look (clean (newMv c.s s') (lateH c.K c.s g (newMv c.s s') s'.heap) c.s1).rho t = some v → (∀ r ∈ c.R, D r.i → r.o.dst ≠ some t) → RepV w F c.base σ (a.tmps.getD t undef) v

def Stage (c : Piece) (g : Seg) (s' : S) (D : Nat → Prop) (a : Act) (w : World) : Prop :=
  ((∀ r ∈ c.R, D r.i → r.isWr = false) ∧ ∃ F σ, Inv c D a w F σ) ∨ ((∃ r ∈ c.R, D r.i ∧ r.isWr = true) ∧ ∃ F σ, Wrt c g s' D a w F σ)

theorem late_parts {late : List E} {q : Rec} (h : lateR late q = true) : ∃ e, q.kd = .pure e ∧ q.x = e ∧ e ∈ late ∧ q.ch = [] ∧ q.o.guard = none ∧ (∀ c x y, q.o.op ≠ .pick c x y) ∧ q.isWr = false ∧ q.isMk = false := by
  unfold lateR at h
  split at h
  · rename_i e hk
    simp only [Bool.and_eq_true, decide_eq_true_eq, List.isEmpty_iff, Option.isNone_iff_eq_none] at h
    obtain ⟨⟨⟨h1, h2⟩, h3⟩, h4⟩ := h
    refine ⟨e, hk, by simp [Rec.x, hk], h1, h2, h3, fun c x y hp => ?_, by simp [Rec.isWr, hk], by simp [Rec.isMk, hk]⟩
    rw [hp] at h4
    cases h4
  · cases h

theorem loseV_own (p : Lost) {x : V} (h : x.own = false) : loseV p x = x := by
  have one : ∀ (P : Nat → Bool) (x : V), x.own1 = false → x.drop1 P = x := by
    intro P x hx
    cases x <;> first | rfl | (simp [V.own1] at hx)
  have all : ∀ (P : Nat → Bool) (x : V), x.own = false → x.forget P = x := by
    intro P x hx
    cases x with
    | agg cs =>
      simp only [V.own, List.any_eq_false] at hx
      simp only [V.forget, V.agg.injEq]
      have : cs.map (V.drop1 P) = cs.map id := List.map_congr_left fun v hv => one P v (by simpa using hx v hv)
      rw [this, List.map_id]
    | d c y => rfl
    | fs c k rows => rfl
    | fn f cs =>
      simp only [V.own, List.any_eq_false] at hx
      simp only [V.forget, V.drop1]
      rw [if_neg]
      simp only [List.any_eq_true, not_exists, not_and]
      intro v hv hr
      have := hx v hv
      cases v <;> simp [V.own1, V.ref0] at this hr
    | _ => simp [V.own, V.own1] at hx
  cases p with
  | none => rfl
  | some b => exact all _ _ h
  | many l => cases l <;> first | rfl | exact all _ _ h

theorem loseV_late {p : Lost} {mv : List Nat} {x : V} (hp : ∀ b ∈ p.ids, b ∈ mv) (h : lateV mv x) : loseV p x = x := by
  cases x with
  | ptr b i j =>
    simp only [lateV, List.contains_eq_mem, decide_eq_false_iff_not] at h
    cases p with
    | none => rfl
    | some id =>
      have : b ≠ id := fun e => h (hp b (by simp [Lost.ids, e]))
      simp [loseV, V.forget, V.drop1, this]
    | many l =>
      cases l with
      | nil => rfl
      | cons a r =>
        have : ¬ b ∈ a :: r := fun e => h (hp b e)
        simp [loseV, V.forget, V.drop1, this]
  | bsl b i n =>
    simp only [lateV, List.contains_eq_mem, decide_eq_false_iff_not] at h
    cases p with
    | none => rfl
    | some id =>
      have : b ≠ id := fun e => h (hp b (by simp [Lost.ids, e]))
      simp [loseV, V.forget, V.drop1, this]
    | many l =>
      cases l with
      | nil => rfl
      | cons a r =>
        have : ¬ b ∈ a :: r := fun e => h (hp b e)
        simp [loseV, V.forget, V.drop1, this]
  | map b =>
    simp only [lateV, List.contains_eq_mem, decide_eq_false_iff_not] at h
    cases p with
    | none => rfl
    | some id =>
      have : b ≠ id := fun e => h (hp b (by simp [Lost.ids, e]))
      simp [loseV, V.forget, V.drop1, this]
    | many l =>
      cases l with
      | nil => rfl
      | cons a r =>
        have : ¬ b ∈ a :: r := fun e => h (hp b e)
        simp [loseV, V.forget, V.drop1, this]
  | _ => exact loseV_own p h

theorem look_filterA (p : Nat → Bool) : ∀ (H : List (Nat × Blk)) (b : Nat) (blk : Blk), look (H.filter fun q => p q.1) b = some blk → p b = true ∧ look H b = some blk
  | [], b, blk, h => by simp [look] at h
  | (k, v) :: H, b, blk, h => by
    simp only [List.filter_cons] at h
    split at h
    · rename_i hk
      simp only [look] at h ⊢
      split at h
      · rename_i e
        subst e
        exact ⟨hk, by rw [if_pos rfl]; exact h⟩
      · rename_i e
        obtain ⟨h1, h2⟩ := look_filterA p H b blk h
        exact ⟨h1, by rw [if_neg e]; exact h2⟩
    · rename_i hk
      obtain ⟨h1, h2⟩ := look_filterA p H b blk h
      refine ⟨h1, ?_⟩
      simp only [look]
      rw [if_neg (fun e => hk (by rw [e]; exact h1))]
      exact h2

theorem BlkRel.common {w : World} {F : Nat → Prop} {base : Nat} {σ : Nat → Option Loc} {b : Nat} {x y z : Blk} (h : BlkRel w F base σ b y) (hc : x.common y = some z) : BlkRel w F base σ b z := by
  unfold Blk.common at hc
  split at hc
  case h_2 => cases hc
  rename_i k rows k' rows'
  split at hc
  case isFalse => cases hc
  obtain rfl := Option.some.inj hc
  rcases h with ⟨h1, h2⟩ | ⟨l, es, ck, ds, hbad, _⟩ | ⟨l, cs, T, h1, h2, h3, h4, h5, h6, h7⟩
  · exact .inl ⟨by simpa [Blk.n] using h1, h2⟩
  · cases hbad
  · refine .inr <| .inr ⟨l, cs, T, h1, h2, h3, by simpa [Blk.n] using h4, h5, fun i row hr => ?_, rfl⟩
    simp only [Blk.row?, List.getElem?_map, Option.map_eq_some_iff] at hr
    obtain ⟨q, hq, rfl⟩ := hr
    obtain ⟨r, i'⟩ := q
    have hq2 : rows'[i]? = some r := by
      rw [List.getElem?_zipIdx, Option.map_eq_some_iff] at hq
      obtain ⟨a, ha, he⟩ := hq
      simp only [Prod.mk.injEq] at he
      rw [ha, he.1]
    obtain ⟨g1, g2⟩ := h6 i r hq2
    refine ⟨by simpa [Blk.k] using g1, fun j v hv => ?_⟩
    simp only [List.getElem?_map, Option.map_eq_some_iff] at hv
    obtain ⟨p, hp, rfl⟩ := hv
    obtain ⟨y, j'⟩ := p
    have hp2 : r[j]? = some y := by
      rw [List.getElem?_zipIdx, Option.map_eq_some_iff] at hp
      obtain ⟨a, ha, he⟩ := hp
      simp only [Prod.mk.injEq] at he
      rw [ha, he.1]
    obtain ⟨v, v1, v2, v3⟩ := g2 j y hp2
    refine ⟨v, v1, v2, ?_⟩
    simp only
    split
    · split
      · exact v3
      · exact .junk _
    · exact .junk _

theorem lateH_look {K : Cx} {s s' s1 : S} {g : Seg} {news : List Blk} {l : List (Nat × V)} (h : Ended K s s' g s1 news l) (hnx : s.nx ≤ s1.nx) (hdom : ∀ b blk, look s.heap b = some blk → b < s.nx) {b : Nat} {blk : Blk} (hb : look (lateH K s g (newMv s s') s'.heap) b = some blk) : ∃ blk0, look s'.heap b = some blk0 ∧ (blk = blk0 ∨ ∃ x : Blk, x.common blk0 = some blk) := by
  unfold lateH at hb
  have none : ∀ {b : Nat} {blk : Blk}, look ([] : List (Nat × Blk)) b = some blk → False := fun h => by simp [look] at h
  split at hb
  case h_3 => exact (none hb).elim
  case h_2 =>
    rename_i d0 nn ea ee s2 news2 hg hm
    rw [h.mks] at hm
    obtain ⟨rfl, rfl⟩ := Prod.mk.inj (Option.some.inj hm)
    split at hb
    case isFalse => exact (none hb).elim
    split at hb
    case h_2 => exact (none hb).elim
    rename_i bt it jt hpt
    obtain ⟨hne, hl⟩ := look_filterA (fun b => b != bt) _ _ _ hb
    have hbn := hdom _ _ hl
    have hadd : look (addBlks s.heap s.nx news) b = some blk := by rw [look_addBlks, if_neg (by omega)]; exact hl
    have hne' : b ≠ bt := by simpa using hne
    rcases h.wr with ⟨hw0, _⟩ | ⟨d, wr, hw0, _, he⟩ | ⟨d, wr, H, v, p, nx, hw0, _, hev, he⟩
    · rw [hg] at hw0; cases hw0
    · subst he; exact ⟨blk, hadd, .inl rfl⟩
    · rw [hg] at hw0
      simp only [Option.some.injEq, Prod.mk.injEq] at hw0
      obtain ⟨rfl, rfl⟩ := hw0
      simp only [evWr, hpt] at hev
      split at hev
      case h_2 => cases hev
      rename_i hx1 hx2
      simp only [Option.some.injEq, V.ptr.injEq] at hx1
      obtain ⟨rfl, rfl, rfl⟩ := hx1
      split at hev
      case isFalse => cases hev
      split at hev
      case h_2 => cases hev
      split at hev
      case h_2 => cases hev
      simp only [Option.some.injEq, Prod.mk.injEq] at hev
      obtain ⟨rfl, _, rfl, _⟩ := hev
      rw [he]
      simp only [loseH]
      rw [look_put, if_neg (fun e => hne' e.symm)]
      exact ⟨blk, hadd, .inl rfl⟩
  rename_i d0 f args s2 news2 hg hm
  rw [h.mks] at hm
  obtain ⟨rfl, rfl⟩ := Prod.mk.inj (Option.some.inj hm)
  split at hb
  case h_2 => exact (none hb).elim
  rename_i vs hvs
  split at hb
  case h_2 => exact (none hb).elim
  rename_i f' ws hcal
  have hf := look_filterF (fun b => lateF s.heap s'.heap (!(reachB (addBlks s.heap s.nx news) (refN (addBlks s.heap s.nx news) + 64) [] (refsL ws)).contains b && (decide (newMv s s' = []) || stillAt s.heap b)) b) _ _ _ hb
  simp only [lateF] at hf
  split at hf
  case isFalse =>
    split at hf
    · rename_i x y hx hy
      exact ⟨y, hy, .inr ⟨x, hf⟩⟩
    · cases hf
  rename_i hnc
  have hl := hf
  rw [Bool.and_eq_true, Bool.or_eq_true, decide_eq_true_eq] at hnc
  obtain ⟨hnc, hst⟩ := hnc
  refine ⟨blk, ?_, .inl rfl⟩
  have hbn := hdom _ _ hl
  have hadd : look (addBlks s.heap s.nx news) b = some blk := by rw [look_addBlks, if_neg (by omega)]; exact hl
  rcases h.wr with ⟨hw0, _⟩ | ⟨d, wr, hw0, _, he⟩ | ⟨d, wr, H, v, p, nx, hw0, _, hev, he⟩
  · rw [hg] at hw0; cases hw0
  · subst he; exact hadd
  · rw [hg] at hw0
    simp only [Option.some.injEq, Prod.mk.injEq] at hw0
    obtain ⟨rfl, rfl⟩ := hw0
    simp only [evWr, hvs, hcal] at hev
    unfold evEff at hev
    split at hev
    case isFalse => cases hev
    split at hev
    case h_2 => cases hev
    split at hev
    case h_2 => cases hev
    rename_i r blks' mv' heff
    split at hev
    case isFalse => cases hev
    simp only [Option.some.injEq, Prod.mk.injEq] at hev
    obtain ⟨rfl, _, rfl, rfl⟩ := hev
    have hids : mv'.map (backB (reachB (addBlks s.heap s.nx news) (refN (addBlks s.heap s.nx news) + 64) [] (refsL ws)) s1.nx) = [] ∨ blk.still = true := by
      rcases hst with hmv | hst
      · rw [he, newMv_app] at hmv
        exact .inl hmv
      · right
        unfold stillAt at hst
        rw [hl] at hst
        exact hst
    rw [he]
    simp only [loseH]
    rw [putAll_other _ _ _ _ _ (fun j hj e => ?_)]
    · exact look_loseM_still hadd hids
    · rw [Nat.zero_add] at e
      by_cases hj2 : j < (reachB (addBlks s.heap s.nx news) (refN (addBlks s.heap s.nx news) + 64) [] (refsL ws)).length
      · rw [backB_lt hj2] at e
        have : (reachB (addBlks s.heap s.nx news) (refN (addBlks s.heap s.nx news) + 64) [] (refsL ws)).contains b = true := by
          rw [← e]; simp [List.contains_eq_mem]
        rw [this] at hnc
        cases hnc
      · rw [backB_ge (by omega)] at e
        omega

theorem cleanV_look {l : List Nat} {H : List (Nat × Blk)} {s : S} {t : Nat} {v : V} (h : look (clean l H s).rho t = some v) : ∃ u, look s.rho t = some u ∧ (v = u ∧ lateV l u ∨ v = .junk) := by
  simp only [clean] at h
  rw [look_mapV, Option.map_eq_some_iff] at h
  obtain ⟨u, hu, rfl⟩ := h
  refine ⟨u, hu, ?_⟩
  cases u with
  | ptr b i j =>
    simp only [cleanV]
    split
    · exact .inr rfl
    · rename_i hb; exact .inl ⟨rfl, by simpa [lateV] using hb⟩
  | bsl b i n =>
    simp only [cleanV]
    split
    · exact .inr rfl
    · rename_i hb; exact .inl ⟨rfl, by simpa [lateV] using hb⟩
  | map b =>
    simp only [cleanV]
    split
    · exact .inr rfl
    · rename_i hb; exact .inl ⟨rfl, by simpa [lateV] using hb⟩
  | _ => first | exact .inl ⟨rfl, rfl⟩ | exact .inr rfl

theorem Full.nx (h : Full c is g s' news l) : c.s.nx ≤ c.s1.nx := by rw [h.traced.nx]; omega

theorem all_heap (h : Full c is g s' news l) (hi : Inv c D a w F σ) (hall : ∀ r ∈ c.R, r.isMk = true → D r.i) : HeapRel w F c.X c.base σ c.s1.nx (addBlks c.s.heap c.s.nx news) := by
  refine ⟨fun b blk hb => ?_, hi.heap.inj, hi.heap.own, hi.heap.fro⟩
  rw [look_addBlks] at hb
  split at hb
  · rename_i hr
    obtain ⟨d, m, v, n0, nw, j, hT, he, hj⟩ := h.traced.news _ _ hb
    have : b = n0 + j := by omega
    subst this
    have hmd : d ∈ c.mds := (h.ok.mds d).2 ⟨m, v, n0, nw, hT⟩
    obtain ⟨r, hr, hd, hm⟩ := h.ok.covers d hmd
    exact hi.made d m v n0 nw hT ⟨r, hr, hall r hr hm, hd⟩ j blk hj
  · exact hi.heap.blk b blk hb

theorem all_dom (h : Full c is g s' news l) : ∀ b blk, look (addBlks c.s.heap c.s.nx news) b = some blk → b < c.s1.nx := by
  intro b blk hb
  rw [look_addBlks] at hb
  split at hb
  · have := h.traced.nx; omega
  · have := h.ok.dom b blk hb; have := h.nx; omega

theorem all_rho (h : Full c is g s' news l) (hi : Inv c D a w F σ) (hall : ∀ r ∈ c.R, r.isMk = true → D r.i) (hwr : ∀ r ∈ c.R, D r.i → r.isWr = false) :
    ∀ t v, look (l ++ restrict c.s1.rho g.keep) t = some v → (∀ r ∈ c.R, ¬ D r.i → r.isWr = false → r.o.dst ≠ some t) → RepV w F c.base σ (a.tmps.getD t undef) v := by
  intro t v hv hnp
  rw [look_append] at hv
  cases hl : look l t with
  | some u =>
    rw [hl] at hv
    obtain rfl := Option.some.inj hv
    obtain ⟨e, he, hev⟩ := (evLets_get _ _ _ _ h.ended.lets).1 t u hl
    obtain ⟨r, hr, hd, hk, hch⟩ := h.seg.lets _ he
    have hw : r.isWr = false := by simp [Rec.isWr, hk]
    have hrD : D r.i := Classical.byContradiction fun hn => hnp r hr hn hw hd
    refine (hi.done r hr hrD t hd hw).1 (by rw [hch]; exact fun p hp => by simp at hp) u ?_
    have : r.x = e := by simp [Rec.x, hk]
    rw [this]
    exact hev
  | none =>
    rw [hl] at hv
    simp only at hv
    obtain ⟨hk, hv⟩ := look_restrict _ _ _ _ hv
    by_cases hm : t ∈ c.mds
    · obtain ⟨r, hr, hd, hmk⟩ := h.ok.covers t hm
      obtain ⟨later, done, _, hg⟩ := h.ok.good.split hr
      cases hg with
      | cons _ _ _ _ _ hch hn =>
        obtain ⟨_, _, hgu, _, _⟩ := okNext_parts hn
        have hgn : r.o.guard = none := by
          cases hgd : r.o.guard with
          | none => rfl
          | some jb => simp [okGuard, hgd, hmk] at hgu
        rw [hgn] at hch
        simp only [chainOf, Option.some.injEq] at hch
        have hw : r.isWr = false := by
          unfold Rec.isMk at hmk
          unfold Rec.isWr
          split at hmk
          · rename_i hk; rw [hk]
          · cases hmk
        refine (hi.done r hr (hall r hr hmk) t hd hw).1 (by rw [← hch]; exact fun p hp => by simp at hp) v ?_
        have : r.x = .sl t := by
          unfold Rec.isMk at hmk
          unfold Rec.x
          split at hmk
          · rename_i hk; rw [hk]; simp [hd]
          · cases hmk
        rw [this]
        simpa only [ev] using hv
    · rcases h.seg.keep t hk with h1 | h1
      · exact absurd (by rw [h.mds]; exact h1) hm
      · exact hi.old t v (by rw [← h.ok.old t hm]; exact hv) (fun r hr _ => h1 r hr)

theorem stage_end (h : Full c is g s' news l) (hs : Stage c g s' D a w) (hall : ∀ r ∈ c.R, D r.i) : ∃ F σ, StRel c.K c.X c.base c.w0 c.F0 c.m c.σ0 c.n s' a w F σ := by
  rcases hs with ⟨hno, F, σ, hi⟩ | ⟨_, hst⟩
  · refine ⟨F, σ, ?_⟩
    have hnone : g.wr = none := by
      rcases h.seg.wr with ⟨_, hw⟩ | ⟨r, x, hr, hk, _, _⟩
      · exact hw
      · have := hno r hr (hall r hr)
        simp [Rec.isWr, hk] at this
    rcases h.ended.wr with ⟨_, he⟩ | ⟨d, wr, hw, _⟩ | ⟨d, wr, H, v, p, nx, hw, _⟩
    · have hall' : ∀ r ∈ c.R, r.isMk = true → D r.i := fun r hr _ => hall r hr
      subst he
      exact ⟨all_heap h hi hall', hi.glob, hi.le, hi.frame, hi.frz, hi.size, hi.dfr, fun t v hv => all_rho h hi hall' hno t v hv (fun r hr hn => absurd (hall r hr) hn), all_dom h, hi.stab, Nat.le_trans h.nxm h.nx, h.xm, hi.sub⟩
    · rw [hnone] at hw; cases hw
    · rw [hnone] at hw; cases hw
  · obtain ⟨F, σ, hw⟩ := hst
    exact ⟨F, σ, hw.heap, hw.glob, hw.le, hw.frame, hw.frz, hw.size, hw.dfr, fun t v hv => hw.rho t v hv (fun r hr hn => absurd (hall r hr) hn), hw.dom, hw.stab, hw.nxm, hw.xm, hw.sub⟩

theorem late_slot (h : Full c is g s' news l) {r : Rec} (hr : r ∈ c.R) (hl : lateR g.late r = true) {t : Nat} (hd : r.o.dst = some t) {u : V} (hu : look s'.rho t = some u) : ev c.K (clean (newMv c.s s') (lateH c.K c.s g (newMv c.s s') s'.heap) c.s1) r.x = some u := by
  obtain ⟨e, hk, hx, hel, hch0, hgn, hnp, hwr, hmk⟩ := late_parts hl
  obtain ⟨val, hv1, hv2, hvo⟩ := h.ended.late e hel _ _ h.ended.mks
  have same : ∀ r2 ∈ c.R, r2.o.dst = some t → r2 = r := by
    intro r2 hr2 hd2
    by_cases hri : r2.i = r.i
    · exact h.ok.good.inj r2 hr2 r hr hri
    · exact absurd hd (dst_ne h.ok hr2 hr hri hd2)
  have base : ∀ u, look (l ++ restrict c.s1.rho g.keep) t = some u → u = val := by
    intro u hu
    rw [look_append] at hu
    cases hl2 : look l t with
    | some u2 =>
      rw [hl2] at hu
      obtain rfl := Option.some.inj hu
      obtain ⟨e2, he2, hev⟩ := (evLets_get _ _ _ _ h.ended.lets).1 t u2 hl2
      obtain ⟨r2, hr2, hd2, hk2, _⟩ := h.seg.lets _ he2
      obtain rfl := same r2 hr2 hd2
      rw [hk] at hk2
      simp only [Kd.pure.injEq] at hk2
      subst hk2
      rw [hv2] at hev
      exact (Option.some.inj hev).symm
    | none =>
      rw [hl2] at hu
      obtain ⟨hkp, _⟩ := look_restrict _ _ _ _ hu
      rcases h.seg.keep t hkp with h1 | h1
      · obtain ⟨r2, hr2, hd2, hm2⟩ := h.ok.covers t (by rw [h.mds]; exact h1)
        obtain rfl := same r2 hr2 hd2
        rw [hmk] at hm2; cases hm2
      · exact absurd hd (h1 r hr)
  have fin : ∀ u, u = val → ev c.K (clean (newMv c.s s') (lateH c.K c.s g (newMv c.s s') s'.heap) c.s1) r.x = some u := fun u hu => by rw [hu, hx]; exact hv1
  have keepv : ∀ p : Lost, (∀ b ∈ p.ids, b ∈ newMv c.s s') → loseV p val = val := fun p hp => loseV_late hp hvo
  rcases h.ended.wr with ⟨_, he⟩ | ⟨d, wr, hw0, _, he⟩ | ⟨d, wr, H, v, p, nx, hw0, _, _, he⟩
  · subst he; exact fin u (base u hu)
  · subst he; exact fin u (base u hu)
  · subst he
    have old : look (lose p (l ++ restrict c.s1.rho g.keep)) t = some u → u = val := by
      intro hu
      obtain ⟨y, hy, rfl⟩ := look_lose _ _ _ _ hu
      obtain rfl := base y hy
      exact keepv p fun b hb => by simpa [newMv] using hb
    cases d with
    | none => exact fin u (old hu)
    | some d =>
      simp only [look] at hu
      split at hu
      · rename_i hdt
        subst hdt
        rcases h.seg.wr with ⟨_, hn⟩ | ⟨r0, x0, hR0, hk0, hg0, _⟩
        · rw [hn] at hw0; cases hw0
        · rw [hg0] at hw0
          simp only [Option.some.injEq, Prod.mk.injEq] at hw0
          have h0 : r0 ∈ c.R := hR0
          obtain rfl := same r0 h0 hw0.1
          rw [hk0] at hk; cases hk
      · exact fin u (old hu)

theorem held_late (h : Full c is g s' news l) (hw : Wrt c g s' D a w F σ) {r : Rec} {later done : List Rec} (hR : c.R = later ++ r :: done) (hg : Good c.B c.P c.ops c.mds c.ef c.n (r :: done)) (hD : ¬ D r.i) (hl : lateR g.late r = true) (hdown : ∀ q ∈ c.R, D q.i → ∀ p ∈ c.R, c.B p.i q.i = true → D p.i) (hpre : ∀ q ∈ c.R, c.B q.i r.i = true → D q.i)
    {x : Operand} (hx : (x, r.ch) ∈ needs c.P (envOf done) r.o r.ch) (hxo : x ∈ r.o.op.operands.toList) : Held c.P c.K (clean (newMv c.s s') (lateH c.K c.s g (newMv c.s s') s'.heap) c.s1) (envOf done) w F c.base σ a x := by
  have hmem : r ∈ c.R := by rw [hR]; simp
  have hlN := h.seg.lateN r hmem hl
  cases hg with
  | cons _ _ hgd hop hkd hch hn =>
    obtain ⟨hneeds, hdst, _, _, hall⟩ := okNext_parts hn
    have hdone : ∀ q ∈ done, q ∈ c.R := fun q hq => by rw [hR]; simp [hq]
    cases x with
    | const v => exact held_const
    | global g => exact held_glob hw.glob
    | func f => exact held_func
    | tmp t =>
      have hreads : t ∈ reads r.o := by
        simp only [reads, List.mem_filterMap]
        exact ⟨.tmp t, hxo, rfl⟩
      refine held_tmp fun v hv => ?_
      simp only [okNeeds, List.all_eq_true] at hneeds
      have hnt := hneeds (.tmp t, r.ch) hx
      simp only at hnt
      rcases look_env (done := done) (t := t) with ⟨q, hq, hqd, hfind, hlook⟩ | ⟨hno, hfind, hlook⟩
      · rw [hfind] at hnt
        simp only [Bool.and_eq_true] at hnt
        have hget : Env.get (envOf done) t = q.x := by simp [Env.get, hlook]
        rw [hget] at hv
        have hqD := hpre q (hdone q hq) hnt.1
        exact hw.ldone q (hdone q hq) hqD (hlN t hreads q (hdone q hq) hqd (hall q hq).1) t hqd v hv
      · have hget : Env.get (envOf done) t = .sl t := by simp [Env.get, hlook]
        rw [hget] at hv
        simp only [ev] at hv
        refine hw.lold t v hv fun q hq hqD hqd => ?_
        rw [hR] at hq
        rcases List.mem_append.1 hq with hq | hq
        · obtain ⟨l1, l2, rfl⟩ := List.append_of_mem hq
          have hg2 : Good c.B c.P c.ops c.mds c.ef c.n (q :: (l2 ++ r :: done)) := by
            have := h.ok.good
            rw [hR] at this
            simp only [List.append_assoc, List.cons_append] at this
            exact this.suffix
          have hqR : q ∈ c.R := by rw [hR]; simp
          cases hg2 with
          | cons _ _ _ _ _ _ hn2 =>
            have h2 := (okNext_parts hn2).2.1
            simp only [okDst, hqd, Bool.and_eq_true, List.all_eq_true] at h2
            have h3 := (h2.1.2 r (by simp)).2
            simp only [Bool.or_eq_true, Bool.not_eq_true', Bool.and_eq_true] at h3
            rcases h3 with h3 | h3
            · rw [List.contains_eq_mem, decide_eq_false_iff_not] at h3
              exact absurd hreads h3
            · exact hD (hdown q hqR hqD r hmem h3.1)
        · rcases List.mem_cons.1 hq with rfl | hq
          · exact hD hqD
          · exact hno q hq hqd

theorem stage_step (h : Full c is g s' news l) (hs : Stage c g s' D a w) {r : Rec} (hr : r ∈ c.R) (hD : ¬ D r.i) (hdown : ∀ q ∈ c.R, D q.i → ∀ p ∈ c.R, c.B p.i q.i = true → D p.i) (hpre : ∀ q ∈ c.R, c.B q.i r.i = true → D q.i)
    {Kn : Act → World → Prop} {Q : Exit → Act → World → Prop} (hK : ∀ a w, Stage c g s' (plus D r.i) a w → Kn a w) : wpOp c.P c.ops Q r.i Kn a w := by
  -- a write comes last
  have lastwr : ∀ q ∈ c.R, q.isWr = true → ∀ p ∈ c.R, p ≠ q → p.isWr = false ∧ (c.B p.i q.i = true ∨ lateR g.late p = true) := by
    intro q hq hqw p hp hne
    rcases h.seg.wr with ⟨hn, _⟩ | ⟨r0, x, hR, hk, _, _, hb⟩
    · rw [hn q hq] at hqw; cases hqw
    · have hq0 : q = r0 := by
        rcases hb q hq with e | ⟨e, _⟩
        · exact h.ok.good.inj q hq r0 hR e
        · rw [e] at hqw; cases hqw
      subst hq0
      rcases hb p hp with e | e
      · exact absurd (h.ok.good.inj p hp q hq e) hne
      · exact e
  rcases hs with ⟨hno, F, σ, hi⟩ | ⟨⟨q, hq, hqD, hqw⟩, F, σ, hw⟩
  · cases hw : r.isWr with
    | false =>
      refine step_op h.ok hi hno hr hw hD hdown hpre fun a w F σ hi' => hK a w (.inl ⟨fun q hq hqD => ?_, F, σ, hi'⟩)
      rcases hqD with hqD | hqi
      · exact hno q hq hqD
      · obtain rfl := h.ok.good.inj q hq r hr hqi
        exact hw
    | true =>
      have hall : ∀ q ∈ c.R, q.isMk = true → D q.i := by
        intro q hq hqm
        have hne : q ≠ r := by
          rintro rfl
          unfold Rec.isMk at hqm
          unfold Rec.isWr at hw
          split at hqm
          · rename_i hk; rw [hk] at hw; cases hw
          · cases hqm
        rcases (lastwr r hr hw q hq hne).2 with hb | hb
        · exact hpre q hq hb
        · rw [(late_parts hb).choose_spec.2.2.2.2.2.2.2] at hqm; cases hqm
      have hrest : ∀ q ∈ c.R, ¬ plus D r.i q.i → lateR g.late q = true := by
        intro q hq hqn
        have hne : q ≠ r := by rintro rfl; exact hqn (.inr rfl)
        rcases (lastwr r hr hw q hq hne).2 with hb | hb
        · exact absurd (.inl (hpre q hq hb)) hqn
        · exact hb
      have hnr : ∀ t, (∀ q ∈ c.R, ¬ plus D r.i q.i → q.o.dst ≠ some t) → ∀ q ∈ c.R, ¬ D q.i → q.isWr = false → q.o.dst ≠ some t := by
        intro t ht q hq hqD hqw
        refine ht q hq ?_
        rintro (h1 | h1)
        · exact hqD h1
        · obtain rfl := h.ok.good.inj q hq r hr h1
          rw [hw] at hqw; cases hqw
      have ldI : ∀ q ∈ c.R, plus D r.i q.i → lateR g.late q = true → ∀ d, q.o.dst = some d → r.o.dst ≠ some d ∧ ∀ v, ev c.K (clean (newMv c.s s') (lateH c.K c.s g (newMv c.s s') s'.heap) c.s1) q.x = some v → RepV w F c.base σ (a.tmps.getD d undef) v ∧ lateV (newMv c.s s') v := by
        intro q hq hqD hl d hd
        obtain ⟨e, hk, hx, hel, hch0, hgn, hnp, hwr, hmk⟩ := late_parts hl
        have hne : q.i ≠ r.i := fun he => by
          obtain rfl := h.ok.good.inj q hq r hr he
          rw [hw] at hwr; cases hwr
        refine ⟨dst_ne h.ok hq hr hne hd, fun v hv => ?_⟩
        obtain ⟨val, hv1, hv2, hvo⟩ := h.ended.late e hel _ _ h.ended.mks
        rw [hx, hv1] at hv
        obtain rfl := Option.some.inj hv
        exact ⟨(hi.done q hq (hqD.resolve_right hne) d hd hwr).1 (by rw [hch0]; exact fun p hp => by simp at hp) _ (by rw [hx]; exact hv2), hvo⟩
      have loI : ∀ t v, look (clean (newMv c.s s') (lateH c.K c.s g (newMv c.s s') s'.heap) c.s1).rho t = some v → (∀ q ∈ c.R, plus D r.i q.i → q.o.dst ≠ some t) → RepV w F c.base σ (a.tmps.getD t undef) v ∧ (lateV (newMv c.s s') v ∨ v = .junk) := by
        intro t v hv hno'
        obtain ⟨u, hu, hvu⟩ := cleanV_look hv
        rcases hvu with ⟨rfl, huo⟩ | rfl
        · refine ⟨hi.old t v ?_ (fun q hq hqD => hno' q hq (.inl hqD)), .inl huo⟩
          rw [← h.ok.old t fun hm => ?_]
          · exact hu
          · obtain ⟨q, hq, hqd, hqm⟩ := h.ok.covers t hm
            exact hno' q hq (.inl (hall q hq hqm)) hqd
        · exact ⟨.junk _, .inr rfl⟩
      have hput : ∀ (vv : Value) t, r.o.dst ≠ some t → (a.put r.o.dst vv).tmps.getD t undef = a.tmps.getD t undef := by
        intro vv t hne
        cases hd : r.o.dst with
        | none => rfl
        | some d => rw [getD_put (by rw [hi.size]; exact dst_lt h.ok hr hd), if_neg (fun e => hne (by rw [hd, e]))]
      have hheap := all_heap h hi hall
      have hrho := all_rho h hi hall hno
      have hdom := all_dom h
      obtain ⟨later, done, hR, hg⟩ := h.ok.good.split hr
      have hheld := fun x ch hx hxo hw => held_of h.ok hi hno (x := x) (ch := ch) hR hg hD hdown hpre hx hxo hw
      have hwant := wanted_iff h.ok hi hno hr hpre
      cases hg with
      | cons _ _ hgd hop hkd hch hn =>
        obtain ⟨_, hdst, hgu, _, _⟩ := okNext_parts hn
        unfold wpOp
        rw [hop]
        simp only
        obtain ⟨x, hk⟩ : ∃ x, r.kd = .wr x := by
          unfold Rec.isWr at hw
          split at hw
          · rename_i x hk; exact ⟨x, hk⟩
          · cases hw
        have hgw2 : g.wr = some (r.o.dst, x) ∧ g.wg = r.ch := by
          rcases h.seg.wr with ⟨hn, _⟩ | ⟨r0, x0, hR0, hk0, hg0, hg1, _⟩
          · rw [hn r hr] at hw; cases hw
          · have h0 : r0 ∈ c.R := hR0
            by_cases he : r0 = r
            · subst he
              rw [hk] at hk0
              simp only [Kd.wr.injEq] at hk0
              rw [hk0]
              exact ⟨hg0, hg1⟩
            · have := (lastwr r hr hw r0 h0 he).1
              simp [Rec.isWr, hk0] at this
        obtain ⟨hgw, hgc⟩ := hgw2
        rcases h.ended.wr with ⟨hn, _⟩ | ⟨d, wr, hw0, hwb, he⟩ | ⟨d, wr, H, v, p, nx, hw0, hwb, hev, he⟩
        · rw [hgw] at hn; cases hn
        · -- the write is not asked for
          rw [hgc] at hwb
          rw [if_neg (fun hh => wonB_false hwb (hwant.1 hh))]
          refine hK _ _ (.inr ⟨⟨r, hr, .inr rfl, hw⟩, F, σ, ?_⟩)
          subst he
          refine ⟨hrest, hheap, hi.glob, hi.le, hi.frame, hi.frz, by rw [size_put]; exact hi.size, by rw [defers_put]; exact hi.dfr, fun t u hu hnq => ?_, hdom, hi.stab, Nat.le_trans h.nxm h.nx, h.xm, hi.sub, fun q hq hqD hl d hd v hv => ?_, fun t v hv hno' => ?_⟩
          · have hne : r.o.dst ≠ some t := by
              intro hdt
              rw [look_append] at hu
              cases hl : look l t with
              | some u2 =>
                obtain ⟨e, he2, _⟩ := (evLets_get _ _ _ _ h.ended.lets).1 t u2 hl
                obtain ⟨r2, hr2, hd2, hk2, _⟩ := h.seg.lets _ he2
                have : r2 = r := by
                  by_cases hri : r2.i = r.i
                  · exact h.ok.good.inj r2 hr2 r hr hri
                  · exact absurd hdt (dst_ne h.ok hr2 hr hri hd2)
                rw [this, hk] at hk2
                cases hk2
              | none =>
                rw [hl] at hu
                obtain ⟨hkp, _⟩ := look_restrict _ _ _ _ hu
                rcases h.seg.keep t hkp with h1 | h1
                · obtain ⟨r2, hr2, hd2, hm2⟩ := h.ok.covers t (by rw [h.mds]; exact h1)
                  have : r2 = r := by
                    by_cases hri : r2.i = r.i
                    · exact h.ok.good.inj r2 hr2 r hr hri
                    · exact absurd hdt (dst_ne h.ok hr2 hr hri hd2)
                  rw [this] at hm2
                  simp [Rec.isMk, hk] at hm2
                · exact h1 r hr hdt
            rw [hput _ t hne]
            exact hrho t u hu (hnr t hnq)
          · obtain ⟨h1, h2⟩ := ldI q hq hqD hl d hd
            rw [hput _ d h1]
            exact (h2 v hv).1
          · rw [hput _ t (hno' r hr (.inr rfl))]
            exact (loI t v hv hno').1
        · rw [hgw] at hw0
          have hwon : Won c.K c.s1 r.ch := by rw [← hgc]; exact wonB_true hwb
          rw [if_pos (hwant.2 hwon)]
          refine .inl ?_
          simp only [Option.some.injEq, Prod.mk.injEq] at hw0
          obtain ⟨rfl, rfl⟩ := hw0
          have hops : ∀ y ∈ r.o.op.operands.toList, Held c.P c.K c.s1 (envOf done) w F c.base σ a y := by
            intro y hy
            refine hheld y r.ch ?_ hy hwon
            have hnp : ∀ cc x y, r.o.op ≠ .pick cc x y := by
              intro cc x y hp
              rw [hk] at hkd
              simp only [kdOf] at hkd
              split at hkd
              · cases hm : mkK c.P (envOf done) r.o <;> simp [hm] at hkd
              · split at hkd
                · simp [effK, hp] at hkd
                · split at hkd
                  · simp at hkd
                  · simp [wrK, storeK, appK, markK, mapK, hp] at hkd
            unfold needs
            split
            · rename_i hp; exact absurd hp (hnp _ _ _)
            · exact List.mem_map.2 ⟨y, hy, rfl⟩
          have hwk : (∃ f e, x = .calle f e ∧ effK c.P (envOf done) r.o = some (f, e)) ∨ wrK c.P (envOf done) r.o = some x := by
            rw [hk] at hkd
            simp only [kdOf] at hkd
            split at hkd
            · cases hm : mkK c.P (envOf done) r.o <;> simp [hm] at hkd
            · split at hkd
              · cases hm : effK c.P (envOf done) r.o with
                | none => simp [hm] at hkd
                | some y =>
                  obtain ⟨f, e⟩ := y
                  simp only [hm, Option.map_some, Option.some.injEq, Kd.wr.injEq] at hkd
                  exact .inl ⟨f, e, hkd.symm, rfl⟩
              · split at hkd
                · simp at hkd
                · cases hm : wrK c.P (envOf done) r.o with
                  | none => simp [hm] at hkd
                  | some y =>
                    simp only [hm, Option.map_some, Option.some.injEq, Kd.wr.injEq] at hkd
                    exact .inr (by rw [hkd])
          obtain ⟨hdom', hnx'⟩ := evWr_dom hev hdom
          have fin : ∀ vv w' F' σ', Wrote w w' F F' c.X c.base σ σ' p nx H → (r.o.dst.isSome → RepV w' F' c.base σ' vv v) → Kn (a.put r.o.dst vv) w' := by
            intro vv w' F' σ' hwr hres
            refine hK _ _ (.inr ⟨⟨r, hr, .inr rfl, hw⟩, F', σ', ?_⟩)
            subst he
            have hFw : ∀ b, F b → F' b ∧ w'.heap[b]? = w.heap[b]? := hwr.froz
            refine ⟨hrest, hwr.heap, hi.glob.mono hFw, Nat.le_trans hi.le hwr.frame.size, hi.frame.trans hwr.frame, fun b hb => (hwr.newf b hb).elim (hi.frz b) .inr, by rw [size_put]; exact hi.size, by rw [defers_put]; exact hi.dfr, ?_, ?_, fun b l hb h0 hm => ?_, Nat.le_trans h.nxm (Nat.le_trans h.nx hnx'), h.xm, fun b hb => (hwr.froz b (hi.sub b hb)).1, fun q hq hqD hl d hd v hv => ?_, fun t v hv hno' => ?_⟩
            · intro t u hu hnq
              have old : ∀ u, r.o.dst ≠ some t → look (lose p (l ++ restrict c.s1.rho g.keep)) t = some u → RepV w' F' c.base σ' ((a.put r.o.dst vv).tmps.getD t undef) u := by
                intro u hne hu
                obtain ⟨y, hy, rfl⟩ := look_lose _ _ _ _ hu
                have hget : (a.put r.o.dst vv).tmps.getD t undef = a.tmps.getD t undef := by
                  cases hd : r.o.dst with
                  | none => rfl
                  | some d => rw [getD_put (by rw [hi.size]; exact dst_lt h.ok hr hd), if_neg (fun e => hne (by rw [hd, e]))]
                rw [hget]
                exact hwr.val _ _ (hrho t y hy (hnr t hnq))
              cases hd : r.o.dst with
              | none =>
                simp only [hd] at hu
                rw [hd] at old
                exact old u (by simp) hu
              | some d =>
                simp only [hd, look] at hu
                split at hu
                · rename_i hdt
                  subst hdt
                  obtain rfl := Option.some.inj hu
                  rw [getD_put (by rw [hi.size]; exact dst_lt h.ok hr hd), if_pos rfl]
                  exact hres (by rw [hd]; rfl)
                · rename_i hdt
                  rw [hd] at old
                  exact old u (by simpa using hdt) hu
            · intro b blk hb
              obtain ⟨y, hy⟩ := look_loseH _ _ _ _ hb
              exact hdom' b y hy
            · simp only [List.mem_append, not_or] at hm
              exact hwr.stab b l (hi.stab b l hb h0 hm.2) hm.1
            · obtain ⟨h1, h2⟩ := ldI q hq hqD hl d hd
              obtain ⟨h3, h4⟩ := h2 v hv
              rw [hput _ d h1, ← loseV_late (p := p) (fun b hb => by simpa [newMv] using hb) h4]
              exact hwr.val _ _ h3
            · obtain ⟨h3, h4⟩ := loI t v hv hno'
              rw [hput _ t (hno' r hr (.inr rfl))]
              rcases h4 with h4 | rfl
              · rw [← loseV_late (p := p) (fun b hb => by simpa [newMv] using hb) h4]
                exact hwr.val _ _ h3
              · exact .junk _
          rcases hwk with ⟨f, e, rfl, hek⟩ | hwk
          · exact eff_step hek hev hops h.ok.sound hheap hi.glob hi.le hdom fun vv w' F' σ' hwr hv => fin vv w' F' σ' hwr fun _ => hv
          unfold wrK at hwk
          cases hsk : storeK c.P (envOf done) r.o with
          | some q =>
            obtain ⟨n, ea, ee⟩ := q
            simp only [hsk, Option.some.injEq] at hwk
            subst hwk
            obtain rfl : c.s1.nx = nx := by
              have hev' := hev
              simp only [evWr] at hev'
              split at hev'
              · split at hev'
                · split at hev'
                  · split at hev'
                    · simp only [Option.some.injEq, Prod.mk.injEq] at hev'
                      exact hev'.2.2.2
                    · cases hev'
                  · cases hev'
                · cases hev'
              · cases hev'
            refine store_step hsk hev hops hheap fun w' hwr => fin undef w' F σ hwr fun hs => ?_
            -- a store has no result
            have : r.o.dst = none := by
              unfold storeK at hsk
              split at hsk
              · split at hsk
                · split at hsk
                  · rename_i hd; exact hd
                  · cases hsk
                · cases hsk
              · cases hsk
            rw [this] at hs; cases hs
          | none =>
            simp only [hsk] at hwk
            cases hak : appK c.P (envOf done) r.o with
            | none =>
              simp only [hak] at hwk
              cases hmk : markK c.P (envOf done) r.o with
              | some em =>
                simp only [hmk, Option.some.injEq] at hwk
                subst hwk
                obtain rfl : c.s1.nx = nx := by
                  have hev' := hev
                  simp only [evWr] at hev'
                  split at hev'
                  · split at hev'
                    · split at hev'
                      · split at hev'
                        · simp only [Option.some.injEq, Prod.mk.injEq] at hev'
                          exact hev'.2.2.2
                        · cases hev'
                      · cases hev'
                    · cases hev'
                  · cases hev'
                exact mark_step hmk hev hops hheap fun vv w' hwr hv => fin vv w' F σ hwr fun _ => hv
              | none =>
              simp only [hmk] at hwk
              obtain ⟨hp0, hnx0, hd0⟩ := map_facts hwk hev
              subst hnx0
              exact map_step hwk hev hops hheap fun w' hwr => fin undef w' F σ hwr fun hs => by rw [hd0] at hs; cases hs
            | some q =>
              obtain ⟨k, ea, eb⟩ := q
              simp only [hak, Option.some.injEq] at hwk
              subst hwk
              exact app_step hak hev hops hheap hi.le hdom fun vv w' σ' hwr hv => fin vv w' F σ' hwr fun _ => hv
  · -- the write has been: what is left looks into nothing that was written
    have hl := hw.rest r hr hD
    obtain ⟨e, hk, hx, hel, hch0, hgn, hnp, hwr, hmk⟩ := late_parts hl
    obtain ⟨val, hv1, hv2, hvo⟩ := h.ended.late e hel _ _ h.ended.mks
    obtain ⟨later, done, hR, hg⟩ := h.ok.good.split hr
    have hheld := fun x hx hxo => held_late h hw (x := x) hR hg hD hl hdown hpre hx hxo
    cases hg with
    | cons _ _ hgd hop hkd hch hn =>
      unfold wpOp
      rw [hop]
      simp only
      have hwant : Region.wanted r.o (yielded c.ops a.tmps) = true := by unfold Region.wanted; rw [hgn]
      rw [if_pos hwant]
      refine .inl ?_
      have hpe : pureE c.P (envOf done) r.o = some e := by
        rw [hk] at hkd
        simp only [kdOf] at hkd
        split at hkd
        · cases hm : mkK c.P (envOf done) r.o <;> simp [hm] at hkd
        · split at hkd
          · cases hm : effK c.P (envOf done) r.o <;> simp [hm] at hkd
          · split at hkd
            · rename_i h1
              simp only [Option.some.injEq, Kd.pure.injEq] at hkd
              rw [← hkd]
              exact h1
            · cases hm : wrK c.P (envOf done) r.o <;> simp [hm] at hkd
      have hH : HeapRel w F c.X c.base σ s'.nx (clean (newMv c.s s') (lateH c.K c.s g (newMv c.s s') s'.heap) c.s1).heap := ⟨fun b blk hb => by
        obtain ⟨blk0, q1, q2⟩ := lateH_look h.ended h.nx h.ok.dom hb
        rcases q2 with rfl | ⟨x, q2⟩
        · exact hw.heap.blk b _ q1
        · exact (hw.heap.blk b blk0 q1).common q2, hw.heap.inj, hw.heap.own, hw.heap.fro⟩
      refine pure_step (s := clean (newMv c.s s') (lateH c.K c.s g (newMv c.s s') s'.heap) c.s1) hnp hpe hv1 (fun x hx => hheld x ?_ hx) hH hw.glob hw.le h.ok.sound fun v w' F' haf hRv => ?_
      · unfold needs
        split
        · rename_i hp; exact absurd hp (hnp _ _ _)
        · exact List.mem_map.2 ⟨x, hx, rfl⟩
      · have hFw : ∀ b, F b → F' b ∧ w'.heap[b]? = w.heap[b]? := fun b hb => ⟨haf.sub b hb, haf.below.block b (hw.heap.fro b hb)⟩
        have hval : ∀ v x, RepV w F c.base σ v x → RepV w' F' c.base σ v x := fun v x hx => hx.mono hFw (fun _ _ h => h)
        have hput : ∀ t, r.o.dst ≠ some t → (a.put r.o.dst v).tmps.getD t undef = a.tmps.getD t undef := by
          intro t hne
          cases hd : r.o.dst with
          | none => rfl
          | some d => rw [getD_put (by rw [hw.size]; exact dst_lt h.ok hr hd), if_neg (fun e => hne (by rw [hd, e]))]
        have hhas : ∀ t, r.o.dst = some t → (a.put r.o.dst v).tmps.getD t undef = v := by
          intro t hd
          rw [hd, getD_put (by rw [hw.size]; exact dst_lt h.ok hr hd), if_pos rfl]
        refine hK _ _ (.inr ⟨⟨q, hq, .inl hqD, hqw⟩, F', σ, ⟨fun p hp hn => hw.rest p hp (fun hd => hn (.inl hd)), hw.heap.after haf, hw.glob.mono hFw, Nat.le_trans hw.le haf.below.size, hw.frame.trans (.of_after haf hw.le), fun b hb => ?_, by rw [size_put]; exact hw.size, by rw [defers_put]; exact hw.dfr, fun t u hu hnq => ?_, hw.dom, hw.stab, hw.nxm, hw.xm, fun b hb => (hFw b (hw.sub b hb)).1, fun p hp hpD hlp d hd u hu => ?_, fun t u hu hno' => ?_⟩⟩)
        · rcases haf.old b hb with hb | hb
          · exact hw.frz b hb
          · exact .inr (Nat.le_trans hw.le hb)
        · by_cases hd : r.o.dst = some t
          · rw [hhas t hd]
            have := late_slot h hr hl hd hu
            rw [hx, hv1] at this
            obtain rfl := Option.some.inj this
            exact hRv
          · rw [hput t hd]
            refine hval _ _ (hw.rho t u hu fun p hp hpD => ?_)
            by_cases hpr : p.i = r.i
            · obtain rfl := h.ok.good.inj p hp r hr hpr
              exact hd
            · exact hnq p hp (fun h2 => h2.elim hpD hpr)
        · by_cases hpr : p.i = r.i
          · obtain rfl := h.ok.good.inj p hp r hr hpr
            rw [hhas d hd]
            rw [hx, hv1] at hu
            obtain rfl := Option.some.inj hu
            exact hRv
          · rw [hput d (dst_ne h.ok hp hr hpr hd)]
            exact hval _ _ (hw.ldone p hp (hpD.resolve_right hpr) hlp d hd u hu)
        · rw [hput t (hno' r hr (.inr rfl))]
          exact hval _ _ (hw.lold t u hu fun p hp hpD => hno' p hp (.inl hpD))

end Go.Vm
end

section
namespace Go.Vm
open Go.RowKit

def textOk (P : Program) (ops : Array Oper) (n : Nat) : Nat → List Seg → Bool
  | k, [] => k == ops.size
  | k, g :: r => segOk (fun i j => decide (i < j)) P ops n (List.range' k g.cnt) g && textOk P ops n (k + g.cnt) r

def edgesOf (o : Oper) : List Nat := (o.after.toList.filter (Region.binds .any)).map (·.on)
def tabB (tab : List (List Nat)) (i j : Nat) : Bool := (tab.getD j []).contains i
def tabOk (ops : List Oper) (tab : List (List Nat)) : Bool :=
  (ops.zipIdx).all fun (o, i) => (edgesOf o).all (fun j => decide (j < i)) && (tab.getD i []).all fun j => (edgesOf o).any fun e => e == j || (tab.getD e []).contains j
def drawnOks (P : Program) (ops : Array Oper) (n : Nat) (tab : List (List Nat)) : Nat → List Seg → Bool
  | k, [] => k == ops.size
  | k, g :: r => segOk (tabB tab) P ops n (List.range' k g.cnt) g && ((List.range' k (ops.size - k)).all fun i => (List.range k).all fun j => tabB tab j i) && drawnOks P ops n tab (k + g.cnt) r
def tabOf : List Seg → List (List Nat)
  | g :: _ => g.aux
  | [] => []
def drawnOk (P : Program) (ops : Array Oper) (n : Nat) (gs : List Seg) : Bool := drawnOks P ops n (tabOf gs) 0 gs && tabOk ops.toList (tabOf gs)

theorem recs_mem {B : Nat → Nat → Bool} {P : Program} {ops : Array Oper} {n : Nat} {is : List Nat} {g : Seg} {R : List Rec} (h : SegOk B P ops n is g R) (i : Nat) : (∃ r ∈ R, r.i = i) ↔ i ∈ is := by
  have := (recs_good is [] R .nil h.recs).2
  simp only [List.map_nil, List.append_nil] at this
  constructor
  · rintro ⟨r, hr, rfl⟩
    have : r.i ∈ R.map (·.i) := List.mem_map.2 ⟨r, hr, rfl⟩
    rw [‹R.map (·.i) = _›] at this
    simpa using this
  · intro hi
    have : i ∈ R.map (·.i) := by rw [this]; simpa using hi
    obtain ⟨r, hr, he⟩ := List.mem_map.1 this
    exact ⟨r, hr, he⟩

variable {P : Program} {K : Cx} {ops : Array Oper} {n : Nat} {X : Nat → Nat → Prop} {base : Nat} {w0 : World} {F0 : Nat → Prop} {m0 : Nat} {σ0 : Nat → Option Loc} {Q : Exit → Act → World → Prop}

theorem stage_start {B : Nat → Nat → Bool} {g : Seg} {R : List Rec} {s s' s1 : S} {news : List Blk} {T : Tr} {a : Act} {w : World} {F : Nat → Prop} {σ : Nat → Option Loc}
    (hT : Traced K s s1 news g.mks T) (hst : StRel K X base w0 F0 m0 σ0 n s a w F σ) :
    Stage (pieceOf P K ops B n R g s s1 T X base w0 F0 m0 σ0) g s' (fun _ => False) a w := by
  refine .inl ⟨fun _ _ h => h.elim, F, σ, ⟨⟨hst.heap.blk, hst.heap.inj, fun b l hb => ?_, hst.heap.fro⟩, hst.glob, hst.le, hst.frame, hst.frz, hst.size, hst.dfr, fun t v hv _ => hst.rho t v hv, fun _ _ h => h.elim, fun _ _ _ _ _ _ h => by obtain ⟨_, _, h, _⟩ := h; exact h.elim, fun d m v n0 nw hm _ b h1 h2 => ?_, hst.stab, hst.sub⟩⟩
  · obtain ⟨h1, h2⟩ := hst.heap.own b l hb
    have := hT.nx
    exact ⟨show b < s1.nx by omega, h2⟩
  · have h0 := (hT.evm d m v n0 nw hm).2.1
    cases hb : σ b with
    | none => rfl
    | some l =>
      have := (hst.heap.own b l hb).1
      omega

theorem full_of {B : Nat → Nat → Bool} {is : List Nat} {g : Seg} {s s' : S} (hok : segOk B P ops n is g = true) (hK : K.Sound P) (hev : evSeg K s g = some s') (hdom : ∀ b blk, look s.heap b = some blk → b < s.nx) (hnm : m0 ≤ s.nx) (hxm : ∀ b k, X b k → b < m0) :
    ∃ R s1 T news l, Full (pieceOf P K ops B n R g s s1 T X base w0 F0 m0 σ0) is g s' news l := by
  obtain ⟨R, hs⟩ := segOk_parts hok
  obtain ⟨s1, news, l, he⟩ := evSeg_parts hev
  obtain ⟨T, hT⟩ := traced K g.mks s s1 news hs.mks he.mks
  exact ⟨R, s1, T, news, l, ⟨piece_ok hs he hT hK hdom, hs, he, hT, rfl, rfl, hnm, hxm⟩⟩

theorem chunk {ops : Array Oper} {g : Seg} {c : Piece} {k : Nat} {s' : S} {news : List Blk} {l : List (Nat × V)} (hc : Full c (List.range' k g.cnt) g s' news l) (hB : c.B = fun i j => decide (i < j)) {ys : List Nat}
    (hop : ∀ D a w i Kn, Stage c g s' D a w → wpOp c.P c.ops Q i Kn a w → wpOp c.P ops Q i Kn a w)
    (hys : ∀ a w F σ, StRel c.K c.X c.base c.w0 c.F0 c.m c.σ0 c.n s' a w F σ → wpOps c.P ops Q ys a w) : ∀ (m j : Nat) (a : Act) (w : World), j + m = g.cnt → Stage c g s' (fun i => k ≤ i ∧ i < k + j) a w → wpOps c.P ops Q (List.range' (k + j) m ++ ys) a w
  | 0, j, a, w, hj, hs => by
    obtain ⟨F, σ, hst⟩ := stage_end hc hs (fun r hr => by
      have := (recs_mem hc.seg r.i).1 ⟨r, hr, rfl⟩
      rw [List.mem_range'_1] at this
      constructor
      · exact this.1
      · have := this.2; omega)
    simpa using hys a w F σ hst
  | m + 1, j, a, w, hj, hs => by
    rw [List.range'_succ, List.cons_append, wpOps_cons]
    obtain ⟨r, hr, hri⟩ := (recs_mem hc.seg (k + j)).2 (by rw [List.mem_range'_1]; omega)
    have hmem : ∀ q ∈ c.R, k ≤ q.i ∧ q.i < k + g.cnt := fun q hq => by
      have := (recs_mem hc.seg q.i).1 ⟨q, hq, rfl⟩
      rwa [List.mem_range'_1] at this
    have := stage_step (Q := Q) (Kn := wpOps c.P ops Q (List.range' (k + j + 1) m ++ ys)) hc hs hr (by rw [hri]; omega) (fun q hq hqD p hp hpq => by
        rw [hB] at hpq
        simp only [decide_eq_true_eq] at hpq
        have := hmem p hp
        omega) (fun q hq hqr => by
        rw [hB] at hqr
        simp only [decide_eq_true_eq] at hqr
        have := hmem q hq
        omega) (fun a' w' hs' => by
        refine chunk hc hB hop hys m (j + 1) a' w' (by omega) ?_
        have : (fun i => k ≤ i ∧ i < k + (j + 1)) = plus (fun i => k ≤ i ∧ i < k + j) r.i := by
          funext i
          simp only [plus, hri, eq_iff_iff]
          omega
        rw [this]
        exact hs')
    rw [hri] at this
    exact hop _ a w _ _ hs this

theorem text_ops (hK : K.Sound P) : ∀ (gs : List Seg) (k : Nat) (s s' : S) (a : Act) (w : World) (F : Nat → Prop) (σ : Nat → Option Loc), textOk P ops n k gs = true → k ≤ ops.size → evSegs K s gs = some s' → StRel K X base w0 F0 m0 σ0 n s a w F σ →
    (∀ a w F σ, StRel K X base w0 F0 m0 σ0 n s' a w F σ → Q .normal a w) → wpOps P ops Q (List.range' k (ops.size - k)) a w
  | [], k, s, s', a, w, F, σ, hok, hk, hev, hst, hQ => by
    simp only [textOk, beq_iff_eq] at hok
    subst hok
    obtain rfl := Option.some.inj hev
    simp only [Nat.sub_self, List.range'_zero, wpOps]
    exact hQ _ _ _ _ hst
  | g :: gs, k, s, s', a, w, F, σ, hok, hk, hev, hst, hQ => by
    simp only [textOk, Bool.and_eq_true] at hok
    simp only [evSegs] at hev
    cases hg : evSeg K s g with
    | none => simp [hg] at hev
    | some s2 =>
      simp only [hg] at hev
      obtain ⟨R, s1, T, news, l, hf⟩ := full_of (X := X) (base := base) (w0 := w0) (F0 := F0) (m0 := m0) (σ0 := σ0) hok.1 hK hg hst.dom hst.nxm hst.xm
      have hle : ∀ (gs : List Seg) (k : Nat), textOk P ops n k gs = true → k ≤ ops.size := by
        intro gs
        induction gs with
        | nil => intro k h; simp only [textOk, beq_iff_eq] at h; omega
        | cons g gs ih =>
          intro k h
          simp only [textOk, Bool.and_eq_true] at h
          have := ih _ h.2
          omega
      have hk2 := hle gs _ hok.2
      have hsplit : List.range' k (ops.size - k) = List.range' (k + 0) g.cnt ++ List.range' (k + g.cnt) (ops.size - (k + g.cnt)) := by
        have : ops.size - k = g.cnt + (ops.size - (k + g.cnt)) := by omega
        rw [this, ← List.range'_append_1]
        simp
      rw [hsplit]
      refine chunk hf rfl (fun _ _ _ _ _ _ h => h) (fun a w F σ hst2 => text_ops hK gs (k + g.cnt) s2 s' a w F σ hok.2 hk2 hev hst2 hQ) g.cnt 0 a w (by omega) ?_
      have : (fun i => k ≤ i ∧ i < k + 0) = fun _ => False := by
        funext i
        simp only [eq_iff_iff, iff_false]
        omega
      rw [this]
      exact stage_start hf.traced hst

theorem text_region {id : Nat} {gs : List Seg} {s s' : S} {a : Act} {w : World} {F : Nat → Prop} {σ : Nat → Option Loc} (hK : K.Sound P) (hok : textOk P ops n 0 gs = true) (hev : evSegs K s gs = some s') (hst : StRel K X base w0 F0 m0 σ0 n s a w F σ)
    (hQ : ∀ a w F σ, StRel K X base w0 F0 m0 σ0 n s' a w F σ → Q .normal a w) : (Code.region id ops false).wp P Q a w := by
  refine wp_region ?_
  have := text_ops (Q := Q) hK gs 0 s s' a w F σ hok (Nat.zero_le _) hev hst hQ
  rw [List.range_eq_range']
  simpa using this

theorem StRel.drawn {s : S} {a : Act} {w : World} {F : Nat → Prop} {σ : Nat → Option Loc} (h : StRel K X base w0 F0 m0 σ0 n s a w F σ) (m : Nat) : StRel K X base w0 F0 m0 σ0 n s a { w with drawn := m } F σ := by
  have hF : ∀ b, F b → F b ∧ ({ w with drawn := m } : World).heap[b]? = w.heap[b]? := fun b hb => ⟨hb, rfl⟩
  exact ⟨⟨fun b blk hb => (h.heap.blk b blk hb).mono hF (fun _ _ h => h) (fun h => h) (fun _ _ => rfl), h.heap.inj, h.heap.own, h.heap.fro⟩, h.glob.mono hF, h.le, ⟨h.frame.os, h.frame.tape, h.frame.output, h.frame.size, h.frame.block⟩, h.frz, h.size, h.dfr, fun t v hv => (h.rho t v hv).mono hF (fun _ _ h => h), h.dom, h.stab, h.nxm, h.xm, h.sub⟩

theorem mem_ready {listed : Array Bool} {i : Nat} : i ∈ Region.ready .any ops listed ↔ i < ops.size ∧ listed.getD i true = false ∧ ∃ o, ops[i]? = some o ∧ ∀ j ∈ edgesOf o, listed.getD j false = true := by
  unfold Region.ready
  simp only [List.mem_filter, List.mem_range, Bool.and_eq_true, Bool.not_eq_true']
  constructor
  · rintro ⟨h1, h2, h3⟩
    refine ⟨h1, h2, ops[i], by simp [h1], fun j hj => ?_⟩
    simp only [edgesOf, List.mem_map, List.mem_filter] at hj
    obtain ⟨e, ⟨he, hb⟩, rfl⟩ := hj
    simp only [h1, getElem?_pos, Option.map_some, Option.getD_some] at h3
    rw [Array.all_eq_true'] at h3
    have := h3 e (by simpa using he)
    simpa [hb] using this
  · rintro ⟨h1, h2, o, ho, h3⟩
    refine ⟨h1, h2, ?_⟩
    rw [ho]
    simp only [Option.map_some, Option.getD_some]
    rw [Array.all_eq_true']
    intro e he
    cases hb : Region.binds .any e with
    | false => simp
    | true =>
      simp only [Bool.not_true, Bool.false_or]
      exact h3 e.on (by simp only [edgesOf, List.mem_map, List.mem_filter]; exact ⟨e, ⟨by simpa using he, hb⟩, rfl⟩)

structure Tab (ops : Array Oper) (tab : List (List Nat)) : Prop where
  lt : ∀ i o, ops[i]? = some o → ∀ j ∈ edgesOf o, j < i
  clo : ∀ i o, ops[i]? = some o → ∀ j ∈ tab.getD i [], ∃ e ∈ edgesOf o, e = j ∨ j ∈ tab.getD e []

theorem tab_of {tab : List (List Nat)} (h : tabOk ops.toList tab = true) : Tab ops tab := by
  simp only [tabOk, List.all_eq_true, Bool.and_eq_true, decide_eq_true_eq, List.any_eq_true, Bool.or_eq_true, beq_iff_eq, List.contains_eq_mem] at h
  have get : ∀ i o, ops[i]? = some o → (o, i) ∈ ops.toList.zipIdx := fun i o ho => by
    rw [List.mem_iff_getElem?]
    refine ⟨i, ?_⟩
    rw [List.getElem?_zipIdx]
    simp [ho]
  exact ⟨fun i o ho j hj => (h (o, i) (get i o ho)).1 j hj, fun i o ho j hj => (h (o, i) (get i o ho)).2 j hj⟩

def unlisted (listed : Array Bool) (m : Nat) : Nat := ((List.range m).filter fun i => !listed.getD i true).length

theorem getD_set (listed : Array Bool) (i j : Nat) (hi : i < listed.size) (d : Bool) : (listed.setIfInBounds i true).getD j d = if j = i then true else listed.getD j d := by
  simp only [Array.getD_eq_getD_getElem?]
  by_cases h : j = i
  · subst h; simp [hi]
  · rw [if_neg h, Array.getElem?_setIfInBounds_ne (fun e => h e.symm)]

theorem dd_eq (listed : Array Bool) (i : Nat) (h1 : listed.size = ops.size) (h2 : i < ops.size) : listed.getD i true = listed.getD i false := by
  simp only [Array.getD_eq_getD_getElem?]
  have : i < listed.size := by omega
  simp [this]

theorem noready {tab : List (List Nat)} (ht : Tab ops tab) (listed : Array Bool) (hsz : listed.size = ops.size) (hr : Region.ready .any ops listed = []) : ∀ i, i < ops.size → listed.getD i false = true := by
  intro i
  induction i using Nat.strongRecOn with
  | _ i ih =>
    intro hi
    cases hl : listed.getD i false with
    | true => rfl
    | false =>
      have hm : i ∈ Region.ready .any ops listed := mem_ready.2 ⟨hi, by rw [dd_eq listed i hsz hi]; exact hl, ops[i], by simp [hi], fun j hj => by
        have := ht.lt i ops[i] (by simp [hi]) j hj
        exact ih j this (by omega)⟩
      rw [hr] at hm
      simp at hm

theorem Stage.congr {c : Piece} {g : Seg} {s' : S} {D D' : Nat → Prop} {a : Act} {w : World} (h : ∀ r ∈ c.R, D r.i ↔ D' r.i) (hs : Stage c g s' D a w) : Stage c g s' D' a w := by
  rcases hs with ⟨hno, F, σ, hi⟩ | ⟨⟨r, hr, hD, hw⟩, hst⟩
  · refine .inl ⟨fun r hr hD => hno r hr ((h r hr).2 hD), F, σ, ⟨hi.heap, hi.glob, hi.le, hi.frame, hi.frz, hi.size, hi.dfr, fun t v hv hn => hi.old t v hv (fun r hr hD => hn r hr ((h r hr).1 hD)), fun r hr hD => hi.done r hr ((h r hr).2 hD), ?_, ?_, hi.stab, hi.sub⟩⟩
    · rintro d m v n0 nw hT ⟨r, hr, hD, hd⟩
      exact hi.made d m v n0 nw hT ⟨r, hr, (h r hr).2 hD, hd⟩
    · intro d m v n0 nw hT hn
      exact hi.unmade d m v n0 nw hT (fun r hr hD => hn r hr ((h r hr).1 hD))
  · obtain ⟨F, σ, hi⟩ := hst
    exact .inr ⟨⟨r, hr, (h r hr).1 hD, hw⟩, F, σ, ⟨fun r hr hD => hi.rest r hr (fun hD' => hD ((h r hr).1 hD')), hi.heap, hi.glob, hi.le, hi.frame, hi.frz, hi.size, hi.dfr, fun t v hv hn => hi.rho t v hv (fun r hr hD => hn r hr (fun hD' => hD ((h r hr).2 hD'))), hi.dom, hi.stab, hi.nxm, hi.xm, hi.sub, fun q hq hD => hi.ldone q hq ((h q hq).2 hD), fun t v hv hn => hi.lold t v hv (fun r hr hD => hn r hr ((h r hr).1 hD))⟩⟩

theorem any_chunk0 {tab : List (List Nat)} (ht : Tab ops tab) {k cnt : Nat} (St : (Nat → Prop) → Act → World → Prop)
    (hstep : ∀ (D : Nat → Prop) (a : Act) (w : World) (i : Nat) (Kn : Act → World → Prop), k ≤ i → i < k + cnt → ¬ D i → (∀ q, k ≤ q → q < k + cnt → D q → ∀ p, tabB tab p q = true → D p) → (∀ q, tabB tab q i = true → D q) → St D a w → (∀ a' w', St (plus D i) a' w' → Kn a' w') → wpOp P ops Q i Kn a w)
    (hbar : ∀ i, k + cnt ≤ i → i < ops.size → ∀ j, j < k + cnt → tabB tab j i = true) (hkc : k + cnt ≤ ops.size)
    (hrest : ∀ (fuel : Nat) (listed : Array Bool) (a : Act) (w : World), listed.size = ops.size → unlisted listed ops.size ≤ fuel → (∀ i, i < k + cnt → listed.getD i false = true) → (∀ i, k + cnt ≤ i → listed.getD i false = false) →
      (∃ D, (∀ i, k ≤ i → i < k + cnt → D i) ∧ St D a w) → wpAny P .any ops Q fuel listed a w) :
    ∀ (fuel : Nat) (listed : Array Bool) (a : Act) (w : World), listed.size = ops.size → unlisted listed ops.size ≤ fuel → (∀ i, i < k → listed.getD i false = true) → (∀ i, k + cnt ≤ i → listed.getD i false = false) →
      (∀ i, i < ops.size → listed.getD i false = true → ∀ j, tabB tab j i = true → listed.getD j false = true) → St (fun i => listed.getD i false = true) a w → wpAny P .any ops Q fuel listed a w := by
  intro fuel
  induction fuel with
  | zero =>
    intro listed a w hsz hfuel hlo hhi hdown hs
    have hall : ∀ i, i < ops.size → listed.getD i false = true := by
      intro i hi
      cases hl : listed.getD i false with
      | true => rfl
      | false =>
        have hm : i ∈ (List.range ops.size).filter fun i => !listed.getD i true := by
          simp only [List.mem_filter, List.mem_range, Bool.not_eq_true']
          exact ⟨hi, by rw [dd_eq listed i hsz hi]; exact hl⟩
        have : 0 < unlisted listed ops.size := List.length_pos_of_mem hm
        omega
    exact hrest 0 listed a w hsz hfuel (fun i hi => hall i (by omega)) hhi ⟨_, fun i h1 h2 => hall i (by omega), hs⟩
  | succ fuel ih =>
    intro listed a w hsz hfuel hlo hhi hdown hs
    by_cases hall : ∀ i, i < k + cnt → listed.getD i false = true
    · exact hrest (fuel + 1) listed a w hsz hfuel hall hhi ⟨_, fun i _ h => hall i h, hs⟩
    · refine ⟨fun hr => absurd (fun i hi => noready ht listed hsz hr i (by omega)) hall, fun i hi => ?_⟩
      obtain ⟨h1, h2, o, ho, h3⟩ := mem_ready.1 hi
      rw [dd_eq listed i hsz h1] at h2
      have hpre : ∀ j, tabB tab j i = true → listed.getD j false = true := by
        intro j hj
        simp only [tabB, List.contains_eq_mem, decide_eq_true_eq] at hj
        obtain ⟨e, he, h4⟩ := ht.clo i o ho j hj
        rcases h4 with rfl | h4
        · exact h3 _ he
        · exact hdown e (by have := ht.lt i o ho e he; omega) (h3 e he) j (by simpa [tabB] using h4)
      have hki : k ≤ i := by
        rcases Nat.lt_or_ge i k with h | h
        · rw [hlo i h] at h2; cases h2
        · exact h
      have hik : i < k + cnt := by
        rcases Nat.lt_or_ge i (k + cnt) with h | h
        · exact h
        · exact absurd (fun j hj => hpre j (hbar i h h1 j hj)) hall
      have hlt : i < listed.size := by omega
      exact hstep _ a w i (wpAny P .any ops Q fuel (listed.setIfInBounds i true)) hki hik (by simp only [h2]; simp) (fun q hq1 hq2 hqD p hpq => hdown q (by omega) hqD p hpq) hpre hs (fun a' w' hs' => by
          refine ih _ a' w' (by simpa using hsz) ?_ (fun x hx => ?_) (fun x hx => ?_) ?_ ?_
          · have : unlisted (listed.setIfInBounds i true) ops.size < unlisted listed ops.size := by
              unfold unlisted
              have hsub : ((List.range ops.size).filter fun x => !(listed.setIfInBounds i true).getD x true) = ((List.range ops.size).filter fun x => !listed.getD x true).filter fun x => decide (x ≠ i) := by
                rw [List.filter_filter]
                refine List.filter_congr fun x _ => ?_
                rw [getD_set listed i x hlt]
                by_cases hx : x = i
                · simp [hx]
                · simp [hx]
              rw [hsub]
              have hm : i ∈ (List.range ops.size).filter fun i => !listed.getD i true := by
                simp only [List.mem_filter, List.mem_range, Bool.not_eq_true']
                exact ⟨h1, by rw [dd_eq listed i hsz h1]; exact h2⟩
              exact List.length_filter_lt_length_iff_exists.2 ⟨i, hm, by simp⟩
            omega
          · rw [getD_set listed i x hlt]
            split
            · rfl
            · exact hlo x hx
          · rw [getD_set listed i x hlt, if_neg (by omega)]
            exact hhi x hx
          · intro x hx hxl j hj
            rw [getD_set listed i x hlt] at hxl
            rw [getD_set listed i j hlt]
            split
            · rfl
            · split at hxl
              · rename_i hxr
                subst hxr
                exact hpre j hj
              · exact hdown x hx hxl j hj
          · have : (fun x => (listed.setIfInBounds i true).getD x false = true) = plus (fun x => listed.getD x false = true) i := by
              funext x
              rw [getD_set listed i x hlt]
              simp only [plus, eq_iff_iff]
              by_cases hx : x = i <;> simp [hx]
            rw [this]
            exact hs')

theorem any_chunk {tab : List (List Nat)} (ht : Tab ops tab) {g : Seg} {c : Piece} {k : Nat} {s' : S} {news : List Blk} {l : List (Nat × V)} (hc : Full c (List.range' k g.cnt) g s' news l) (hop : ∀ D a w i Kn, Stage c g s' D a w → wpOp c.P c.ops Q i Kn a w → wpOp c.P ops Q i Kn a w) (hB : c.B = tabB tab)
    (hbar : ∀ i, k + g.cnt ≤ i → i < ops.size → ∀ j, j < k + g.cnt → tabB tab j i = true) (hkc : k + g.cnt ≤ ops.size)
    (hrest : ∀ (fuel : Nat) (listed : Array Bool) (a : Act) (w : World) (F : Nat → Prop) (σ : Nat → Option Loc), listed.size = ops.size → unlisted listed ops.size ≤ fuel → (∀ i, i < k + g.cnt → listed.getD i false = true) → (∀ i, k + g.cnt ≤ i → listed.getD i false = false) →
      StRel c.K c.X c.base c.w0 c.F0 c.m c.σ0 c.n s' a w F σ → wpAny c.P .any ops Q fuel listed a w)
    (fuel : Nat) (listed : Array Bool) (a : Act) (w : World) (h1 : listed.size = ops.size) (h2 : unlisted listed ops.size ≤ fuel) (h3 : ∀ i, i < k → listed.getD i false = true) (h4 : ∀ i, k + g.cnt ≤ i → listed.getD i false = false)
    (h5 : ∀ i, i < ops.size → listed.getD i false = true → ∀ j, tabB tab j i = true → listed.getD j false = true) (h6 : Stage c g s' (fun i => listed.getD i false = true) a w) : wpAny c.P .any ops Q fuel listed a w := by
  have hmem : ∀ q ∈ c.R, k ≤ q.i ∧ q.i < k + g.cnt := fun q hq => by
    have := (recs_mem hc.seg q.i).1 ⟨q, hq, rfl⟩
    rwa [List.mem_range'_1] at this
  refine any_chunk0 (cnt := g.cnt) ht (Stage c g s') (fun D a w i Kn hi1 hi2 hD hdown hpre hs hK => ?_) hbar hkc (fun fuel listed a w q1 q2 q3 q4 ⟨D, hall, hs⟩ => ?_) fuel listed a w h1 h2 h3 h4 h5 h6
  · obtain ⟨r, hr, hri⟩ := (recs_mem hc.seg i).2 (by rw [List.mem_range'_1]; omega)
    subst hri
    exact hop D a w r.i Kn hs (stage_step hc hs hr hD (fun q hq hqD p hp hpq => by
      rw [hB] at hpq
      exact hdown q.i (hmem q hq).1 (hmem q hq).2 hqD p.i hpq) (fun q hq hqr => by
      rw [hB] at hqr
      exact hpre q.i hqr) hK)
  · obtain ⟨F, σ, hst⟩ := stage_end hc hs (fun r hr => hall r.i (hmem r hr).1 (hmem r hr).2)
    exact hrest fuel listed a w F σ q1 q2 q3 q4 hst

theorem any_ops (hK : K.Sound P) {tab : List (List Nat)} (ht : Tab ops tab) : ∀ (gs : List Seg) (k : Nat) (s s' : S), drawnOks P ops n tab k gs = true → evSegs K s gs = some s' → (∀ a w F σ, StRel K X base w0 F0 m0 σ0 n s' a w F σ → Q .normal a w) →
    ∀ (fuel : Nat) (listed : Array Bool) (a : Act) (w : World) (F : Nat → Prop) (σ : Nat → Option Loc), listed.size = ops.size → unlisted listed ops.size ≤ fuel → (∀ i, i < k → listed.getD i false = true) → (∀ i, k ≤ i → listed.getD i false = false) → StRel K X base w0 F0 m0 σ0 n s a w F σ → wpAny P .any ops Q fuel listed a w
  | [], k, s, s', hok, hev, hQ, fuel, listed, a, w, F, σ, hsz, hfuel, hlo, hhi, hst => by
    simp only [drawnOks, beq_iff_eq] at hok
    subst hok
    obtain rfl := Option.some.inj hev
    have hr : Region.ready .any ops listed = [] := by
      cases hr : Region.ready .any ops listed with
      | nil => rfl
      | cons i t =>
        have : i ∈ Region.ready .any ops listed := by rw [hr]; simp
        obtain ⟨h1, h2, _⟩ := mem_ready.1 this
        rw [dd_eq listed i hsz h1, hlo i h1] at h2
        cases h2
    cases fuel with
    | zero => exact ⟨hr, hQ _ _ _ _ hst⟩
    | succ fuel => exact ⟨fun _ => hQ _ _ _ _ hst, fun i hi => by rw [hr] at hi; simp at hi⟩
  | g :: gs, k, s, s', hok, hev, hQ, fuel, listed, a, w, F, σ, hsz, hfuel, hlo, hhi, hst => by
    simp only [drawnOks, Bool.and_eq_true] at hok
    obtain ⟨⟨hok1, hok2⟩, hok3⟩ := hok
    simp only [evSegs] at hev
    cases hg : evSeg K s g with
    | none => simp [hg] at hev
    | some s2 =>
      simp only [hg] at hev
      obtain ⟨R, s1, T, news, l, hf⟩ := full_of (X := X) (base := base) (w0 := w0) (F0 := F0) (m0 := m0) (σ0 := σ0) hok1 hK hg hst.dom hst.nxm hst.xm
      have hle : ∀ (gs : List Seg) (k : Nat), drawnOks P ops n tab k gs = true → k ≤ ops.size := by
        intro gs
        induction gs with
        | nil => intro k h; simp only [drawnOks, beq_iff_eq] at h; omega
        | cons g gs ih =>
          intro k h
          simp only [drawnOks, Bool.and_eq_true] at h
          have := ih _ h.2
          omega
      have hbar : ∀ i, k + g.cnt ≤ i → i < ops.size → ∀ j, j < k + g.cnt → tabB tab j i = true := by
        intro i h1 h2 j hj
        cases gs with
        | nil =>
          simp only [drawnOks, beq_iff_eq] at hok3
          omega
        | cons g2 gs2 =>
          simp only [drawnOks, Bool.and_eq_true, List.all_eq_true] at hok3
          exact hok3.1.2 i (by rw [List.mem_range'_1]; omega) j (by simpa using hj)
      refine any_chunk ht hf (fun _ _ _ _ _ _ h => h) rfl hbar (hle _ _ hok3) (fun fuel listed a w F σ h1 h2 h3 h4 hst2 => any_ops hK ht gs (k + g.cnt) s2 s' hok3 hev hQ fuel listed a w F σ h1 h2 h3 h4 hst2) fuel listed a w hsz hfuel hlo (fun i hi => hhi i (by omega)) (fun i hi hil j hj => ?_) ?_
      · -- what is listed is of earlier chunks: so is all ahead of it
        have hik : i < k := by
          rcases Nat.lt_or_ge i k with h | h
          · exact h
          · rw [hhi i h] at hil; cases hil
        have hclo : ∀ i, i < ops.size → ∀ j, tabB tab j i = true → j < i := by
          intro i
          induction i using Nat.strongRecOn with
          | _ i ih =>
            intro hi j hj
            simp only [tabB, List.contains_eq_mem, decide_eq_true_eq] at hj
            obtain ⟨e, he, h4⟩ := ht.clo i ops[i] (by simp [hi]) j hj
            have hei := ht.lt i ops[i] (by simp [hi]) e he
            rcases h4 with rfl | h4
            · exact hei
            · have := ih e hei (by omega) j (by simpa [tabB] using h4)
              omega
        exact hlo j (by have := hclo i hi j hj; omega)
      · refine (stage_start (P := P) (ops := ops) (B := tabB tab) (R := R) (s' := s2) hf.traced hst).congr (fun r hr => ?_)
        have := (recs_mem hf.seg r.i).1 ⟨r, hr, rfl⟩
        rw [List.mem_range'_1] at this
        rw [hhi r.i this.1]
        simp

theorem drawn_region {id : Nat} {gs : List Seg} {s s' : S} {a : Act} {w : World} {F : Nat → Prop} {σ : Nat → Option Loc} (hm : P.follows .mixedOrders = true) (hK : K.Sound P) (hok : drawnOk P ops n gs = true) (hev : evSegs K s gs = some s') (hst : StRel K X base w0 F0 m0 σ0 n s a w F σ)
    (hQ : ∀ a w F σ, StRel K X base w0 F0 m0 σ0 n s' a w F σ → Q .normal a w) : (Code.region id ops true).wp P Q a w := by
  simp only [drawnOk, Bool.and_eq_true] at hok
  refine wp_region_any hm ?_
  have hno : ∀ i, (Array.replicate ops.size false).getD i false = false := by
    intro i
    simp only [Array.getD_eq_getD_getElem?, Array.getElem?_replicate]
    split <;> rfl
  refine any_ops hK (tab_of hok.2) gs 0 s s' hok.1 hev hQ ops.size _ a _ F σ (by simp) ?_ (fun i hi => by omega) (fun i _ => hno i) (hst.drawn _)
  unfold unlisted
  refine Nat.le_trans (List.length_filter_le _ _) ?_
  simp

end Go.Vm
end

section
namespace Go.Vm
open Go.RowKit

variable {P : Program} {K : Cx} {ops : Array Oper} {n : Nat} {X : Nat → Nat → Prop} {base : Nat} {w0 : World} {F0 : Nat → Prop} {m0 : Nat} {σ0 : Nat → Option Loc}

theorem frz_val {w : World} {F : Nat → Prop} {σ σ' : Nat → Option Loc} {nx : Nat} {H : List (Nat × Blk)} (hH : HeapRel w F X base σ nx H) {b n k : Nat} {c : Bool} {rows : List (List D)} {l : Loc} (hb : look H b = some (.dat c k rows)) (hl : σ b = some l) (hn : n = rows.length) (h0 : 0 < n) (hbase : base ≤ l.blk) {v : Value} (hv : RepV w F base σ v (.bsl b 0 n)) :
    RepV w (fun x => F x ∨ x = l.blk) base σ' v (.d c (.sl k rows)) := by
  have hin : col (fun x => F x ∨ x = l.blk) base c l.blk := by
    cases c
    · exact .inr rfl
    · exact ⟨.inr rfl, hbase⟩
  refine .d _ _ _ ?_
  cases hv with
  | bsl0 => omega
  | bsl _ _ _ cap l' hl' h1 h2 =>
    obtain rfl : l = l' := by rw [hl] at hl'; exact Option.some.inj hl'
    have cells : ∀ i r, rows[i]? = some r → l.k = k ∧ r.length = k ∧ ∀ (j : Nat) (d : D), r[j]? = some d → ∃ u, w.cell? ⟨l.blk, i * l.k + j, none⟩ = some u ∧ RepV w F base σ u (mkd c d) := by
      intro i r hr
      obtain ⟨e1, e2, e3⟩ := row_cells hH hb hl (i := i) (row := r.map (mkd c)) (by simp [Blk.row?, hr])
      simp only [Blk.k] at e1
      refine ⟨e1, by simpa [e1] using e2, fun j d hd => ?_⟩
      obtain ⟨u, hu, _, hR⟩ := e3 j (mkd c d) (by simp [hd])
      exact ⟨u, hu, hR⟩
    refine .sl _ _ _ _ k _ (fun i j => (w.cell? ⟨l.blk, i * l.k + j, none⟩).getD undef) hn.symm h1 hin (fun r hr => ?_) (fun i j r d hr hd => ?_) (fun i j r d hr hd => ?_)
    · obtain ⟨i, hi⟩ := List.getElem?_of_mem hr
      exact (cells i r hi).2.1
    · obtain ⟨e1, _, e3⟩ := cells i r hr
      obtain ⟨u, hu, _⟩ := e3 j d hd
      rw [hu, ← e1]
      simp only [Option.getD_some]
      rw [← hu]
      congr 2
      omega
    · obtain ⟨e1, _, e3⟩ := cells i r hr
      obtain ⟨u, hu, hR⟩ := e3 j d hd
      rw [hu]
      simp only [Option.getD_some]
      unfold mkd at hR
      split at hR
      · rename_i hf
        cases hR with
        | d _ _ _ h => exact h.flat hf
      · cases hR with
        | d _ _ _ h => exact h.mono fun a ha => ⟨by
            cases c
            · exact .inl ha
            · exact ⟨.inl ha.1, ha.2⟩, rfl⟩

theorem StRel.freeze {s : S} {a : Act} {w : World} {F : Nat → Prop} {σ : Nat → Option Loc} (t j : Nat) (h : StRel K X base w0 F0 m0 σ0 n s a w F σ) : ∃ F' σ', StRel K X base w0 F0 m0 σ0 n (frzS m0 t j s) a w F' σ' := by
  unfold frzS
  split
  case h_2 => exact ⟨F, σ, h⟩
  rename_i b hb
  split
  case h_2 => exact ⟨F, σ, h⟩
  rename_i k row hrow
  split
  case h_2 => exact ⟨F, σ, h⟩
  rename_i b' nn hj
  split
  case h_2 => exact ⟨F, σ, h⟩
  rename_i c k' rows hb'
  split
  case isFalse => exact ⟨F, σ, h⟩
  rename_i hc
  obtain ⟨hn, h0, hm, hne⟩ := hc
  have hl : ∃ l, σ b' = some l := by
    rcases h.heap.blk b' _ hb' with ⟨hz, _⟩ | ⟨l, _, _, _, _, hl, _⟩ | ⟨l, _, _, hl, _⟩
    · simp [Blk.n] at hz; rw [hz] at hn; simp at hn; omega
    · exact ⟨l, hl⟩
    · exact ⟨l, hl⟩
  obtain ⟨l, hl⟩ := hl
  obtain ⟨o1, o2, o3, o4⟩ := h.heap.own b' l hl
  have hbase : base ≤ l.blk := by
    rcases o3 with o3 | o3
    · exact o3
    · have := h.xm _ _ o3; omega
  have hF : ∀ x, F x → (F x ∨ x = l.blk) ∧ w.heap[x]? = w.heap[x]? := fun x hx => ⟨.inl hx, rfl⟩
  let σ' : Nat → Option Loc := fun i => if i = b' then none else σ i
  have hσ : ∀ i l, σ i = some l → (i == b') = false → σ' i = some l := fun i l hi hp => by
    show (if i = b' then none else σ i) = _
    rw [if_neg (by simpa using hp)]; exact hi
  have hσ' : ∀ i l0, σ' i = some l0 → i ≠ b' ∧ σ i = some l0 := fun i l0 hi => by
    change (if i = b' then none else σ i) = _ at hi
    split at hi
    · cases hi
    · exact ⟨‹_›, hi⟩
  have hσn : ∀ i, i ≠ b' → σ' i = σ i := fun i hi => by
    show (if i = b' then none else σ i) = _
    rw [if_neg hi]
  refine ⟨fun x => F x ∨ x = l.blk, σ', ⟨fun i blk hi => ?_, fun i i' l1 l2 h1 h2 he => ?_, fun i l1 h1 => ?_, fun x hx => ?_⟩, h.glob.mono hF, h.le, h.frame, fun x hx => ?_, h.size, h.dfr, fun u v hv => ?_, fun i blk hi => ?_, fun i l1 h1 h2 h3 => ?_, h.nxm, h.xm, fun x hx => .inl (h.sub x hx)⟩
  · rw [look_put] at hi
    split at hi
    · rename_i he
      subst he
      obtain rfl := Option.some.inj hi
      rcases h.heap.blk b _ hrow with ⟨hz, _⟩ | ⟨_, _, _, _, hmap, _⟩ | ⟨lb, cs, T, q1, q2, q3, q4, q5, q6, q7⟩
      · simp [Blk.n] at hz
      · cases hmap
      · refine .inr (.inr ⟨lb, cs, T, by rw [hσn b (fun e => hne e.symm)]; exact q1, q2, q3, q4, q5, fun i r hr => ?_, rfl⟩)
        cases i with
        | succ i => simp [Blk.row?] at hr
        | zero =>
          simp only [Blk.row?, List.getElem?_cons_zero, Option.some.injEq] at hr
          subst hr
          obtain ⟨g1, g2⟩ := q6 0 row rfl
          refine ⟨by simpa [Blk.k] using g1, fun jj x hx => ?_⟩
          by_cases hjj : j = jj
          · subst hjj
            have hlt : j < row.length := (List.getElem?_eq_some_iff.1 hj).1
            rw [List.getElem?_set_self (by simpa using hlt)] at hx
            obtain rfl := Option.some.inj hx
            obtain ⟨v, g3, g4, g5⟩ := g2 j _ hj
            exact ⟨v, g3, g4, frz_val h.heap hb' hl hn h0 hbase g5⟩
          · rw [List.getElem?_set_ne hjj, List.getElem?_map, Option.map_eq_some_iff] at hx
            obtain ⟨y, hy, rfl⟩ := hx
            obtain ⟨v, g3, g4, g5⟩ := g2 jj y hy
            exact ⟨v, g3, g4, g5.drop1 hF hσ⟩
    · rw [look_put] at hi
      split at hi
      · rename_i he
        subst he
        obtain rfl := Option.some.inj hi
        exact .inl ⟨rfl, if_pos rfl⟩
      · rename_i he
        simp only [forgetH, look_mapB, Option.map_eq_some_iff] at hi
        obtain ⟨blk0, hi, rfl⟩ := hi
        have hib : i ≠ b' := fun e => he e.symm
        exact (h.heap.blk i blk0 hi).forget (· == b') hF hσ (fun l hl => by rw [hσn i hib]; exact hl) (fun hl => by rw [hσn i hib]; exact hl) (fun _ _ => rfl)
  · exact h.heap.inj i i' l1 l2 (hσ' i l1 h1).2 (hσ' i' l2 h2).2 he
  · obtain ⟨hi, h1⟩ := hσ' i l1 h1
    obtain ⟨p1, p2, p3, p4⟩ := h.heap.own i l1 h1
    refine ⟨p1, fun hx => ?_, p3, p4⟩
    rcases hx with hx | hx
    · exact p2 hx
    · exact hi (h.heap.inj i b' l1 l h1 hl hx)
  · rcases hx with hx | hx
    · exact h.heap.fro x hx
    · rw [hx]; exact o4
  · rcases hx with hx | hx
    · exact h.frz x hx
    · rw [hx]; exact .inr hbase
  · simp only [forgetR] at hv
    rw [look_mapV, Option.map_eq_some_iff] at hv
    obtain ⟨v0, h1, rfl⟩ := hv
    exact (h.rho u v0 h1).forget hF hσ
  · rw [look_put] at hi
    split at hi
    · rename_i he; subst he; exact h.dom _ _ hrow
    · rw [look_put] at hi
      split at hi
      · rename_i he; subst he; exact h.dom _ _ hb'
      · simp only [forgetH, look_mapB, Option.map_eq_some_iff] at hi
        obtain ⟨blk0, hi, rfl⟩ := hi
        exact h.dom i blk0 hi
  · rw [hσn i (by omega)]
    exact h.stab i l1 h1 h2 h3

def less (σ : Nat → Option Loc) (b : Nat) : Nat → Option Loc := fun i => if i = b then none else σ i

theorem StRel.gone {s : S} {a : Act} {w : World} {F : Nat → Prop} {σ : Nat → Option Loc} {t b k : Nat} {l : Loc} {x : V} {blk : Blk} (hl : σ b = some l) (hblk : look s.heap b = some blk) (hm : m0 ≤ b)
    (hx : base ≤ l.blk → RepV w (fun y => F y ∨ y = l.blk) base (less σ b) (a.tmps.getD t undef) x) (h : StRel K X base w0 F0 m0 σ0 n s a w F σ) :
    ∃ F' σ', StRel K X base w0 F0 m0 σ0 n ⟨put (forgetR (· == b) s.rho) t x, put (forgetH (· == b) s.heap) b (.dat true k []), s.nx, s.mv⟩ a w F' σ' := by
  obtain ⟨o1, o2, o3, o4⟩ := h.heap.own b l hl
  have hbase : base ≤ l.blk := by
    rcases o3 with o3 | o3
    · exact o3
    · have := h.xm _ _ o3; omega
  have hF : ∀ y, F y → (F y ∨ y = l.blk) ∧ w.heap[y]? = w.heap[y]? := fun y hy => ⟨.inl hy, rfl⟩
  have hσ : ∀ i l, σ i = some l → (i == b) = false → less σ b i = some l := fun i l hi hp => by
    show (if i = b then none else σ i) = _
    rw [if_neg (by simpa using hp)]; exact hi
  have hσ' : ∀ i l0, less σ b i = some l0 → i ≠ b ∧ σ i = some l0 := fun i l0 hi => by
    change (if i = b then none else σ i) = _ at hi
    split at hi
    · cases hi
    · exact ⟨‹_›, hi⟩
  have hσn : ∀ i, i ≠ b → less σ b i = σ i := fun i hi => by
    show (if i = b then none else σ i) = _
    rw [if_neg hi]
  refine ⟨fun y => F y ∨ y = l.blk, less σ b, ⟨fun i bk hi => ?_, fun i i' l1 l2 h1 h2 he => ?_, fun i l1 h1 => ?_, fun y hy => ?_⟩, h.glob.mono hF, h.le, h.frame, fun y hy => ?_, h.size, h.dfr, fun u v hv => ?_, fun i bk hi => ?_, fun i l1 h1 h2 h3 => ?_, h.nxm, h.xm, fun y hy => .inl (h.sub y hy)⟩
  · rw [look_put] at hi
    split at hi
    · rename_i he
      subst he
      obtain rfl := Option.some.inj hi
      exact .inl ⟨rfl, if_pos rfl⟩
    · rename_i he
      simp only [forgetH, look_mapB, Option.map_eq_some_iff] at hi
      obtain ⟨blk0, hi, rfl⟩ := hi
      have hib : i ≠ b := fun e => he e.symm
      exact (h.heap.blk i blk0 hi).forget (· == b) hF hσ (fun l hl => by rw [hσn i hib]; exact hl) (fun hl => by rw [hσn i hib]; exact hl) (fun _ _ => rfl)
  · exact h.heap.inj i i' l1 l2 (hσ' i l1 h1).2 (hσ' i' l2 h2).2 he
  · obtain ⟨hi, h1⟩ := hσ' i l1 h1
    obtain ⟨p1, p2, p3, p4⟩ := h.heap.own i l1 h1
    refine ⟨p1, fun hy => ?_, p3, p4⟩
    rcases hy with hy | hy
    · exact p2 hy
    · exact hi (h.heap.inj i b l1 l h1 hl hy)
  · rcases hy with hy | hy
    · exact h.heap.fro y hy
    · rw [hy]; exact o4
  · rcases hy with hy | hy
    · exact h.frz y hy
    · rw [hy]; exact .inr hbase
  · rw [look_put] at hv
    split at hv
    · rename_i he
      subst he
      obtain rfl := Option.some.inj hv
      exact hx hbase
    · simp only [forgetR] at hv
      rw [look_mapV, Option.map_eq_some_iff] at hv
      obtain ⟨v0, h1, rfl⟩ := hv
      exact (h.rho u v0 h1).forget hF hσ
  · rw [look_put] at hi
    split at hi
    · rename_i he; subst he; exact h.dom _ _ hblk
    · simp only [forgetH, look_mapB, Option.map_eq_some_iff] at hi
      obtain ⟨blk0, hi, rfl⟩ := hi
      exact h.dom i blk0 hi
  · rw [hσn i (by omega)]
    exact h.stab i l1 h1 h2 h3

theorem StRel.freezeV {s : S} {a : Act} {w : World} {F : Nat → Prop} {σ : Nat → Option Loc} (t : Nat) (h : StRel K X base w0 F0 m0 σ0 n s a w F σ) : ∃ F' σ', StRel K X base w0 F0 m0 σ0 n (frzV m0 t s) a w F' σ' := by
  unfold frzV
  split
  · rename_i b nn hb
    split
    case h_2 => exact ⟨F, σ, h⟩
    rename_i c k rows hb'
    split
    case isFalse => exact ⟨F, σ, h⟩
    rename_i hc
    obtain ⟨hn, h0, hm⟩ := hc
    have hl : ∃ l, σ b = some l := by
      rcases h.heap.blk b _ hb' with ⟨hz, _⟩ | ⟨l, _, _, _, _, hl, _⟩ | ⟨l, _, _, hl, _⟩
      · simp [Blk.n] at hz; rw [hz] at hn; simp at hn; omega
      · exact ⟨l, hl⟩
      · exact ⟨l, hl⟩
    obtain ⟨l, hl⟩ := hl
    exact h.gone hl hb' hm fun hbase => frz_val h.heap hb' hl hn h0 hbase (h.rho t _ hb)
  · rename_i b hb
    split
    case h_2 => exact ⟨F, σ, h⟩
    rename_i k row hb'
    split
    case h_2 => exact ⟨F, σ, h⟩
    rename_i ds hds
    split
    case isFalse => exact ⟨F, σ, h⟩
    rename_i hc
    obtain ⟨hm, h0⟩ := hc
    have hr := h.rho t _ hb
    generalize hvv : a.tmps.getD t undef = vv at hr
    cases hr with
    | ptr _ _ _ l hl =>
      refine h.gone hl hb' hm fun hbase => ?_
      rw [hvv]
      obtain ⟨e1, e2, e3⟩ := row_cells h.heap hb' hl (i := 0) (row := row) (by simp [Blk.row?])
      obtain ⟨d1, d2⟩ := mapO_some hds
      refine .d _ _ _ ?_
      have hin : col (fun x => F x ∨ x = l.blk) base (row.all V.new1) l.blk := by
        cases row.all V.new1
        · exact .inr rfl
        · exact ⟨.inr rfl, hbase⟩
      have cells : ∀ j d, ds[j]? = some d → ∃ x u, row[j]? = some x ∧ w.cell? ⟨l.blk, j, none⟩ = some u ∧ RepV w F base σ u x ∧ asD x = some d := by
        intro j d hd
        obtain ⟨x, hx, hxd⟩ := mapO_get hds hd
        obtain ⟨u, hu, _, hR⟩ := e3 j x hx
        exact ⟨x, u, hx, by simpa using hu, hR, hxd⟩
      have := RepD.ptr (w := w) (F := col (fun x => F x ∨ x = l.blk) base (row.all V.new1)) l.blk (0 * l.k + 0) ds (fun j => (w.cell? ⟨l.blk, j, none⟩).getD undef) hin (fun j d hd => ?_) (fun j d hd => ?_)
      · exact this
      · obtain ⟨x, u, _, hu, _, _⟩ := cells j d hd
        simp only [Nat.zero_mul, Nat.zero_add]
        rw [hu]; rfl
      · obtain ⟨x, u, hx, hu, hR, hxd⟩ := cells j d hd
        rw [hu]
        simp only [Option.getD_some]
        obtain ⟨r1, r2⟩ := asD_sound hxd hR
        cases hnew : row.all V.new1 with
        | false => exact r1.mono fun y hy => ⟨.inl hy, rfl⟩
        | true =>
          rw [List.all_eq_true] at hnew
          exact (r2 (hnew x (List.mem_of_getElem? hx))).mono fun y hy => ⟨⟨.inl hy.1, hy.2⟩, rfl⟩
  · exact ⟨F, σ, h⟩

theorem StRel.freezeL {a : Act} {w : World} : ∀ (l : List Nat) {s : S} {F : Nat → Prop} {σ : Nat → Option Loc}, StRel K X base w0 F0 m0 σ0 n s a w F σ → ∃ F' σ', StRel K X base w0 F0 m0 σ0 n (frzL m0 l s) a w F' σ'
  | [], s, F, σ, h => ⟨F, σ, h⟩
  | t :: l, s, F, σ, h => by
    obtain ⟨F', σ', h'⟩ := h.freezeV t
    exact StRel.freezeL l h'

end Go.Vm
end

section
namespace Go.Vm
open Go.RowKit

def guardIs (ops : Array Oper) (t : Nat) (b : Bool) (o : Oper) : Bool := match o.guard with
  | some (j, b') => b' == b && (match ops[j]? with
    | some q => q.dst == some t
    | none => false)
  | none => false
def inR (lo n i : Nat) : Bool := decide (lo ≤ i) && decide (i < lo + n)
def strip (ops : Array Oper) (t : Nat) (b : Bool) (lo n : Nat) : Array Oper := ops.mapIdx fun i o => if inR lo n i && guardIs ops t b o then { o with guard := none } else o
def skipOk (ops : Array Oper) (t : Nat) (b : Bool) (k : Nat) (g : Seg) : Bool := (List.range' k g.cnt).all fun i => match ops[i]? with
  | some o => guardIs ops t b o && o.dst != some t && (match o.dst with | some d => !(keepG g).contains d | none => true)
  | none => true
def pieceOkG (B : Nat → Nat → Bool) (P : Program) (ops : Array Oper) (n k : Nat) (p : Pre) (g : Seg) : Bool := match p.sg with
  | none => segOk B P ops n (List.range' k g.cnt) g
  | some (t, b) => segOk B P (strip ops t b k g.cnt) n (List.range' k g.cnt) g && skipOk ops t b k g
def textOkG (P : Program) (ops : Array Oper) (n : Nat) : Nat → List (Pre × Seg) → Bool
  | k, [] => k == ops.size
  | k, (p, g) :: r => pieceOkG (fun i j => decide (i < j)) P ops n k p g && textOkG P ops n (k + g.cnt) r
def drawnOksG (P : Program) (ops : Array Oper) (n : Nat) (tab : List (List Nat)) : Nat → List (Pre × Seg) → Bool
  | k, [] => k == ops.size
  | k, (p, g) :: r => pieceOkG (tabB tab) P ops n k p g && ((List.range' k (ops.size - k)).all fun i => (List.range k).all fun j => tabB tab j i) && drawnOksG P ops n tab (k + g.cnt) r
def tabOfG : List (Pre × Seg) → List (List Nat)
  | (_, g) :: _ => g.aux
  | [] => []
def drawnOkG (P : Program) (ops : Array Oper) (n : Nat) (gs : List (Pre × Seg)) : Bool := drawnOksG P ops n (tabOfG gs) 0 gs && tabOk ops.toList (tabOfG gs)

variable {P : Program} {K : Cx} {ops : Array Oper} {n : Nat} {X : Nat → Nat → Prop} {base : Nat} {w0 : World} {F0 : Nat → Prop} {m0 : Nat} {σ0 : Nat → Option Loc} {Q : Exit → Act → World → Prop}

theorem strip_get (t : Nat) (b : Bool) (lo n i : Nat) : (strip ops t b lo n)[i]? = (ops[i]?).map fun o => if inR lo n i && guardIs ops t b o then { o with guard := none } else o := by
  unfold strip
  rw [Array.getElem?_mapIdx]

theorem strip_dst (t : Nat) (b : Bool) (lo n i : Nat) : ((strip ops t b lo n)[i]?).bind (·.dst) = (ops[i]?).bind (·.dst) := by
  rw [strip_get]
  cases ops[i]? with
  | none => rfl
  | some o => simp only [Option.map_some, Option.bind_some]; split <;> rfl

theorem strip_yields (t : Nat) (b : Bool) (lo n : Nat) (tmps : Array Value) : yielded (strip ops t b lo n) tmps = yielded ops tmps := by
  funext j
  unfold yielded
  rw [strip_dst]

def Truth (t : Nat) (x : Bool) (a : Act) : Prop := a.tmps[t]? = some (.bool x)

theorem guard_wanted {t : Nat} {b x : Bool} {a : Act} {o : Oper} (hg : guardIs ops t b o = true) (ht : Truth t x a) : Region.wanted o (yielded ops a.tmps) = (x == b) := by
  unfold guardIs at hg
  split at hg
  · rename_i j b' hgd
    simp only [Bool.and_eq_true, beq_iff_eq] at hg
    obtain ⟨rfl, hg⟩ := hg
    split at hg
    · rename_i q hq
      have hd : q.dst = some t := by simpa using hg
      have hy : yielded ops a.tmps j = some x := by
        unfold yielded
        rw [hq]
        simp only [Option.bind_some, hd]
        rw [ht]
      unfold Region.wanted
      rw [hgd]
      simp only [hy]
      cases x <;> cases b' <;> rfl
    · cases hg
  · cases hg

theorem strip_op {t : Nat} {b : Bool} {lo n' i : Nat} {a : Act} {w : World} {Kn : Act → World → Prop} (ht : Truth t b a) (h : wpOp P (strip ops t b lo n') Q i Kn a w) : wpOp P ops Q i Kn a w := by
  unfold wpOp at h ⊢
  rw [strip_get, strip_yields] at h
  cases ho : ops[i]? with
  | none => rw [ho] at h; exact h
  | some o =>
    rw [ho] at h
    simp only [Option.map_some] at h ⊢
    by_cases hc : (inR lo n' i && guardIs ops t b o) = true
    · rw [if_pos hc] at h
      simp only [Bool.and_eq_true] at hc
      rw [if_pos (by rw [guard_wanted hc.2 ht]; simp)]
      rw [if_pos (by rfl)] at h
      exact h
    · rw [if_neg hc] at h
      exact h

theorem skip_op {t : Nat} {b x : Bool} {i : Nat} {a : Act} {w : World} {Kn : Act → World → Prop} {o : Oper} (ho : ops[i]? = some o) (hg : guardIs ops t b o = true) (ht : Truth t x a) (hx : x ≠ b) (h : Kn (a.put o.dst undef) w) : wpOp P ops Q i Kn a w := by
  unfold wpOp
  rw [ho]
  simp only
  rw [if_neg (by rw [guard_wanted hg ht]; simpa using hx)]
  exact h

theorem stage_truth {c : Piece} {g : Seg} {s' : S} {D : Nat → Prop} {a : Act} {w : World} {is : List Nat} {news : List Blk} {l : List (Nat × V)} (hf : Full c is g s' news l) (hs : Stage c g s' D a w) {t : Nat} {x cc : Bool} (hl : look c.s.rho t = some (.d cc (.bool x))) (hno : ∀ r ∈ c.R, r.o.dst ≠ some t) : Truth t x a := by
  have key : ∀ {F : Nat → Prop} {σ : Nat → Option Loc}, RepV w F c.base σ (a.tmps.getD t undef) (.d cc (.bool x)) → Truth t x a := by
    intro F σ h
    have hv := h.bool_inv
    unfold Truth
    rw [Array.getD_eq_getD_getElem?] at hv
    cases ht : a.tmps[t]? with
    | none => rw [ht] at hv; simp [undef] at hv
    | some u => rw [ht] at hv; simp only [Option.getD_some] at hv; rw [hv]
  rcases hs with ⟨_, F, σ, hi⟩ | ⟨_, F, σ, hw⟩
  · exact key (hi.old t _ hl fun r hr _ => hno r hr)
  · refine key (hw.lold t _ ?_ fun r hr _ => hno r hr)
    have hnm : t ∉ c.mds := fun hm => by
      obtain ⟨r, hr, hd, _⟩ := hf.ok.covers t hm
      exact hno r hr hd
    simp only [clean]
    rw [look_mapV, hf.ok.old t hnm, hl]
    rfl

theorem StRel.truth {s : S} {a : Act} {w : World} {F : Nat → Prop} {σ : Nat → Option Loc} (h : StRel K X base w0 F0 m0 σ0 n s a w F σ) {t : Nat} {x cc : Bool} (hl : look s.rho t = some (.d cc (.bool x))) : Truth t x a := by
  have hv := (h.rho t _ hl).bool_inv
  unfold Truth
  rw [Array.getD_eq_getD_getElem?] at hv
  cases ht : a.tmps[t]? with
  | none => rw [ht] at hv; simp [undef] at hv
  | some u => rw [ht] at hv; simp only [Option.getD_some] at hv; rw [hv]

def Skip (K : Cx) (X : Nat → Nat → Prop) (base : Nat) (w0 : World) (F0 : Nat → Prop) (m0 : Nat) (σ0 : Nat → Option Loc) (n : Nat) (t : Nat) (x : Bool) (s : S) (a : Act) (w : World) : Prop := Truth t x a ∧ ∃ F σ, StRel K X base w0 F0 m0 σ0 n s a w F σ

theorem put_get {a : Act} {d : Option Nat} {v : Value} {u : Nat} (h : d ≠ some u) : (a.put d v).tmps[u]? = a.tmps[u]? := by
  cases d with
  | none => rfl
  | some d =>
    simp only [Act.put]
    exact Array.getElem?_setIfInBounds_ne (fun e => h (by rw [e]))

theorem Skip.step {t : Nat} {x : Bool} {s : S} {keep : List Nat} {a : Act} {w : World} (h : Skip K X base w0 F0 m0 σ0 n t x (skipS s keep) a w) {d : Option Nat} (h1 : d ≠ some t) (h2 : ∀ u, d = some u → u ∉ keep) : Skip K X base w0 F0 m0 σ0 n t x (skipS s keep) (a.put d undef) w := by
  obtain ⟨ht, F, σ, hs⟩ := h
  refine ⟨?_, F, σ, ⟨hs.heap, hs.glob, hs.le, hs.frame, hs.frz, by rw [size_put]; exact hs.size, by rw [defers_put]; exact hs.dfr, fun u v hv => ?_, hs.dom, hs.stab, hs.nxm, hs.xm, hs.sub⟩⟩
  · unfold Truth
    rw [put_get h1]
    exact ht
  · have hu : u ∈ keep := (look_restrict _ _ _ _ hv).1
    have hd : d ≠ some u := fun e => h2 u e hu
    have := hs.rho u v hv
    rw [Array.getD_eq_getD_getElem?] at this ⊢
    rw [put_get hd]
    exact this

theorem StRel.skip {s : S} {a : Act} {w : World} {F : Nat → Prop} {σ : Nat → Option Loc} (h : StRel K X base w0 F0 m0 σ0 n s a w F σ) (keep : List Nat) : StRel K X base w0 F0 m0 σ0 n (skipS s keep) a w F σ :=
  ⟨h.heap, h.glob, h.le, h.frame, h.frz, h.size, h.dfr, fun t v hv => h.rho t v (look_restrict _ _ _ _ hv).2, h.dom, h.stab, h.nxm, h.xm, h.sub⟩

theorem skip_get {t : Nat} {b : Bool} {k : Nat} {g : Seg} (h : skipOk ops t b k g = true) {i : Nat} (h1 : k ≤ i) (h2 : i < k + g.cnt) {o : Oper} (ho : ops[i]? = some o) : guardIs ops t b o = true ∧ o.dst ≠ some t ∧ ∀ u, o.dst = some u → u ∉ keepG g := by
  unfold skipOk at h
  rw [List.all_eq_true] at h
  have := h i (by rw [List.mem_range'_1]; omega)
  rw [ho] at this
  simp only [Bool.and_eq_true, bne_iff_ne, ne_eq] at this
  refine ⟨this.1.1, this.1.2, fun u hu => ?_⟩
  have h3 := this.2
  rw [hu] at h3
  simpa using h3

theorem skip_dsts {B : Nat → Nat → Bool} {t : Nat} {b : Bool} {k : Nat} {g : Seg} {R : List Rec} (hs : SegOk B P (strip ops t b k g.cnt) n (List.range' k g.cnt) g R) (h : skipOk ops t b k g = true) : ∀ r ∈ R, r.o.dst ≠ some t := by
  intro r hr
  have hi := (recs_mem hs r.i).1 ⟨r, hr, rfl⟩
  rw [List.mem_range'_1] at hi
  obtain ⟨later, done, _, hg⟩ := ((recs_good _ [] R .nil hs.recs).1).split hr
  cases hg with
  | cons _ _ _ hop _ _ _ =>
    rw [strip_get] at hop
    cases ho : ops[r.i]? with
    | none => rw [ho] at hop; cases hop
    | some o =>
      rw [ho] at hop
      simp only [Option.map_some, Option.some.injEq] at hop
      have := (skip_get h hi.1 hi.2 ho).2.1
      rw [← hop]
      split <;> exact this

theorem le_textG : ∀ (gs : List (Pre × Seg)) (k : Nat), textOkG P ops n k gs = true → k ≤ ops.size
  | [], k, h => by simp only [textOkG, beq_iff_eq] at h; omega
  | (p, g) :: gs, k, h => by
    simp only [textOkG, Bool.and_eq_true] at h
    have := le_textG gs _ h.2
    omega

theorem skip_chunk {t : Nat} {b x : Bool} {k : Nat} {g : Seg} {s : S} (hk : skipOk ops t b k g = true) (hx : x ≠ b) (hsz : k + g.cnt ≤ ops.size) {ys : List Nat} (hys : ∀ a w F σ, StRel K X base w0 F0 m0 σ0 n (skipS s (keepG g)) a w F σ → wpOps P ops Q ys a w) :
    ∀ (m j : Nat) (a : Act) (w : World), j + m = g.cnt → Skip K X base w0 F0 m0 σ0 n t x (skipS s (keepG g)) a w → wpOps P ops Q (List.range' (k + j) m ++ ys) a w
  | 0, j, a, w, hj, ⟨_, F, σ, hs⟩ => by simpa using hys a w F σ hs
  | m + 1, j, a, w, hj, hs => by
    rw [List.range'_succ, List.cons_append, wpOps_cons]
    have hlt : k + j < ops.size := by omega
    obtain ⟨h1, h2, h3⟩ := skip_get hk (i := k + j) (by omega) (by omega) (Array.getElem?_eq_getElem hlt)
    exact skip_op (Array.getElem?_eq_getElem hlt) h1 hs.1 hx (skip_chunk hk hx hsz hys m (j + 1) _ w (by omega) (hs.step h2 h3))

theorem text_opsG (hK : K.Sound P) : ∀ (gs : List (Pre × Seg)) (k : Nat) (s s' : S) (a : Act) (w : World) (F : Nat → Prop) (σ : Nat → Option Loc), textOkG P ops n k gs = true → evSegsG m0 K s gs = some s' → StRel K X base w0 F0 m0 σ0 n s a w F σ →
    (∀ a w F σ, StRel K X base w0 F0 m0 σ0 n s' a w F σ → Q .normal a w) → wpOps P ops Q (List.range' k (ops.size - k)) a w
  | [], k, s, s', a, w, F, σ, hok, hev, hst, hQ => by
    simp only [textOkG, beq_iff_eq] at hok
    subst hok
    obtain rfl := Option.some.inj hev
    simp only [Nat.sub_self, List.range'_zero, wpOps]
    exact hQ _ _ _ _ hst
  | (p, g) :: gs, k, s, s', a, w, F, σ, hok, hev, hst, hQ => by
    simp only [textOkG, Bool.and_eq_true] at hok
    obtain ⟨hok1, hok2⟩ := hok
    have hk2 := le_textG gs _ hok2
    have hsplit : List.range' k (ops.size - k) = List.range' (k + 0) g.cnt ++ List.range' (k + g.cnt) (ops.size - (k + g.cnt)) := by
      have : ops.size - k = g.cnt + (ops.size - (k + g.cnt)) := by omega
      rw [this, ← List.range'_append_1]
      simp
    obtain ⟨F, σ, hst⟩ := hst.freezeL p.fz
    simp only [evSegsG] at hev
    generalize frzL m0 p.fz s = s0 at hst hev
    cases hg : evSegG K s0 p g with
    | none => simp [hg] at hev
    | some s2 =>
      simp only [hg] at hev
      have rest : ∀ a w F σ, StRel K X base w0 F0 m0 σ0 n s2 a w F σ → wpOps P ops Q (List.range' (k + g.cnt) (ops.size - (k + g.cnt))) a w := fun a w F σ hst2 => text_opsG hK gs (k + g.cnt) s2 s' a w F σ hok2 hev hst2 hQ
      have start : (fun i => k ≤ i ∧ i < k + 0) = fun _ => False := by
        funext i
        simp only [eq_iff_iff, iff_false]
        omega
      rw [hsplit]
      unfold pieceOkG at hok1
      unfold evSegG at hg
      cases hsg : p.sg with
      | none =>
        simp only [hsg] at hok1 hg
        obtain ⟨R, s1, T, news, l, hf⟩ := full_of (X := X) (base := base) (w0 := w0) (F0 := F0) (m0 := m0) (σ0 := σ0) hok1 hK hg hst.dom hst.nxm hst.xm
        refine chunk hf rfl (fun _ _ _ _ _ _ h => h) rest g.cnt 0 a w (by omega) ?_
        rw [start]
        exact stage_start hf.traced hst
      | some q =>
        obtain ⟨t, b⟩ := q
        simp only [hsg, Bool.and_eq_true] at hok1 hg
        obtain ⟨hk1, hk3⟩ := hok1
        split at hg
        case h_2 => cases hg
        rename_i cc x hl
        split at hg
        · rename_i hxb
          subst hxb
          obtain ⟨R, s1, T, news, l, hf⟩ := full_of (X := X) (base := base) (w0 := w0) (F0 := F0) (m0 := m0) (σ0 := σ0) hk1 hK hg hst.dom hst.nxm hst.xm
          refine chunk hf rfl (fun D a w i Kn hs h => strip_op (stage_truth hf hs hl (skip_dsts hf.seg hk3)) h) rest g.cnt 0 a w (by omega) ?_
          rw [start]
          exact stage_start hf.traced hst
        · rename_i hxb
          obtain rfl := Option.some.inj hg
          exact skip_chunk hk3 hxb hk2 rest g.cnt 0 a w (by omega) ⟨hst.truth hl, F, σ, hst.skip _⟩

theorem text_regionG {id : Nat} {gs : List (Pre × Seg)} {s s' : S} {a : Act} {w : World} {F : Nat → Prop} {σ : Nat → Option Loc} (hK : K.Sound P) (hok : textOkG P ops n 0 gs = true) (hev : evSegsG m0 K s gs = some s') (hst : StRel K X base w0 F0 m0 σ0 n s a w F σ)
    (hQ : ∀ a w F σ, StRel K X base w0 F0 m0 σ0 n s' a w F σ → Q .normal a w) : (Code.region id ops false).wp P Q a w := by
  refine wp_region ?_
  have := text_opsG (Q := Q) hK gs 0 s s' a w F σ hok hev hst hQ
  rw [List.range_eq_range']
  simpa using this

theorem le_drawnG {tab : List (List Nat)} : ∀ (gs : List (Pre × Seg)) (k : Nat), drawnOksG P ops n tab k gs = true → k ≤ ops.size
  | [], k, h => by simp only [drawnOksG, beq_iff_eq] at h; omega
  | (p, g) :: gs, k, h => by
    simp only [drawnOksG, Bool.and_eq_true] at h
    have := le_drawnG gs _ h.2
    omega

theorem any_opsG (hK : K.Sound P) {tab : List (List Nat)} (ht : Tab ops tab) : ∀ (gs : List (Pre × Seg)) (k : Nat) (s s' : S), drawnOksG P ops n tab k gs = true → evSegsG m0 K s gs = some s' → (∀ a w F σ, StRel K X base w0 F0 m0 σ0 n s' a w F σ → Q .normal a w) →
    ∀ (fuel : Nat) (listed : Array Bool) (a : Act) (w : World) (F : Nat → Prop) (σ : Nat → Option Loc), listed.size = ops.size → unlisted listed ops.size ≤ fuel → (∀ i, i < k → listed.getD i false = true) → (∀ i, k ≤ i → listed.getD i false = false) → StRel K X base w0 F0 m0 σ0 n s a w F σ → wpAny P .any ops Q fuel listed a w
  | [], k, s, s', hok, hev, hQ, fuel, listed, a, w, F, σ, hsz, hfuel, hlo, hhi, hst => by
    simp only [drawnOksG, beq_iff_eq] at hok
    subst hok
    obtain rfl := Option.some.inj hev
    have hr : Region.ready .any ops listed = [] := by
      cases hr : Region.ready .any ops listed with
      | nil => rfl
      | cons i t =>
        have : i ∈ Region.ready .any ops listed := by rw [hr]; simp
        obtain ⟨h1, h2, _⟩ := mem_ready.1 this
        rw [dd_eq listed i hsz h1, hlo i h1] at h2
        cases h2
    cases fuel with
    | zero => exact ⟨hr, hQ _ _ _ _ hst⟩
    | succ fuel => exact ⟨fun _ => hQ _ _ _ _ hst, fun i hi => by rw [hr] at hi; simp at hi⟩
  | (p, g) :: gs, k, s, s', hok, hev, hQ, fuel, listed, a, w, F, σ, hsz, hfuel, hlo, hhi, hst => by
    simp only [drawnOksG, Bool.and_eq_true] at hok
    obtain ⟨⟨hok1, hok2⟩, hok3⟩ := hok
    have hkc := le_drawnG gs _ hok3
    obtain ⟨F, σ, hst⟩ := hst.freezeL p.fz
    simp only [evSegsG] at hev
    generalize frzL m0 p.fz s = s0 at hst hev
    cases hg : evSegG K s0 p g with
    | none => simp [hg] at hev
    | some s2 =>
      simp only [hg] at hev
      have rest : ∀ fuel listed a w F σ, listed.size = ops.size → unlisted listed ops.size ≤ fuel → (∀ i, i < k + g.cnt → listed.getD i false = true) → (∀ i, k + g.cnt ≤ i → listed.getD i false = false) → StRel K X base w0 F0 m0 σ0 n s2 a w F σ → wpAny P .any ops Q fuel listed a w :=
        fun fuel listed a w F σ h1 h2 h3 h4 hst2 => any_opsG hK ht gs (k + g.cnt) s2 s' hok3 hev hQ fuel listed a w F σ h1 h2 h3 h4 hst2
      have hbar : ∀ i, k + g.cnt ≤ i → i < ops.size → ∀ j, j < k + g.cnt → tabB tab j i = true := by
        intro i h1 h2 j hj
        cases gs with
        | nil =>
          simp only [drawnOksG, beq_iff_eq] at hok3
          omega
        | cons g2 gs2 =>
          obtain ⟨p2, g2⟩ := g2
          simp only [drawnOksG, Bool.and_eq_true, List.all_eq_true] at hok3
          exact hok3.1.2 i (by rw [List.mem_range'_1]; omega) j (by simpa using hj)
      have hdn : ∀ i, i < ops.size → listed.getD i false = true → ∀ j, tabB tab j i = true → listed.getD j false = true := by
        intro i hi hil j hj
        have hik : i < k := by
          rcases Nat.lt_or_ge i k with h | h
          · exact h
          · rw [hhi i h] at hil; cases hil
        have hclo : ∀ i, i < ops.size → ∀ j, tabB tab j i = true → j < i := by
          intro i
          induction i using Nat.strongRecOn with
          | _ i ih =>
            intro hi j hj
            simp only [tabB, List.contains_eq_mem, decide_eq_true_eq] at hj
            obtain ⟨e, he, h4⟩ := ht.clo i ops[i] (by simp [hi]) j hj
            have hei := ht.lt i ops[i] (by simp [hi]) e he
            rcases h4 with rfl | h4
            · exact hei
            · have := ih e hei (by omega) j (by simpa [tabB] using h4)
              omega
        exact hlo j (by have := hclo i hi j hj; omega)
      have hh : ∀ i, k + g.cnt ≤ i → listed.getD i false = false := fun i hi => hhi i (by omega)
      unfold pieceOkG at hok1
      unfold evSegG at hg
      cases hsg : p.sg with
      | none =>
        simp only [hsg] at hok1 hg
        obtain ⟨R, s1, T, news, l, hf⟩ := full_of (X := X) (base := base) (w0 := w0) (F0 := F0) (m0 := m0) (σ0 := σ0) hok1 hK hg hst.dom hst.nxm hst.xm
        refine any_chunk ht hf (fun _ _ _ _ _ _ h => h) rfl hbar hkc rest fuel listed a w hsz hfuel hlo hh hdn ?_
        refine (stage_start (P := P) (ops := ops) (B := tabB tab) (R := R) (s' := s2) hf.traced hst).congr (fun r hr => ?_)
        have := (recs_mem hf.seg r.i).1 ⟨r, hr, rfl⟩
        rw [List.mem_range'_1] at this
        rw [hhi r.i this.1]
        simp
      | some q =>
        obtain ⟨t, b⟩ := q
        simp only [hsg, Bool.and_eq_true] at hok1 hg
        obtain ⟨hk1, hk3⟩ := hok1
        split at hg
        case h_2 => cases hg
        rename_i cc x hl
        split at hg
        · rename_i hxb
          subst hxb
          obtain ⟨R, s1, T, news, l, hf⟩ := full_of (X := X) (base := base) (w0 := w0) (F0 := F0) (m0 := m0) (σ0 := σ0) hk1 hK hg hst.dom hst.nxm hst.xm
          refine any_chunk ht hf (fun D a w i Kn hs h => strip_op (stage_truth hf hs hl (skip_dsts hf.seg hk3)) h) rfl hbar hkc rest fuel listed a w hsz hfuel hlo hh hdn ?_
          refine (stage_start (P := P) (ops := strip ops t x k g.cnt) (B := tabB tab) (R := R) (s' := s2) hf.traced hst).congr (fun r hr => ?_)
          have := (recs_mem hf.seg r.i).1 ⟨r, hr, rfl⟩
          rw [List.mem_range'_1] at this
          rw [hhi r.i this.1]
          simp
        · rename_i hxb
          obtain rfl := Option.some.inj hg
          refine any_chunk0 (cnt := g.cnt) ht (fun _ => Skip K X base w0 F0 m0 σ0 n t x (skipS s0 (keepG g))) (fun D a w i Kn hi1 hi2 _ _ _ hs hKn => ?_) hbar hkc (fun fuel listed a w q1 q2 q3 q4 ⟨_, _, _, F, σ, hs⟩ => rest fuel listed a w F σ q1 q2 q3 q4 hs) fuel listed a w hsz hfuel hlo hh hdn ⟨hst.truth hl, F, σ, hst.skip _⟩
          have hlt : i < ops.size := by omega
          obtain ⟨h1, h2, h3⟩ := skip_get hk3 hi1 hi2 (Array.getElem?_eq_getElem hlt)
          exact skip_op (Array.getElem?_eq_getElem hlt) h1 hs.1 hxb (hKn _ w (hs.step h2 h3))

theorem drawn_regionG {id : Nat} {gs : List (Pre × Seg)} {s s' : S} {a : Act} {w : World} {F : Nat → Prop} {σ : Nat → Option Loc} (hm : P.follows .mixedOrders = true) (hK : K.Sound P) (hok : drawnOkG P ops n gs = true) (hev : evSegsG m0 K s gs = some s') (hst : StRel K X base w0 F0 m0 σ0 n s a w F σ)
    (hQ : ∀ a w F σ, StRel K X base w0 F0 m0 σ0 n s' a w F σ → Q .normal a w) : (Code.region id ops true).wp P Q a w := by
  simp only [drawnOkG, Bool.and_eq_true] at hok
  refine wp_region_any hm ?_
  have hno : ∀ i, (Array.replicate ops.size false).getD i false = false := by
    intro i
    simp only [Array.getD_eq_getD_getElem?, Array.getElem?_replicate]
    split <;> rfl
  refine any_opsG hK (tab_of hok.2) gs 0 s s' hok.1 hev hQ ops.size _ a _ F σ (by simp) ?_ (fun i hi => by omega) (fun i _ => hno i) (hst.drawn _)
  unfold unlisted
  refine Nat.le_trans (List.length_filter_le _ _) ?_
  simp

end Go.Vm
end

section
namespace Go.Vm
open Go.RowKit

variable {P : Program} {K : Cx} {n : Nat} {X : Nat → Nat → Prop} {base : Nat} {w0 : World} {F0 : Nat → Prop} {m0 : Nat} {σ0 : Nat → Option Loc} {ops : Array Oper} {Q : Exit → Act → World → Prop}

def lateIs (g : Seg) (R : List Rec) (is : List Nat) : List Nat := is.filter fun i => R.any fun r => r.i == i && lateR g.late r
def wrIx (R : List Rec) : Option Nat := (R.find? (·.isWr)).map (·.i)
def linkOk (g : Seg) (R : List Rec) (pend : List Nat) (mds : List Nat) (R' : List Rec) : Bool :=
  R'.all (fun r => !pend.contains r.i || R.any fun q => decide (q.i = r.i) && lateR g.late q && decide (r.x = q.x) && r.ch.isEmpty && !r.isWr && !r.isMk) && g.late.all (E.free mds) &&
  R.all fun q => !lateR g.late q || match q.o.dst with
    | some d => !(g.lets.map (·.1)).contains d && !g.keep.contains d
    | none => true
def barOk (tab : List (List Nat)) (size k j : Nat) : Bool := (List.range' k (size - k)).all fun x => (tab.getD x []).contains j
def drawnOksL (P : Program) (ops : Array Oper) (n : Nat) (tab : List (List Nat)) : List Nat → Nat → List Seg → Bool
  | _, _, [] => false
  | L, k, [g] => segOk (tabB tab) P ops n (L ++ List.range' k g.cnt) g && (k + g.cnt == ops.size)
  | L, k, g :: g' :: gs => segOk (tabB tab) P ops n (L ++ List.range' k g.cnt) g && match recs (tabB tab) P ops (g.mks.map (·.1)) g.ef n (L ++ List.range' k g.cnt) [] with
    | none => false
    | some R => match wrIx R with
      | none => (L ++ List.range' k g.cnt).all (barOk tab ops.size (k + g.cnt)) && drawnOksL P ops n tab [] (k + g.cnt) (g' :: gs)
      | some wi => barOk tab ops.size (k + g.cnt) wi && (match recs (tabB tab) P ops (g'.mks.map (·.1)) g'.ef n (lateIs g R (L ++ List.range' k g.cnt) ++ List.range' (k + g.cnt) g'.cnt) [] with
        | some R' => linkOk g R (lateIs g R (L ++ List.range' k g.cnt)) (g'.mks.map (·.1)) R'
        | none => false) && drawnOksL P ops n tab (lateIs g R (L ++ List.range' k g.cnt)) (k + g.cnt) (g' :: gs)
def drawnOkL (P : Program) (ops : Array Oper) (n : Nat) (gs : List Seg) : Bool := drawnOksL P ops n (tabOf gs) [] 0 gs && tabOk ops.toList (tabOf gs)

theorem bridge {B : Nat → Nat → Bool} {is is' : List Nat} {g g' : Seg} {R R' : List Rec} {s s1 s' s1' s'' : S} {T T' : Tr} {news news' : List Blk} {l l' : List (Nat × V)} {D : Nat → Prop} {a : Act} {w : World} {F : Nat → Prop} {σ : Nat → Option Loc}
    (h : Full (pieceOf P K ops B n R g s s1 T X base w0 F0 m0 σ0) is g s' news l) (h' : Full (pieceOf P K ops B n R' g' s' s1' T' X base w0 F0 m0 σ0) is' g' s'' news' l')
    (hsame : ∀ e ∈ g.late, ev K s' e = ev K s1 e)
    (hlink : ∀ r ∈ R', D r.i → ∃ q ∈ R, q.i = r.i ∧ lateR g.late q = true ∧ r.x = q.x ∧ r.ch = [] ∧ r.isWr = false ∧ r.isMk = false)
    (hfree : ∀ e ∈ g.late, e.free (g'.mks.map (·.1)) = true)
    (hsl : ∀ q ∈ R, lateR g.late q = true → ∀ d, q.o.dst = some d → look s'.rho d = none)
    (hW : Wrt (pieceOf P K ops B n R g s s1 T X base w0 F0 m0 σ0) g s' D a w F σ) : Inv (pieceOf P K ops B n R' g' s' s1' T' X base w0 F0 m0 σ0) D a w F σ := by
  have hnx : s'.nx ≤ s1'.nx := h'.nx
  have oper : ∀ r ∈ R', ∀ q ∈ R, q.i = r.i → q.o = r.o := by
    intro r hr q hq he
    have h1 := (h'.ok.good.split hr)
    have h2 := (h.ok.good.split hq)
    obtain ⟨_, _, _, g1⟩ := h1
    obtain ⟨_, _, _, g2⟩ := h2
    cases g1 with
    | cons _ _ _ e1 _ _ _ =>
      cases g2 with
      | cons _ _ _ e2 _ _ _ =>
        have e1' : ops[r.i]? = some r.o := e1
        have e2' : ops[q.i]? = some q.o := e2
        rw [he, e1'] at e2'
        exact (Option.some.inj e2').symm
  have nomk : ∀ r ∈ R', D r.i → ∀ d, r.o.dst = some d → d ∉ g'.mks.map (·.1) := by
    intro r hr hD d hd hm
    obtain ⟨r2, hr2, hd2, hm2⟩ := h'.ok.covers d hm
    obtain ⟨_, _, _, _, _, _, _, hmk⟩ := hlink r hr hD
    by_cases hri : r2.i = r.i
    · obtain rfl := h'.ok.good.inj r2 hr2 r hr hri
      rw [hmk] at hm2; cases hm2
    · exact absurd hd (dst_ne h'.ok hr2 hr hri hd2)
  refine ⟨⟨hW.heap.blk, hW.heap.inj, fun b l hb => ?_, hW.heap.fro⟩, hW.glob, hW.le, hW.frame, hW.frz, hW.size, hW.dfr, fun t v hv hn => ?_, fun r hr hD d hd hwr => ?_, fun d m v n0 nw hT ⟨r, hr, hD, hd⟩ => ?_, fun d m v n0 nw hT hn b h1 h2 => ?_, hW.stab, hW.sub⟩
  · obtain ⟨o1, o2⟩ := hW.heap.own b l hb
    exact ⟨show b < s1'.nx by omega, o2⟩
  · refine hW.rho t v hv fun q hq hD hd => ?_
    have := hsl q hq (hW.rest q hq hD) t hd
    have hv' : look s'.rho t = some v := hv
    rw [this] at hv'; cases hv'
  · obtain ⟨q, hq, hqi, hql, hx, hch, _, _⟩ := hlink r hr hD
    have ho := oper r hr q hq hqi
    refine ⟨fun _ v hv => ?_, fun hnw => absurd (by rw [hch]; exact fun p hp => by simp at hp) hnw⟩
    obtain ⟨e, hk, hqx, hel, _⟩ := late_parts hql
    obtain ⟨val, hv1, hv2, _⟩ := h.ended.late e hel _ _ h.ended.mks
    have e1 : ev K s1' e = ev K s' e := by
      have hh : s1'.heap = s'.heap := h'.ok.s1
      obtain ⟨ρ1, H1, n1, u1⟩ := s1'
      obtain ⟨ρ2, H2, n2, u2⟩ := s'
      simp only at hh
      subst hh
      exact ev_free K ρ2 ρ1 H1 n2 n1 u2 u1 (fun t ht => h'.ok.old t ht) e (hfree e hel)
    have hv' : ev K s1' r.x = some v := hv
    rw [hx, hqx, e1, hsame e hel] at hv'
    have hv2' : ev K s1 e = some val := hv2
    rw [hv2'] at hv'
    obtain rfl := Option.some.inj hv'
    exact hW.ldone q hq (by rw [hqi]; exact hD) hql d (by rw [ho]; exact hd) val (by rw [hqx]; exact hv1)
  · exact absurd ((h'.ok.mds d).2 ⟨m, v, n0, nw, hT⟩) (nomk r hr hD d hd)
  · have h0 : s'.nx ≤ n0 := (h'.ok.evm d m v n0 nw hT).2.1
    cases hb : σ b with
    | none => rfl
    | some l =>
      have := (hW.heap.own b l hb).1
      omega

abbrev Li (listed : Array Bool) : Nat → Prop := fun i => listed.getD i false = true

theorem any_phase0 {tab : List (List Nat)} (ht : Tab ops tab) (is es : List Nat) (St : (Nat → Prop) → Act → World → Prop) (dom : (Nat → Prop) → Prop)
    (his : ∀ i ∈ is, i < ops.size) (hdom : ∀ D i, dom D → i ∈ is → dom (plus D i))
    (hin : ∀ D i, dom D → ¬ (∀ j ∈ es, D j) → i < ops.size → ¬ D i → (∀ j, tabB tab j i = true → D j) → i ∈ is) (hes : ∀ j ∈ es, j < ops.size)
    (hstep : ∀ (D : Nat → Prop) (a : Act) (w : World) (i : Nat) (Kn : Act → World → Prop), i ∈ is → ¬ D i → (∀ q, q < ops.size → D q → ∀ p, tabB tab p q = true → D p) → (∀ q, tabB tab q i = true → D q) → St D a w → (∀ a' w', St (plus D i) a' w' → Kn a' w') → wpOp P ops Q i Kn a w)
    (hrest : ∀ (fuel : Nat) (listed : Array Bool) (a : Act) (w : World), listed.size = ops.size → unlisted listed ops.size ≤ fuel → dom (Li listed) → (∀ i, i < ops.size → Li listed i → ∀ j, tabB tab j i = true → Li listed j) → (∀ j ∈ es, Li listed j) → St (Li listed) a w → wpAny P .any ops Q fuel listed a w) :
    ∀ (fuel : Nat) (listed : Array Bool) (a : Act) (w : World), listed.size = ops.size → unlisted listed ops.size ≤ fuel → dom (Li listed) → (∀ i, i < ops.size → Li listed i → ∀ j, tabB tab j i = true → Li listed j) → St (Li listed) a w → wpAny P .any ops Q fuel listed a w := by
  intro fuel
  induction fuel with
  | zero =>
    intro listed a w hsz hfuel hd hdown hs
    have hall : ∀ i, i < ops.size → Li listed i := by
      intro i hi
      cases hl : listed.getD i false with
      | true => exact hl
      | false =>
        have hm : i ∈ (List.range ops.size).filter fun i => !listed.getD i true := by
          simp only [List.mem_filter, List.mem_range, Bool.not_eq_true']
          exact ⟨hi, by rw [dd_eq listed i hsz hi]; exact hl⟩
        have : 0 < unlisted listed ops.size := List.length_pos_of_mem hm
        omega
    exact hrest 0 listed a w hsz hfuel hd hdown (fun j hj => hall j (hes j hj)) hs
  | succ fuel ih =>
    intro listed a w hsz hfuel hd hdown hs
    by_cases hall : ∀ j ∈ es, Li listed j
    · exact hrest (fuel + 1) listed a w hsz hfuel hd hdown hall hs
    · refine ⟨fun hr => absurd (fun j hj => noready ht listed hsz hr j (hes j hj)) hall, fun i hi => ?_⟩
      obtain ⟨h1, h2, o, ho, h3⟩ := mem_ready.1 hi
      rw [dd_eq listed i hsz h1] at h2
      have hpre : ∀ j, tabB tab j i = true → Li listed j := by
        intro j hj
        simp only [tabB, List.contains_eq_mem, decide_eq_true_eq] at hj
        obtain ⟨e, he, h4⟩ := ht.clo i o ho j hj
        rcases h4 with rfl | h4
        · exact h3 _ he
        · exact hdown e (by have := ht.lt i o ho e he; omega) (h3 e he) j (by simpa [tabB] using h4)
      have hnl : ¬ Li listed i := by show ¬ (listed.getD i false = true); rw [h2]; simp
      have hmi : i ∈ is := hin _ i hd hall h1 hnl hpre
      have hlt : i < listed.size := by omega
      have hset : Li (listed.setIfInBounds i true) = plus (Li listed) i := by
        funext x
        show ((listed.setIfInBounds i true).getD x false = true) = _
        rw [getD_set listed i x hlt]
        simp only [plus, Li, eq_iff_iff]
        by_cases hx : x = i <;> simp [hx]
      exact hstep _ a w i (wpAny P .any ops Q fuel (listed.setIfInBounds i true)) hmi hnl (fun q hq hqD p hpq => hdown q hq hqD p hpq) hpre hs (fun a' w' hs' => by
          refine ih _ a' w' (by simpa using hsz) ?_ (by rw [hset]; exact hdom _ i hd hmi) ?_ (by rw [hset]; exact hs')
          · have : unlisted (listed.setIfInBounds i true) ops.size < unlisted listed ops.size := by
              unfold unlisted
              have hsub : ((List.range ops.size).filter fun x => !(listed.setIfInBounds i true).getD x true) = ((List.range ops.size).filter fun x => !listed.getD x true).filter fun x => decide (x ≠ i) := by
                rw [List.filter_filter]
                refine List.filter_congr fun x _ => ?_
                rw [getD_set listed i x hlt]
                by_cases hx : x = i
                · simp [hx]
                · simp [hx]
              rw [hsub]
              have hm : i ∈ (List.range ops.size).filter fun i => !listed.getD i true := by
                simp only [List.mem_filter, List.mem_range, Bool.not_eq_true']
                exact ⟨h1, by rw [dd_eq listed i hsz h1]; exact h2⟩
              exact List.length_filter_lt_length_iff_exists.2 ⟨i, hm, by simp⟩
            omega
          · intro x hx hxl j hj
            rw [hset] at hxl ⊢
            rcases hxl with hxl | rfl
            · exact .inl (hdown x hx hxl j hj)
            · exact .inl (hpre j hj))

theorem any_none {listed : Array Bool} (hsz : listed.size = ops.size) (hall : ∀ i, i < ops.size → Li listed i) {fuel : Nat} {a : Act} {w : World} (hQ : Q .normal a w) : wpAny P .any ops Q fuel listed a w := by
  have hr : Region.ready .any ops listed = [] := by
    cases hr : Region.ready .any ops listed with
    | nil => rfl
    | cons i t =>
      have : i ∈ Region.ready .any ops listed := by rw [hr]; simp
      obtain ⟨h1, h2, _⟩ := mem_ready.1 this
      rw [dd_eq listed i hsz h1] at h2
      have := hall i h1
      simp only [Li] at this
      rw [this] at h2
      cases h2
  cases fuel with
  | zero => exact ⟨hr, hQ⟩
  | succ fuel => exact ⟨fun _ => hQ, fun i hi => by rw [hr] at hi; simp at hi⟩

theorem le_drawnL {tab : List (List Nat)} : ∀ (gs : List Seg) (L : List Nat) (k : Nat), drawnOksL P ops n tab L k gs = true → k ≤ ops.size
  | [], _, _, h => by simp [drawnOksL] at h
  | [g], L, k, h => by
    simp only [drawnOksL, Bool.and_eq_true, beq_iff_eq] at h
    omega
  | g :: g' :: gs, L, k, h => by
    simp only [drawnOksL, Bool.and_eq_true] at h
    obtain ⟨_, h⟩ := h
    split at h
    · cases h
    · split at h
      · simp only [Bool.and_eq_true] at h
        have := le_drawnL (g' :: gs) _ _ h.2
        omega
      · simp only [Bool.and_eq_true] at h
        have := le_drawnL (g' :: gs) _ _ h.2
        omega

theorem bar_of {tab : List (List Nat)} {size k j i : Nat} (h : barOk tab size k j = true) (h1 : k ≤ i) (h2 : i < size) : tabB tab j i = true := by
  simp only [barOk, List.all_eq_true] at h
  exact h i (by rw [List.mem_range'_1]; omega)
theorem wrIx_some {R : List Rec} {wi : Nat} (h : wrIx R = some wi) : ∃ r ∈ R, r.isWr = true ∧ r.i = wi := by
  simp only [wrIx, Option.map_eq_some_iff] at h
  obtain ⟨r, hr, rfl⟩ := h
  exact ⟨r, List.mem_of_find?_eq_some hr, List.find?_some hr, rfl⟩

theorem any_opsL (hK : K.Sound P) {tab : List (List Nat)} (ht : Tab ops tab) (s' : S) (hQ : ∀ a w F σ, StRel K X base w0 F0 m0 σ0 n s' a w F σ → Q .normal a w) : ∀ (gs : List Seg) (L : List Nat) (k : Nat) (s : S), drawnOksL P ops n tab L k gs = true → evSegsL K s gs = some s' →
    (∀ j ∈ L, j < k) → (∀ b blk, look s.heap b = some blk → b < s.nx) → m0 ≤ s.nx → (∀ b k, X b k → b < m0) →
    ∀ (fuel : Nat) (listed : Array Bool) (a : Act) (w : World), listed.size = ops.size → unlisted listed ops.size ≤ fuel → (∀ i, i < k → i ∉ L → Li listed i) → (∀ i, k ≤ i → ¬ Li listed i) → (∀ i, i < ops.size → Li listed i → ∀ j, tabB tab j i = true → Li listed j) →
      (∀ g gs', gs = g :: gs' → ∀ R s1 T s2 news l, Full (pieceOf P K ops (tabB tab) n R g s s1 T X base w0 F0 m0 σ0) (L ++ List.range' k g.cnt) g s2 news l → Stage (pieceOf P K ops (tabB tab) n R g s s1 T X base w0 F0 m0 σ0) g s2 (Li listed) a w) →
      wpAny P .any ops Q fuel listed a w
  | [], _, _, _, hok, _, _, _, _, _ => by simp [drawnOksL] at hok
  | [g], L, k, s, hok, hev, hL, hdm, hnm, hxm => by
    intro fuel listed a w hsz hfuel hlo hhi hdown hst
    simp only [drawnOksL, Bool.and_eq_true, beq_iff_eq] at hok
    obtain ⟨hok1, hsize⟩ := hok
    simp only [evSegsL] at hev
    cases hg : evSeg K s g with
    | none => simp [hg] at hev
    | some s2 =>
      simp only [hg, true_or, if_true, Option.some.injEq] at hev
      subst hev
      obtain ⟨R, s1, T, news, l, hf⟩ := full_of (X := X) (base := base) (w0 := w0) (F0 := F0) (m0 := m0) (σ0 := σ0) hok1 hK hg hdm hnm hxm
      have hmem : ∀ q ∈ R, q.i ∈ L ++ List.range' k g.cnt := fun q hq => (recs_mem hf.seg q.i).1 ⟨q, hq, rfl⟩
      have hlt : ∀ i ∈ L ++ List.range' k g.cnt, i < ops.size := fun i hi => by
        rcases List.mem_append.1 hi with h | h
        · have := hL i h; omega
        · rw [List.mem_range'_1] at h; omega
      refine any_phase0 ht (L ++ List.range' k g.cnt) (L ++ List.range' k g.cnt) (Stage (pieceOf P K ops (tabB tab) n R g s s1 T X base w0 F0 m0 σ0) g s2) (fun D => ∀ i, i < k → i ∉ L → D i) hlt (fun D i hd _ j hj hjL => .inl (hd j hj hjL))
        (fun D i hd _ hi hD _ => ?_) hlt (fun D a w i Kn hi hD hdn hpre hs hKn => ?_) (fun fuel listed a w q1 q2 q3 q4 q5 hs => ?_) fuel listed a w hsz hfuel hlo hdown (hst g [] rfl R s1 T s2 news l hf)
      · rcases Nat.lt_or_ge i k with h | h
        · by_cases hiL : i ∈ L
          · exact List.mem_append_left _ hiL
          · exact absurd (hd i h hiL) hD
        · exact List.mem_append_right _ (by rw [List.mem_range'_1]; omega)
      · obtain ⟨r, hr, rfl⟩ := (recs_mem hf.seg i).2 hi
        exact stage_step hf hs hr hD (fun q hq hqD p hp hpq => hdn q.i (hlt _ (hmem q hq)) hqD p.i hpq) (fun q hq hqr => hpre q.i hqr) hKn
      · obtain ⟨F, σ, hst2⟩ := stage_end hf hs (fun r hr => q5 r.i (hmem r hr))
        refine any_none q1 (fun i hi => ?_) (hQ a w F σ hst2)
        by_cases h : i ∈ L ++ List.range' k g.cnt
        · exact q5 i h
        · refine q3 i ?_ (fun hiL => h (List.mem_append_left _ hiL))
          rcases Nat.lt_or_ge i k with h2 | h2
          · exact h2
          · exact absurd (List.mem_append_right _ (by rw [List.mem_range'_1]; omega)) h
  | g :: g' :: gs, L, k, s, hok, hev, hL, hdm, hnm, hxm => by
    intro fuel listed a w hsz hfuel hlo hhi hdown hst
    simp only [drawnOksL, Bool.and_eq_true] at hok
    obtain ⟨hok1, hok⟩ := hok
    simp only [evSegsL] at hev
    cases hg : evSeg K s g with
    | none => simp [hg] at hev
    | some s2 =>
      simp only [hg, reduceCtorEq, false_or] at hev
      split at hev
      case isFalse => cases hev
      rename_i hsame
      obtain ⟨R, s1, T, news, l, hf⟩ := full_of (X := X) (base := base) (w0 := w0) (F0 := F0) (m0 := m0) (σ0 := σ0) hok1 hK hg hdm hnm hxm
      have hrec : recs (tabB tab) P ops (g.mks.map (·.1)) g.ef n (L ++ List.range' k g.cnt) [] = some R := hf.seg.recs
      rw [hrec] at hok
      simp only at hok
      have hmem : ∀ q ∈ R, q.i ∈ L ++ List.range' k g.cnt := fun q hq => (recs_mem hf.seg q.i).1 ⟨q, hq, rfl⟩
      have hkc : k + g.cnt ≤ ops.size := by
        split at hok
        · simp only [Bool.and_eq_true] at hok
          exact le_drawnL _ _ _ hok.2
        · simp only [Bool.and_eq_true] at hok
          exact le_drawnL _ _ _ hok.2
      have hlt0 : ∀ i ∈ L ++ List.range' k g.cnt, i < k + g.cnt := fun i hi => by
        rcases List.mem_append.1 hi with h | h
        · have := hL i h; omega
        · rw [List.mem_range'_1] at h; omega
      have hlt : ∀ i ∈ L ++ List.range' k g.cnt, i < ops.size := fun i hi => Nat.lt_of_lt_of_le (hlt0 i hi) hkc
      obtain ⟨hdm2, hnm2⟩ : (∀ b blk, look s2.heap b = some blk → b < s2.nx) ∧ s.nx ≤ s2.nx := by
        have hd1 := all_dom hf
        have hn1 := hf.nx
        rcases hf.ended.wr with ⟨_, he⟩ | ⟨d, wr, hw, _, he⟩ | ⟨d, wr, H, v, p, nx, hw, _, hev', he⟩
        · subst he; exact ⟨hd1, hn1⟩
        · subst he; exact ⟨hd1, hn1⟩
        · subst he
          obtain ⟨h1, h2⟩ := evWr_dom hev' hd1
          exact ⟨fun b blk hb => by obtain ⟨y, hy⟩ := look_loseH _ _ _ _ hb; exact h1 b y hy, Nat.le_trans hn1 h2⟩
      have hstep : ∀ (D : Nat → Prop) (a : Act) (w : World) (i : Nat) (Kn : Act → World → Prop), i ∈ L ++ List.range' k g.cnt → ¬ D i → (∀ q, q < ops.size → D q → ∀ p, tabB tab p q = true → D p) → (∀ q, tabB tab q i = true → D q) →
          Stage (pieceOf P K ops (tabB tab) n R g s s1 T X base w0 F0 m0 σ0) g s2 D a w → (∀ a' w', Stage (pieceOf P K ops (tabB tab) n R g s s1 T X base w0 F0 m0 σ0) g s2 (plus D i) a' w' → Kn a' w') → wpOp P ops Q i Kn a w := fun D a w i Kn hi hD hdn hpre hs hKn => by
        obtain ⟨r, hr, rfl⟩ := (recs_mem hf.seg i).2 hi
        exact stage_step hf hs hr hD (fun q hq hqD p hp hpq => hdn q.i (hlt _ (hmem q hq)) hqD p.i hpq) (fun q hq hqr => hpre q.i hqr) hKn
      have hdom : ∀ (D : Nat → Prop) i, ((∀ i, i < k → i ∉ L → D i) ∧ ∀ i, k + g.cnt ≤ i → ¬ D i) → i ∈ L ++ List.range' k g.cnt → (∀ j, j < k → j ∉ L → plus D i j) ∧ ∀ j, k + g.cnt ≤ j → ¬ plus D i j := fun D i hd hi => ⟨fun j hj hjL => .inl (hd.1 j hj hjL), fun j hj => by
        rintro (h | rfl)
        · exact hd.2 j hj h
        · have := hlt0 _ hi; omega⟩
      have hinn : ∀ (D : Nat → Prop) i, ((∀ i, i < k → i ∉ L → D i) ∧ ∀ i, k + g.cnt ≤ i → ¬ D i) → ¬ D i → i < k + g.cnt → i ∈ L ++ List.range' k g.cnt := fun D i hd hD hi => by
        rcases Nat.lt_or_ge i k with h | h
        · by_cases hiL : i ∈ L
          · exact List.mem_append_left _ hiL
          · exact absurd (hd.1 i h hiL) hD
        · exact List.mem_append_right _ (by rw [List.mem_range'_1]; omega)
      have h0 : (∀ i, i < k → i ∉ L → Li listed i) ∧ ∀ i, k + g.cnt ≤ i → ¬ Li listed i := ⟨hlo, fun i hi => hhi i (by omega)⟩
      cases hwi : wrIx R with
      | none =>
        simp only [hwi, Bool.and_eq_true, List.all_eq_true] at hok
        obtain ⟨hbar, hok2⟩ := hok
        refine any_phase0 ht (L ++ List.range' k g.cnt) (L ++ List.range' k g.cnt) (Stage (pieceOf P K ops (tabB tab) n R g s s1 T X base w0 F0 m0 σ0) g s2) (fun D => (∀ i, i < k → i ∉ L → D i) ∧ ∀ i, k + g.cnt ≤ i → ¬ D i) hlt hdom
          (fun D i hd hne hi hD hpre => ?_) hlt hstep (fun fuel listed a w q1 q2 q3 q4 q5 hs => ?_) fuel listed a w hsz hfuel h0 hdown (hst g _ rfl R s1 T s2 news l hf)
        · rcases Nat.lt_or_ge i (k + g.cnt) with h | h
          · exact hinn D i hd hD h
          · exact absurd (fun j hj => hpre j (bar_of (hbar j hj) h hi)) hne
        · obtain ⟨F, σ, hst2⟩ := stage_end hf hs (fun r hr => q5 r.i (hmem r hr))
          refine any_opsL hK ht s' hQ (g' :: gs) [] (k + g.cnt) s2 hok2 hev (fun j hj => by simp at hj) hdm2 (Nat.le_trans hnm hnm2) hxm fuel listed a w q1 q2 (fun i hi _ => ?_) q3.2 q4 (fun g1 gs1 he R' s1' T' s3 news' l' hf' => ?_)
          · by_cases h : i ∈ L ++ List.range' k g.cnt
            · exact q5 i h
            · exact Classical.byContradiction fun hD => h (hinn _ i q3 hD hi)
          · refine (stage_start (P := P) (ops := ops) (B := tabB tab) (R := R') (s' := s3) hf'.traced hst2).congr (fun r hr => ?_)
            have hri := (recs_mem hf'.seg r.i).1 ⟨r, hr, rfl⟩
            rw [List.nil_append, List.mem_range'_1] at hri
            exact ⟨fun h => h.elim, fun h => q3.2 r.i hri.1 h⟩
      | some wi =>
        simp only [hwi, Bool.and_eq_true] at hok
        obtain ⟨⟨hbar, hlk⟩, hok2⟩ := hok
        obtain ⟨rw0, hrw, hrww, hrwi⟩ := wrIx_some hwi
        refine any_phase0 ht (L ++ List.range' k g.cnt) [wi] (Stage (pieceOf P K ops (tabB tab) n R g s s1 T X base w0 F0 m0 σ0) g s2) (fun D => (∀ i, i < k → i ∉ L → D i) ∧ ∀ i, k + g.cnt ≤ i → ¬ D i) hlt hdom
          (fun D i hd hne hi hD hpre => ?_) (fun j hj => ?_) hstep (fun fuel listed a w q1 q2 q3 q4 q5 hs => ?_) fuel listed a w hsz hfuel h0 hdown (hst g _ rfl R s1 T s2 news l hf)
        · rcases Nat.lt_or_ge i (k + g.cnt) with h | h
          · exact hinn D i hd hD h
          · refine absurd (fun j hj => ?_) hne
            obtain rfl : j = wi := by simpa using hj
            exact hpre j (bar_of hbar h hi)
        · obtain rfl : j = wi := by simpa using hj
          rw [← hrwi]
          exact hlt _ (hmem rw0 hrw)
        · have hwD : Li listed wi := q5 wi (by simp)
          rcases hs with ⟨hno, _⟩ | ⟨_, F, σ, hW⟩
          · have := hno rw0 hrw (by rw [hrwi]; exact hwD)
            rw [hrww] at this; cases this
          · refine any_opsL hK ht s' hQ (g' :: gs) (lateIs g R (L ++ List.range' k g.cnt)) (k + g.cnt) s2 hok2 hev (fun j hj => hlt0 j (List.mem_filter.1 hj).1) hdm2 (Nat.le_trans hnm hnm2) hxm fuel listed a w q1 q2 (fun i hi hnp => ?_) q3.2 q4 (fun g1 gs1 he R' s1' T' s3 news' l' hf' => ?_)
            · refine Classical.byContradiction fun hD => ?_
              have hmi := hinn _ i q3 hD hi
              obtain ⟨r, hr, rfl⟩ := (recs_mem hf.seg i).2 hmi
              have hl := hW.rest r hr hD
              refine hnp (List.mem_filter.2 ⟨hmi, ?_⟩)
              simp only [List.any_eq_true]
              exact ⟨r, hr, by simp [hl]⟩
            · obtain ⟨rfl, rfl⟩ := List.cons.inj he
              have hrec' : recs (tabB tab) P ops (g'.mks.map (·.1)) g'.ef n (lateIs g R (L ++ List.range' k g.cnt) ++ List.range' (k + g.cnt) g'.cnt) [] = some R' := hf'.seg.recs
              rw [hrec'] at hlk
              simp only [linkOk, Bool.and_eq_true, List.all_eq_true] at hlk
              obtain ⟨⟨hl1, hl2⟩, hl3⟩ := hlk
              have hpend : ∀ r ∈ R', Li listed r.i → r.i ∈ lateIs g R (L ++ List.range' k g.cnt) := fun r hr hD => by
                rcases List.mem_append.1 ((recs_mem hf'.seg r.i).1 ⟨r, hr, rfl⟩) with h | h
                · exact h
                · rw [List.mem_range'_1] at h
                  exact absurd hD (q3.2 r.i h.1)
              have hlink : ∀ r ∈ R', Li listed r.i → ∃ q ∈ R, q.i = r.i ∧ lateR g.late q = true ∧ r.x = q.x ∧ r.ch = [] ∧ r.isWr = false ∧ r.isMk = false := fun r hr hD => by
                have := hl1 r hr
                simp only [Bool.or_eq_true, Bool.not_eq_true', List.any_eq_true, Bool.and_eq_true, decide_eq_true_eq, List.isEmpty_iff] at this
                rcases this with h | ⟨q, hq, ⟨⟨⟨⟨h1, h2⟩, h3⟩, h4⟩, h5⟩, h6⟩
                · have h' := hpend r hr hD
                  rw [List.contains_eq_mem, decide_eq_false_iff_not] at h
                  exact absurd h' h
                · exact ⟨q, hq, h1, h2, h3, h4, h5, h6⟩
              refine .inl ⟨fun r hr hD => (hlink r hr hD).choose_spec.2.2.2.2.2.1, F, σ, bridge hf hf' (fun e he' => (hsame.resolve_left (by simp)) e he' _ _ hf.ended.mks) hlink hl2 (fun q hq hql d hd => ?_) hW⟩
              -- the slot of a late one is not known behind the piece
              have h3 := hl3 q hq
              simp only [hql, Bool.not_true, Bool.false_or, hd, Bool.and_eq_true, Bool.not_eq_true', List.contains_eq_mem, decide_eq_false_iff_not] at h3
              obtain ⟨h4, h5⟩ := h3
              have hnone : look (l ++ restrict s1.rho g.keep) d = none := by
                cases hh : look (l ++ restrict s1.rho g.keep) d with
                | none => rfl
                | some u =>
                  rw [look_append] at hh
                  cases hll : look l d with
                  | some u2 =>
                    obtain ⟨e2, he2, _⟩ := (evLets_get _ _ _ _ hf.ended.lets).1 d u2 hll
                    exact absurd (List.mem_map.2 ⟨_, he2, rfl⟩) h4
                  | none =>
                    rw [hll] at hh
                    exact absurd (look_restrict _ _ _ _ hh).1 h5
              have hlose : ∀ p : Lost, look (lose p (l ++ restrict s1.rho g.keep)) d = none := fun p => by
                cases hh : look (lose p (l ++ restrict s1.rho g.keep)) d with
                | none => rfl
                | some u =>
                  obtain ⟨y, hy, _⟩ := look_lose _ _ _ _ hh
                  rw [hnone] at hy; cases hy
              rcases hf.ended.wr with ⟨_, he2⟩ | ⟨d0, wr, hw0, _, he2⟩ | ⟨d0, wr, H, v, p, nx, hw0, _, _, he2⟩
              · subst he2; exact hnone
              · subst he2; exact hnone
              · subst he2
                cases d0 with
                | none => exact hlose p
                | some d0 =>
                  simp only [look]
                  split
                  · rename_i hdd
                    subst hdd
                    rcases hf.seg.wr with ⟨_, hn0⟩ | ⟨r0, x0, hr0, hk0, hg0, _⟩
                    · rw [hn0] at hw0; cases hw0
                    · rw [hg0] at hw0
                      simp only [Option.some.injEq, Prod.mk.injEq] at hw0
                      have hqr : q.i ≠ r0.i := fun e => by
                        obtain rfl := hf.ok.good.inj q hq r0 hr0 e
                        obtain ⟨_, hkk, _⟩ := late_parts hql
                        rw [hk0] at hkk; cases hkk
                      exact absurd hw0.1 (dst_ne hf.ok hq hr0 hqr hd)
                  · exact hlose p

theorem drawn_regionL {id : Nat} {gs : List Seg} {s s' : S} {a : Act} {w : World} {F : Nat → Prop} {σ : Nat → Option Loc} (hm : P.follows .mixedOrders = true) (hK : K.Sound P) (hok : drawnOkL P ops n gs = true) (hev : evSegsL K s gs = some s') (hst : StRel K X base w0 F0 m0 σ0 n s a w F σ)
    (hQ : ∀ a w F σ, StRel K X base w0 F0 m0 σ0 n s' a w F σ → Q .normal a w) : (Code.region id ops true).wp P Q a w := by
  simp only [drawnOkL, Bool.and_eq_true] at hok
  refine wp_region_any hm ?_
  have hno : ∀ i, (Array.replicate ops.size false).getD i false = false := by
    intro i
    simp only [Array.getD_eq_getD_getElem?, Array.getElem?_replicate]
    split <;> rfl
  refine any_opsL hK (tab_of hok.2) s' hQ gs [] 0 s hok.1 hev (fun j hj => by simp at hj) hst.dom hst.nxm hst.xm ops.size _ a _ (by simp) ?_ (fun i hi => by omega) (fun i _ h => by simp only [Li] at h; rw [hno] at h; cases h) (fun i _ h => by simp only [Li] at h; rw [hno] at h; cases h) (fun g gs' he R s1 T s2 news l hf => ?_)
  · unfold unlisted
    refine Nat.le_trans (List.length_filter_le _ _) ?_
    simp
  · refine (stage_start (P := P) (ops := ops) (B := tabB (tabOf gs)) (R := R) (s' := s2) hf.traced (hst.drawn _)).congr (fun r hr => ?_)
    exact ⟨fun h => h.elim, fun h => by simp only [Li] at h; rw [hno] at h; cases h⟩
end Go.Vm
end

section
namespace Go.Vm
open Go.RowKit
variable {P : Program} {K : Cx} {n : Nat} {X : Nat → Nat → Prop} {base : Nat} {w0 : World} {F0 : Nat → Prop} {m0 : Nat} {σ0 : Nat → Option Loc} {ops : Array Oper} {Q : Exit → Act → World → Prop}

def opOnto (π : List Nat) (o : Oper) : Oper := { o with after := o.after.map fun e => { e with on := π.idxOf e.on } }
def permOps (π : List Nat) (ops : Array Oper) : Array Oper := (π.map fun i => opOnto π ((ops[i]?).getD default)).toArray
def permOk (π : List Nat) (ops : Array Oper) : Bool := decide (π.length = ops.size) && decide (π.Nodup) && π.all (fun i => decide (i < ops.size)) && (List.range ops.size).all (fun i => π.contains i) && ops.toList.all fun o => o.guard.isNone

theorem edges_onto (π : List Nat) (o : Oper) : edgesOf (opOnto π o) = (edgesOf o).map π.idxOf := by
  unfold edgesOf opOnto
  simp only [Array.toList_map]
  induction o.after.toList with
  | nil => rfl
  | cons e l ih =>
    simp only [List.map_cons, List.filter_cons]
    have hb : Region.binds .any ({ e with on := π.idxOf e.on } : Edge) = Region.binds .any e := rfl
    rw [hb]
    split
    · simp only [List.map_cons, ih]
    · exact ih
theorem onto_wp (π : List Nat) (o : Oper) (a : Act) (w : World) (Kn : Act → World → Prop) : (opOnto π o).wp P a w Kn Q ↔ o.wp P a w Kn Q := Iff.rfl
structure Perm (π : List Nat) (ops : Array Oper) : Prop where
  len : π.length = ops.size
  nd : π.Nodup
  mem : ∀ i, i ∈ π ↔ i < ops.size
  gd : ∀ (i : Nat) (o : Oper), ops[i]? = some o → o.guard = none
theorem perm_of {π : List Nat} (h : permOk π ops = true) : Perm π ops := by
  simp only [permOk, Bool.and_eq_true, decide_eq_true_eq, List.all_eq_true, List.contains_eq_mem, List.mem_range, Option.isNone_iff_eq_none] at h
  obtain ⟨⟨⟨⟨h1, h2⟩, h3⟩, h4⟩, h5⟩ := h
  refine ⟨h1, h2, fun i => ⟨h3 i, fun hi => by simpa using h4 i hi⟩, fun i o ho => h5 o ?_⟩
  exact Array.mem_toList_iff.2 (Array.mem_of_getElem? ho)

theorem perm_size {π : List Nat} (h : Perm π ops) : (permOps π ops).size = ops.size := by simp [permOps, h.len]
theorem idx_lt {π : List Nat} (h : Perm π ops) {i : Nat} (hi : i < ops.size) : π.idxOf i < ops.size := by
  rw [← h.len]; exact List.idxOf_lt_length_of_mem ((h.mem i).2 hi)
theorem idx_ge {π : List Nat} (h : Perm π ops) {i : Nat} (hi : ¬ i < ops.size) : π.idxOf i = ops.size := by
  rw [← h.len]; exact List.idxOf_eq_length (fun hm => hi ((h.mem i).1 hm))
theorem perm_get {π : List Nat} (h : Perm π ops) {i : Nat} {o : Oper} (ho : ops[i]? = some o) : (permOps π ops)[π.idxOf i]? = some (opOnto π o) := by
  have hi : i < ops.size := (Array.getElem?_eq_some_iff.1 ho).1
  have hm := (h.mem i).2 hi
  have hg : π[π.idxOf i]? = some i := by
    rw [List.getElem?_eq_getElem (List.idxOf_lt_length_of_mem hm)]
    simp
  simp only [permOps, List.getElem?_toArray, List.getElem?_map, hg, Option.map_some, ho, Option.getD_some]

theorem nodup_idxP {bs : List Nat} (hn : bs.Nodup) {i b : Nat} (h : bs[i]? = some b) : bs.idxOf b = i := by
  obtain ⟨hi, rfl⟩ := List.getElem?_eq_some_iff.1 h
  exact hn.idxOf_getElem i hi
theorem perm_ready {π : List Nat} (h : Perm π ops) {la lb : Array Bool} (ha : la.size = ops.size) (hb : lb.size = ops.size) (hl : ∀ i, la.getD i false = lb.getD (π.idxOf i) false) {i : Nat} (hi : i ∈ Region.ready .any ops la) : π.idxOf i ∈ Region.ready .any (permOps π ops) lb := by
  rw [mem_ready] at hi ⊢
  obtain ⟨h1, h2, o, h3, h4⟩ := hi
  have hk := idx_lt h h1
  refine ⟨by rw [perm_size h]; exact hk, ?_, _, perm_get h h3, ?_⟩
  · have e1 : lb.getD (π.idxOf i) true = lb.getD (π.idxOf i) false := dd_eq lb (π.idxOf i) hb hk
    rw [e1, ← hl, ← dd_eq la i ha h1]
    exact h2
  · rw [edges_onto]
    intro j hj
    obtain ⟨j0, hj0, rfl⟩ := List.mem_map.1 hj
    rw [← hl]
    exact h4 j0 hj0

theorem perm_any {π : List Nat} (h : Perm π ops) : ∀ (fuel : Nat) (la lb : Array Bool) (a : Act) (w : World), la.size = ops.size → lb.size = ops.size → (∀ i, la.getD i false = lb.getD (π.idxOf i) false) →
    wpAny P .any (permOps π ops) Q fuel lb a w → wpAny P .any ops Q fuel la a w := by
  have none_of : ∀ {la lb : Array Bool}, la.size = ops.size → lb.size = ops.size → (∀ i, la.getD i false = lb.getD (π.idxOf i) false) → Region.ready .any ops la = [] → Region.ready .any (permOps π ops) lb = [] := by
    intro la lb ha hb hl h0
    refine List.eq_nil_iff_forall_not_mem.2 fun k hk => ?_
    rw [mem_ready] at hk
    obtain ⟨k1, k2, o', k3, k4⟩ := hk
    rw [perm_size h] at k1
    have hkm : k < π.length := by rw [h.len]; exact k1
    have hik : π.idxOf π[k] = k := nodup_idxP h.nd (List.getElem?_eq_getElem hkm)
    have hi : π[k] < ops.size := (h.mem _).1 (List.getElem_mem hkm)
    have ho := Array.getElem?_eq_getElem hi
    have hg := perm_get h ho
    rw [hik, k3] at hg
    obtain rfl := Option.some.inj hg
    have : π[k] ∈ Region.ready .any ops la := by
      rw [mem_ready]
      refine ⟨hi, ?_, _, ho, fun j hj => ?_⟩
      · rw [dd_eq la _ ha hi, hl, hik, ← dd_eq lb k hb k1]; exact k2
      · rw [hl]
        refine k4 _ ?_
        rw [edges_onto]
        exact List.mem_map.2 ⟨j, hj, rfl⟩
    rw [h0] at this
    cases this
  intro fuel
  induction fuel with
  | zero =>
    intro la lb a w ha hb hl hw
    obtain ⟨h1, h2⟩ := hw
    refine ⟨List.eq_nil_iff_forall_not_mem.2 fun i hi => ?_, h2⟩
    have := perm_ready h ha hb hl hi
    rw [h1] at this
    cases this
  | succ fuel ih =>
    intro la lb a w ha hb hl hw
    obtain ⟨h1, h2⟩ := hw
    refine ⟨fun h0 => h1 (none_of ha hb hl h0), fun i hi => ?_⟩
    have hk := h2 _ (perm_ready h ha hb hl hi)
    rw [mem_ready] at hi
    obtain ⟨q1, _, o, q3, _⟩ := hi
    have step : ∀ a w, wpAny P .any (permOps π ops) Q fuel (lb.setIfInBounds (π.idxOf i) true) a w → wpAny P .any ops Q fuel (la.setIfInBounds i true) a w := by
      intro a w hw
      refine ih _ _ a w (by simp [ha]) (by simp [hb]) (fun j => ?_) hw
      rw [getD_set la i j (by omega) false, getD_set lb (π.idxOf i) (π.idxOf j) (by rw [hb]; exact idx_lt h q1) false, hl]
      by_cases hj : j = i
      · subst hj; simp
      · rw [if_neg hj]
        by_cases hjs : j < ops.size
        · rw [if_neg]
          intro he
          have e1 : π[π.idxOf j]'(List.idxOf_lt_length_of_mem ((h.mem j).2 hjs)) = j := by simp
          have e2 : π[π.idxOf i]'(List.idxOf_lt_length_of_mem ((h.mem i).2 q1)) = i := by simp
          apply hj
          rw [← e1, ← e2]
          congr 1
        · rw [if_neg]
          intro he
          rw [idx_ge h hjs] at he
          have := idx_lt h q1
          omega
    unfold wpOp at hk ⊢
    rw [perm_get h q3] at hk
    rw [q3]
    have hg := h.gd i o q3
    have w1 : ∀ y, Region.wanted (opOnto π o) y = true := fun y => by
      have : (opOnto π o).guard = none := hg
      simp [Region.wanted, this]
    have w2 : ∀ y, Region.wanted o y = true := fun y => by simp [Region.wanted, hg]
    simp only [w1, w2, if_true] at hk ⊢
    exact hk.imp (fun h => Oper.wp_mono step ((onto_wp π o a w _).1 h)) (fun h => h)

def drawnOkP (P : Program) (ops : Array Oper) (n : Nat) (π : List Nat) (gs : List Seg) : Bool := permOk π ops && drawnOkL P (permOps π ops) n gs
theorem drawnP_any {π : List Nat} {gs : List Seg} {s s' : S} {a : Act} {w : World} {F : Nat → Prop} {σ : Nat → Option Loc} (hK : K.Sound P) (hok : drawnOkP P ops n π gs = true) (hev : evSegsL K s gs = some s') (hst : StRel K X base w0 F0 m0 σ0 n s a w F σ)
    (hQ : ∀ a w F σ, StRel K X base w0 F0 m0 σ0 n s' a w F σ → Q .normal a w) : wpAny P .any ops Q ops.size (Array.replicate ops.size false) a { w with drawn := w.drawn + 1 } := by
  simp only [drawnOkP, drawnOkL, Bool.and_eq_true] at hok
  obtain ⟨hpm, hok⟩ := hok
  have hp := perm_of hpm
  refine perm_any hp ops.size _ (Array.replicate ops.size false) a _ (by simp) (by simp) (fun i => ?_) ?_
  · simp only [Array.getD_eq_getD_getElem?, Array.getElem?_replicate]
    split <;> split <;> rfl
  have hsz := perm_size hp
  generalize permOps π ops = ops' at hok hsz
  rw [← hsz]
  have hno : ∀ i, (Array.replicate ops'.size false).getD i false = false := by
    intro i
    simp only [Array.getD_eq_getD_getElem?, Array.getElem?_replicate]
    split <;> rfl
  refine any_opsL (ops := ops') hK (tab_of hok.2) s' hQ gs [] 0 s hok.1 hev (fun j hj => by simp at hj) hst.dom hst.nxm hst.xm ops'.size _ a _ (by simp) ?_ (fun i hi => by omega) (fun i _ h => by simp only [Li] at h; rw [hno] at h; cases h) (fun i _ h => by simp only [Li] at h; rw [hno] at h; cases h) (fun g gs' he R s1 T s2 news l hf => ?_)
  · unfold unlisted
    refine Nat.le_trans (List.length_filter_le _ _) ?_
    simp
  · refine (stage_start (P := P) (ops := ops') (B := tabB (tabOf gs)) (R := R) (s' := s2) hf.traced (hst.drawn _)).congr (fun r hr => ?_)
    exact ⟨fun h => h.elim, fun h => by simp only [Li] at h; rw [hno] at h; cases h⟩
end Go.Vm
end

section
namespace Go.Vm
open Go.RowKit

variable {P : Program} {K : Cx} {n : Nat} {X : Nat → Nat → Prop} {base : Nat} {w0 : World} {F0 : Nat → Prop} {m0 : Nat} {σ0 : Nat → Option Loc} {Q : Exit → Act → World → Prop}

def one : List Seg → Option Seg
  | [g] => some g
  | _ => none

def chk (P : Program) (m n : Nat) : C → Code → Bool
  | .stuck, _ => true
  | .skip, .skip => true
  | .reg l, .region _ ops draw => if draw then drawnOk P ops n l else textOk P ops n 0 l
  | .seq (.tidy m' _) b, c => m' == m && chk P m n b c
  | .seq (.own t _) b, c => decide (t < n) && chk P m n b c
  | .seq (.keep _) b, c => chk P m n b c
  | .seq (.frz m' _ _) b, c => (m' == m) && chk P m n b c
  | .seq (.ownc _ _ _) b, c => chk P m n b c
  | .regl l, .region _ ops draw => draw && drawnOkL P ops n l
  | .regp π l, .region _ ops draw => draw && drawnOkP P ops n π l
  | .regg m' l, .region _ ops draw => (m' == m) && if draw then drawnOkG P ops n l else textOkG P ops n 0 l
  | .seq a b, .seq x y => chk P m n a x && chk P m n b y
  | .cond e a b, .cond c x y => decide (operE P [] 0 c = some e) && chk P m n a x && chk P m n b y
  | .block id c, .block id' x => id == id' && chk P m n c x
  | .loop c, .loop x => chk P m n c x
  | .exit id, .exit id' => id == id'
  | .scope c ls, .scope x => chk P m n c x && chk P m n ls x
  | .lnil, _ => true
  | .lcons l c ls, x => (match findLabel x l with | some rest => chk P m n c rest | none => false) && chk P m n ls x
  | .label l, .label l' => l == l'
  | .goto l, .goto l' => l == l'
  | .ret, .ret => true
  | _, _ => false

def Ex.to : Ex → Exit
  | .nrm => .normal
  | .exit id => .exit id
  | .goto l => .goto l
  | .ret => .ret

def Post (K : Cx) (X : Nat → Nat → Prop) (base : Nat) (w0 : World) (F0 : Nat → Prop) (m0 : Nat) (σ0 : Nat → Option Loc) (n : Nat) (r : Ex × S) (e : Exit) (a : Act) (w : World) : Prop :=
  e = r.1.to ∧ ∃ F σ, StRel K X base w0 F0 m0 σ0 n r.2 a w F σ

theorem look_tidy (H : List (Nat × Blk)) (bs0 : List Nat) : ∀ (bs : List Nat) (k i : Nat) (x : Blk), look ((bs.zipIdx k).filterMap fun p => (look H p.1).map fun blk => (p.2, blk.ren bs0.idxOf)) i = some x → k ≤ i ∧ ∃ b x0, bs[i - k]? = some b ∧ look H b = some x0 ∧ x = x0.ren bs0.idxOf
  | [], k, i, x, h => by simp [look] at h
  | b :: bs, k, i, x, h => by
    simp only [List.zipIdx_cons, List.filterMap_cons] at h
    have rest : look ((bs.zipIdx (k + 1)).filterMap fun p => (look H p.1).map fun blk => (p.2, blk.ren bs0.idxOf)) i = some x → k ≤ i ∧ ∃ b' x0, (b :: bs)[i - k]? = some b' ∧ look H b' = some x0 ∧ x = x0.ren bs0.idxOf := by
      intro h
      obtain ⟨h1, b', x0, h2, h3, h4⟩ := look_tidy H bs0 bs (k + 1) i x h
      refine ⟨by omega, b', x0, ?_, h3, h4⟩
      have : i - k = (i - (k + 1)) + 1 := by omega
      rw [this, List.getElem?_cons_succ]
      exact h2
    cases hb : look H b with
    | none =>
      simp only [hb, Option.map_none] at h
      exact rest h
    | some x0 =>
      simp only [hb, Option.map_some, look] at h
      split at h
      · rename_i he
        subst he
        exact ⟨Nat.le_refl _, b, x0, by simp, hb, (Option.some.inj h).symm⟩
      · exact rest h

theorem StRel.tidy {s s' : S} {a : Act} {w : World} {F : Nat → Prop} {σ : Nat → Option Loc} {slots : List Nat} (ht : tidyS m0 slots s = some s') (h : StRel K X base w0 F0 m0 σ0 n s a w F σ) : ∃ σ', StRel K X base w0 F0 m0 σ0 n s' a w F σ' := by
  unfold tidyS at ht
  simp only at ht
  split at ht
  case isFalse => cases ht
  rename_i hc
  obtain rfl := Option.some.inj ht
  generalize hbs : reachB s.heap (refN s.heap + 64) [] (List.range m0 ++ refsL ((restrict s.rho slots).map (·.2))) = bs at hc
  simp only [Bool.and_eq_true, decide_eq_true_eq, List.all_eq_true] at hc
  obtain ⟨⟨⟨hnd, hpre⟩, hwi⟩, hcl⟩ := hc
  simp only [closedB, List.all_eq_true] at hcl
  have hF : ∀ b, F b → F b ∧ w.heap[b]? = w.heap[b]? := fun b hb => ⟨hb, rfl⟩
  have hσ : ∀ b l, bs.contains b = true → σ b = some l → inn bs σ (bs.idxOf b) = some l := fun b l h1 h2 => by rw [inn_idx (by simpa using h1)]; exact h2
  refine ⟨inn bs σ, ⟨fun i x hx => ?_, fun i j l l' h1 h2 he => ?_, fun i l hi => ?_, h.heap.fro⟩, h.glob, h.le, h.frame, h.frz, h.size, h.dfr, fun t v hv => ?_, fun i x hx => ?_, fun b l hb h0 hm => ?_, ?_, h.xm, h.sub⟩
  · obtain ⟨_, b, x0, h1, h2, rfl⟩ := look_tidy s.heap bs bs 0 i x hx
    rw [Nat.sub_zero] at h1
    have hσi : inn bs σ i = σ b := by unfold inn; rw [h1]
    have hb := hcl b (List.mem_of_getElem? h1)
    rw [h2] at hb
    exact (h.heap.blk b x0 h2).ren (w' := w) (F' := F) (p := bs.contains) hF (fun _ _ h => h) hσ hb (fun l hl => by rw [hσi]; exact hl) (fun hl => by rw [hσi]; exact hl) (fun _ _ => rfl)
  · obtain ⟨b, hb1, h3⟩ := inn_some h1
    obtain ⟨b', hb2, h4⟩ := inn_some h2
    obtain rfl := h.heap.inj b b' l l' h3 h4 he
    exact (List.getElem?_inj (List.getElem?_eq_some_iff.1 hb1).1 hnd).1 (hb1.trans hb2.symm)
  · obtain ⟨b, hb1, h3⟩ := inn_some hi
    obtain ⟨_, o2, o3, o4⟩ := h.heap.own b l h3
    refine ⟨(List.getElem?_eq_some_iff.1 hb1).1, o2, o3.imp id (fun hx => ?_), o4⟩
    have hbm := h.xm b _ hx
    have : bs[b]? = some b := by
      have : (bs.take m0)[b]? = some b := by rw [hpre]; simp [hbm]
      simpa [List.getElem?_take, hbm] using this
    have := (List.getElem?_inj (List.getElem?_eq_some_iff.1 hb1).1 hnd).1 (hb1.trans this.symm)
    rw [this]
    exact hx
  · simp only at hv
    rw [show ((restrict s.rho slots).map fun p => (p.1, p.2.ren bs.idxOf)) = (restrict s.rho slots).map fun (t, v) => (t, (V.ren bs.idxOf) v) from rfl, look_mapV] at hv
    simp only [Option.map_eq_some_iff] at hv
    obtain ⟨v0, h1, rfl⟩ := hv
    have hm := look_mem _ _ _ h1
    exact ((h.rho t v0 (look_restrict _ _ _ _ h1).2).ren (base' := base) (fun _ _ h => h) hσ (hwi _ hm))
  · obtain ⟨_, b, x0, h1, _⟩ := look_tidy s.heap bs bs 0 i x hx
    rw [Nat.sub_zero] at h1
    exact (List.getElem?_eq_some_iff.1 h1).1
  · have hb2 : bs[b]? = some b := by
      have : (bs.take m0)[b]? = some b := by rw [hpre]; simp [hb]
      simpa [List.getElem?_take, hb] using this
    unfold inn
    rw [hb2]
    refine h.stab b l hb h0 fun hm' => hm ?_
    simp only [List.mem_filter, List.mem_range]
    exact ⟨hb, by simpa using hm'⟩
  · have := congrArg List.length hpre
    simp only [List.length_take, List.length_range] at this
    show m0 ≤ bs.length
    omega

theorem StRel.own {s : S} {a : Act} {w : World} {F : Nat → Prop} {σ : Nat → Option Loc} {t k k' : Nat} {c : Bool} (hl : look s.rho t = some (.fs c k' [])) (h : StRel K X base w0 F0 m0 σ0 n s a w F σ) :
    StRel K X base w0 F0 m0 σ0 n ⟨put s.rho t (.bsl s.nx 0 0), (s.nx, .dat true k []) :: s.heap, s.nx + 1, s.mv⟩ a w F σ := by
  have hnone : σ s.nx = none := by
    cases hs : σ s.nx with
    | none => rfl
    | some l => have := (h.heap.own _ l hs).1; omega
  refine ⟨⟨fun b blk hb => ?_, h.heap.inj, fun b l hb => ⟨by have := (h.heap.own b l hb).1; show b < s.nx + 1; omega, (h.heap.own b l hb).2⟩, h.heap.fro⟩, h.glob, h.le, h.frame, h.frz, h.size, h.dfr, fun u v hv => ?_, fun b blk hb => ?_, h.stab, by have := h.nxm; show m0 ≤ s.nx + 1; omega, h.xm, h.sub⟩
  · simp only [look] at hb
    split at hb
    · rename_i he
      subst he
      obtain rfl := Option.some.inj hb
      exact .inl ⟨rfl, hnone⟩
    · exact h.heap.blk b blk hb
  · simp only at hv
    rw [look_put] at hv
    split at hv
    · rename_i he
      subst he
      obtain rfl := Option.some.inj hv
      have := h.rho t _ hl
      generalize a.tmps.getD t undef = u at this ⊢
      cases this with
      | fs _ ad len _ _ hd =>
        cases hd with
        | sl0 => exact .bsl0 _ _ _
        | sl b o l cap k rows g h1 => simp at h1; subst h1; exact .bsl0 _ _ _
    · exact h.rho u v hv
  · simp only [look] at hb
    split at hb
    · rename_i he; show b < s.nx + 1; omega
    · have := h.dom b blk hb; show b < s.nx + 1; omega

theorem StRel.ownc {s : S} {a : Act} {w : World} {F : Nat → Prop} {σ : Nat → Option Loc} (t j k : Nat) (h : StRel K X base w0 F0 m0 σ0 n s a w F σ) : StRel K X base w0 F0 m0 σ0 n (owncS t j k s) a w F σ := by
  unfold owncS
  split
  case h_2 => exact h
  rename_i b hb
  split
  case h_2 => exact h
  rename_i k0 row hrow
  split
  case h_2 => exact h
  rename_i c k' hj
  split
  case isFalse => exact h
  have hnone : σ s.nx = none := by
    cases hs : σ s.nx with
    | none => rfl
    | some l => have := (h.heap.own _ l hs).1; omega
  refine ⟨⟨fun i blk hi => ?_, h.heap.inj, fun b l hb => ⟨by have := (h.heap.own b l hb).1; show b < s.nx + 1; omega, (h.heap.own b l hb).2⟩, h.heap.fro⟩, h.glob, h.le, h.frame, h.frz, h.size, h.dfr, h.rho, fun i blk hi => ?_, h.stab, by have := h.nxm; show m0 ≤ s.nx + 1; omega, h.xm, h.sub⟩
  · simp only [look] at hi
    split at hi
    · rename_i he
      subst he
      obtain rfl := Option.some.inj hi
      exact .inl ⟨rfl, hnone⟩
    · rw [look_put] at hi
      split at hi
      · rename_i he
        subst he
        obtain rfl := Option.some.inj hi
        rcases h.heap.blk b _ hrow with ⟨hz, _⟩ | ⟨_, _, _, _, hmap, _⟩ | ⟨lb, cs, T, q1, q2, q3, q4, q5, q6, q7⟩
        · simp [Blk.n] at hz
        · cases hmap
        · refine .inr (.inr ⟨lb, cs, T, q1, q2, q3, q4, q5, fun i r hr => ?_, rfl⟩)
          cases i with
          | succ i => simp [Blk.row?] at hr
          | zero =>
            simp only [Blk.row?, List.getElem?_cons_zero, Option.some.injEq] at hr
            subst hr
            obtain ⟨g1, g2⟩ := q6 0 row rfl
            refine ⟨by simpa [Blk.k] using g1, fun jj x hx => ?_⟩
            by_cases hjj : j = jj
            · subst hjj
              have hlt : j < row.length := (List.getElem?_eq_some_iff.1 hj).1
              rw [List.getElem?_set_self (by simpa using hlt)] at hx
              obtain rfl := Option.some.inj hx
              obtain ⟨v, g3, g4, g5⟩ := g2 j _ hj
              refine ⟨v, g3, g4, ?_⟩
              cases g5 with
              | fs _ ad len _ _ hd =>
                cases hd with
                | sl0 => exact .bsl0 _ _ _
                | sl b o l cap k rows g h1 => simp at h1; subst h1; exact .bsl0 _ _ _
            · rw [List.getElem?_set_ne hjj] at hx
              exact g2 jj x hx
      · exact h.heap.blk i blk hi
  · simp only [look] at hi
    split at hi
    · rename_i he; show i < s.nx + 1; omega
    · rw [look_put] at hi
      split at hi
      · rename_i he; subst he; have := h.dom _ _ hrow; show b < s.nx + 1; omega
      · have := h.dom i blk hi; show i < s.nx + 1; omega

theorem wp_loop_rounds {c : Code} (J : Nat → Act → World → Prop) (h0 : ∀ a w, ¬ J 0 a w) (round : ∀ m a w, J (m + 1) a w → c.wp P (Exit.then (J m) Q) a w) {m : Nat} {a : Act} {w : World} (h : J m a w) : (Code.loop c).wp P Q a w := by
  intro b k cs
  have key : ∀ m a w, J m a w → ∃ e a' w', Q e a' w' ∧ Arrives P (lone (b.at a (.code c :: .inLoop c :: k)) cs w) b k cs e a' w' := by
    intro m
    induction m with
    | zero => intro a w h; exact absurd h (h0 a w)
    | succ m ih =>
      intro a w hI
      obtain ⟨e, a₁, w₁, hq, harr⟩ := round m a w hI b (.inLoop c :: k) cs
      cases e with
      | normal =>
        obtain ⟨e₂, a₂, w₂, hq₂, harr₂⟩ := ih a₁ w₁ hq
        exact ⟨e₂, a₂, w₂, hq₂, .of_steps (Steps.trans harr (.one step_inLoop)) harr₂⟩
      | exit id => exact ⟨_, a₁, w₁, hq, .pass (x := .inLoop c) rfl (fun _ _ => .inl (by simp)) harr⟩
      | goto l => exact ⟨_, a₁, w₁, hq, .pass (x := .inLoop c) rfl (fun _ _ => .inl (by simp)) harr⟩
      | ret => exact ⟨_, a₁, w₁, hq, .pass (x := .inLoop c) rfl (fun _ _ => .inl (by simp)) harr⟩
      | panic ch => exact ⟨_, a₁, w₁, hq, .pass (x := .inLoop c) rfl (fun _ _ => .inl (by simp)) harr⟩
      | outgrown => exact ⟨_, a₁, w₁, hq, .pass (x := .inLoop c) rfl (fun _ _ => .inl (by simp)) harr⟩
  obtain ⟨e, a', w', hq, harr⟩ := key m a w h
  exact ⟨e, a', w', hq, .of_steps (.one step_loop) harr⟩

theorem held_done {a : Act} {w : World} {F : Nat → Prop} {σ : Nat → Option Loc} {s : S} (h : StRel K X base w0 F0 m0 σ0 n s a w F σ) {x : Operand} {t : TypeId} {e : E} {r : V} (he : operE P [] t x = some e) (hr : ev K s e = some r) : RepV w F base σ (a.eval x) r := by
  have : Held P K s [] w F base σ a x := by
    cases x with
    | const v => exact held_const
    | global g => exact held_glob h.glob
    | func f => exact held_func
    | tmp t =>
      refine held_tmp fun r hr => ?_
      simp only [Env.get, look, ev] at hr
      exact h.rho t r hr
  exact this t e r he hr

def Exit.jumpR (J : Nat → Act → World → Prop) (Q : Exit → Act → World → Prop) : Exit → Act → World → Prop
  | .goto l, a, w => J l a w
  | e, a, w => Q e a w

theorem wp_scope_rounds {c : Code} (J : Nat → Nat → Act → World → Prop) (h0 : ∀ l a w, ¬ J 0 l a w) (round : ∀ m l a w, J (m + 1) l a w → ∃ rest, findLabel c l = some rest ∧ rest.wp P (Exit.jumpR (J m) Q) a w) {m : Nat} {a : Act} {w : World} (first : c.wp P (Exit.jumpR (J m) Q) a w) : (Code.scope c).wp P Q a w := by
  intro b k cs
  have key : ∀ m l rest a w, findLabel c l = some rest → J m l a w → ∃ e a' w', Q e a' w' ∧ Arrives P (lone (b.at a (.code rest :: .inScope c :: k)) cs w) b k cs e a' w' := by
    intro m
    induction m with
    | zero => intro l rest a w _ h; exact absurd h (h0 l a w)
    | succ m ih =>
      intro l rest a w hf hJ
      obtain ⟨rest', hf', hwp⟩ := round m l a w hJ
      rw [hf] at hf'
      obtain rfl := Option.some.inj hf'
      obtain ⟨e, a₁, w₁, hq, harr⟩ := hwp b (.inScope c :: k) cs
      cases e with
      | normal => exact ⟨.normal, a₁, w₁, hq, Steps.trans harr (.one step_inScope)⟩
      | exit id => exact ⟨.exit id, a₁, w₁, hq, fun k' hk => harr k' (by simp [exitTo, hk])⟩
      | goto l' =>
        have hq' : J m l' a₁ w₁ := hq
        cases m with
        | zero => exact absurd hq' (h0 l' a₁ w₁)
        | succ m =>
          obtain ⟨rest2, hf2, _⟩ := round m l' a₁ w₁ hq'
          obtain ⟨e₂, a₂, w₂, hq₂, harr₂⟩ := ih l' rest2 a₁ w₁ hf2 hq'
          have hg : gotoIn l' (.inScope c :: k) = some (.code rest2 :: .inScope c :: k) := by simp [gotoIn, hf2]
          exact ⟨e₂, a₂, w₂, hq₂, .of_steps (harr _ hg) harr₂⟩
      | ret => exact ⟨_, a₁, w₁, hq, harr⟩
      | panic ch => exact ⟨_, a₁, w₁, hq, harr⟩
      | outgrown => exact ⟨_, a₁, w₁, hq, harr⟩
  obtain ⟨e, a₁, w₁, hq, harr⟩ := first b (.inScope c :: k) cs
  cases e with
  | normal => exact ⟨.normal, a₁, w₁, hq, .head step_scope (Steps.trans harr (.one step_inScope))⟩
  | exit id => exact ⟨.exit id, a₁, w₁, hq, fun k' hk => .head step_scope (harr k' (by simp [exitTo, hk]))⟩
  | goto l' =>
    have hq' : J m l' a₁ w₁ := hq
    cases m with
    | zero => exact absurd hq' (h0 l' a₁ w₁)
    | succ m =>
      obtain ⟨rest2, hf2, _⟩ := round m l' a₁ w₁ hq'
      obtain ⟨e₂, a₂, w₂, hq₂, harr₂⟩ := key _ l' rest2 a₁ w₁ hf2 hq'
      have hg : gotoIn l' (.inScope c :: k) = some (.code rest2 :: .inScope c :: k) := by simp [gotoIn, hf2]
      exact ⟨e₂, a₂, w₂, hq₂, .of_steps (.head step_scope (harr _ hg)) harr₂⟩
  | ret => exact ⟨_, a₁, w₁, hq, .of_steps (.one step_scope) harr⟩
  | panic ch => exact ⟨_, a₁, w₁, hq, .of_steps (.one step_scope) harr⟩
  | outgrown => exact ⟨_, a₁, w₁, hq, .of_steps (.one step_scope) harr⟩

theorem exec_both (hm : P.follows .mixedOrders = true) (hK : K.Sound P) : ∀ (c : C), (∀ (code : Code) (s : S) (r : Ex × S) (a : Act) (w : World) (F : Nat → Prop) (σ : Nat → Option Loc), chk P m0 n c code = true → exec K c s = some r → StRel K X base w0 F0 m0 σ0 n s a w F σ →
    code.wp P (Post K X base w0 F0 m0 σ0 n r) a w) ∧
    ∀ (code : Code) (l : Nat) (g : S → Option (Ex × S)), chk P m0 n c code = true → exec.labelled K c l = some g → ∃ rest, findLabel code l = some rest ∧ ∀ (s : S) (r : Ex × S) (a : Act) (w : World) (F : Nat → Prop) (σ : Nat → Option Loc), g s = some r → StRel K X base w0 F0 m0 σ0 n s a w F σ → rest.wp P (Post K X base w0 F0 m0 σ0 n r) a w := by
  intro c
  induction c with
  | skip =>
    refine ⟨?_, fun code l g _ h => by simp [exec.labelled] at h⟩
    intro code s r a w F σ hc he hs
    cases code <;> simp only [chk] at hc <;> (try (cases hc; done))
    simp only [exec, Option.some.injEq] at he
    subst he
    exact wp_skip ⟨rfl, F, σ, hs⟩
  | ownc t j k =>
    refine ⟨?_, fun code l g _ h => by simp [exec.labelled] at h⟩
    intro code s r a w F σ hc he hs
    cases code <;> simp [chk] at hc
  | regl l =>
    refine ⟨?_, fun code l g _ h => by simp [exec.labelled] at h⟩
    intro code s r a w F σ hc he hs
    cases code <;> simp only [chk] at hc <;> (try (cases hc; done))
    rename_i id ops draw
    simp only [Bool.and_eq_true] at hc
    obtain ⟨rfl, hc⟩ := hc
    simp only [exec] at he
    cases hev : evSegsL K s l with
    | none => simp [hev] at he
    | some s' =>
      simp only [hev, Option.some.injEq] at he
      subst he
      exact drawn_regionL hm hK hc hev hs fun a w F σ h => ⟨rfl, F, σ, h⟩
  | regp π l =>
    refine ⟨?_, fun code l g _ h => by simp [exec.labelled] at h⟩
    intro code s r a w F σ hc he hs
    cases code <;> simp only [chk] at hc <;> (try (cases hc; done))
    rename_i id ops draw
    simp only [Bool.and_eq_true] at hc
    obtain ⟨rfl, hc⟩ := hc
    simp only [exec] at he
    cases hev : evSegsL K s l with
    | none => simp [hev] at he
    | some s' =>
      simp only [hev, Option.some.injEq] at he
      subst he
      exact wp_region_any hm (drawnP_any hK hc hev hs fun a w F σ h => ⟨rfl, F, σ, h⟩)
  | regg m' l =>
    refine ⟨?_, fun code l g _ h => by simp [exec.labelled] at h⟩
    intro code s r a w F σ hc he hs
    cases code <;> simp only [chk] at hc <;> (try (cases hc; done))
    rename_i id ops draw
    simp only [Bool.and_eq_true] at hc
    obtain ⟨hm', hc⟩ := hc
    obtain rfl : m' = m0 := by simpa using hm'
    simp only [exec] at he
    cases hev : evSegsG m' K s l with
    | none => simp [hev] at he
    | some s' =>
      simp only [hev, Option.some.injEq] at he
      subst he
      cases draw with
      | false =>
        simp only [Bool.false_eq_true, if_false] at hc
        exact text_regionG hK hc hev hs fun a w F σ h => ⟨rfl, F, σ, h⟩
      | true =>
        simp only [if_true] at hc
        exact drawn_regionG hm hK hc hev hs fun a w F σ h => ⟨rfl, F, σ, h⟩
  | reg l =>
    refine ⟨?_, fun code l g _ h => by simp [exec.labelled] at h⟩
    intro code s r a w F σ hc he hs
    cases code <;> simp only [chk] at hc <;> (try (cases hc; done))
    rename_i id ops draw
    simp only [exec] at he
    cases hev : evSegs K s l with
    | none => simp [hev] at he
    | some s' =>
      simp only [hev, Option.some.injEq] at he
      subst he
      cases draw with
      | false =>
        simp only [Bool.false_eq_true, if_false] at hc
        exact text_region hK hc hev hs fun a w F σ h => ⟨rfl, F, σ, h⟩
      | true =>
        simp only [if_true] at hc
        exact drawn_region hm hK hc hev hs fun a w F σ h => ⟨rfl, F, σ, h⟩
  | seq x y ihx ihy =>
    refine ⟨?_, fun code l g _ h => by simp [exec.labelled] at h⟩
    intro code s r a w F σ hc he hs
    simp only [exec] at he
    have plain : ∀ cx cy, code = .seq cx cy → chk P m0 n x cx = true → chk P m0 n y cy = true → code.wp P (Post K X base w0 F0 m0 σ0 n r) a w := by
      rintro cx cy rfl h1 h2
      cases hx : exec K x s with
      | none => simp [hx] at he
      | some p =>
        obtain ⟨ex, s'⟩ := p
        refine wp_seq (wp_mono (ihx.1 cx s _ a w F σ h1 hx hs) fun e a' w' hp => ?_)
        obtain ⟨rfl, F', σ', hs'⟩ := hp
        cases ex with
        | nrm =>
          simp only [hx] at he
          exact ihy.1 cy s' r a' w' F' σ' h2 he hs'
        | exit id => simp only [hx, Option.some.injEq] at he; subst he; exact ⟨rfl, F', σ', hs'⟩
        | goto l => simp only [hx, Option.some.injEq] at he; subst he; exact ⟨rfl, F', σ', hs'⟩
        | ret => simp only [hx, Option.some.injEq] at he; subst he; exact ⟨rfl, F', σ', hs'⟩
    by_cases hkp : ∃ sl, x = .keep sl
    · obtain ⟨sl, rfl⟩ := hkp
      have hc' : chk P m0 n y code = true := by cases code <;> simpa only [chk] using hc
      simp only [exec] at he
      exact ihy.1 code _ r a w F σ hc' he (hs.skip sl)
    by_cases hgc : ∃ m' sl, x = .tidy m' sl
    · obtain ⟨m', sl, rfl⟩ := hgc
      have hc' : (m' == m0) = true ∧ chk P m0 n y code = true := by cases code <;> simpa only [chk, Bool.and_eq_true] using hc
      obtain ⟨hm', hc'⟩ := hc'
      obtain rfl : m' = m0 := by simpa using hm'
      simp only [exec] at he
      cases hts : tidyS m' sl s with
      | none => simp [hts] at he
      | some s' =>
        simp only [hts] at he
        obtain ⟨σ', hs'⟩ := hs.tidy hts
        exact ihy.1 code _ r a w F σ' hc' he hs'
    · by_cases hown : ∃ t k, x = .own t k
      · obtain ⟨t, k, rfl⟩ := hown
        have hc' : decide (t < n) = true ∧ chk P m0 n y code = true := by cases code <;> simpa only [chk, Bool.and_eq_true] using hc
        simp only [exec] at he
        cases hl : look s.rho t with
        | none => simp only [hl] at he; exact ihy.1 code s r a w F σ hc'.2 he hs
        | some v =>
          cases v with
          | fs c k' rows =>
            cases rows with
            | nil =>
              simp only [hl] at he
              by_cases hk : k' = k
              · simp only [hk, if_true] at he
                exact ihy.1 code _ r a w F σ hc'.2 he (hs.own hl)
              · simp only [hk, if_false] at he; exact ihy.1 code s r a w F σ hc'.2 he hs
            | cons _ _ => simp only [hl] at he; exact ihy.1 code s r a w F σ hc'.2 he hs
          | _ => simp only [hl] at he; exact ihy.1 code s r a w F σ hc'.2 he hs
      · by_cases hfrz : ∃ m' t j, x = .frz m' t j
        · obtain ⟨m', t, j, rfl⟩ := hfrz
          have hc' : (m' == m0) = true ∧ chk P m0 n y code = true := by cases code <;> simpa only [chk, Bool.and_eq_true] using hc
          obtain ⟨hm', hc'⟩ := hc'
          obtain rfl : m' = m0 := by simpa using hm'
          simp only [exec] at he
          obtain ⟨F', σ', hs'⟩ := hs.freeze t j
          exact ihy.1 code _ r a w F' σ' hc' he hs'
        · by_cases hoc : ∃ t j k, x = .ownc t j k
          · obtain ⟨t, j, k, rfl⟩ := hoc
            have hc' : chk P m0 n y code = true := by cases code <;> simpa only [chk] using hc
            simp only [exec] at he
            exact ihy.1 code _ r a w F σ hc' he (hs.ownc t j k)
          · cases code with
            | seq cx cy =>
              have : chk P m0 n x cx = true ∧ chk P m0 n y cy = true := by
                cases x <;> first | (exact absurd ⟨_, rfl⟩ hkp) | (exact absurd ⟨_, _, rfl⟩ hgc) | (exact absurd ⟨_, _, rfl⟩ hown) | (exact absurd ⟨_, _, _, rfl⟩ hfrz) | (exact absurd ⟨_, _, _, rfl⟩ hoc) | (simpa only [chk, Bool.and_eq_true] using hc)
              exact plain cx cy rfl this.1 this.2
            | _ => cases x <;> first | (exact absurd ⟨_, rfl⟩ hkp) | (exact absurd ⟨_, _, rfl⟩ hgc) | (exact absurd ⟨_, _, rfl⟩ hown) | (exact absurd ⟨_, _, _, rfl⟩ hfrz) | (exact absurd ⟨_, _, _, rfl⟩ hoc) | (simp [chk] at hc)
  | cond e x y ihx ihy =>
    refine ⟨?_, fun code l g _ h => by simp [exec.labelled] at h⟩
    intro code s r a w F σ hc he hs
    cases code <;> simp only [chk] at hc <;> (try (cases hc; done))
    rename_i oc cx cy
    simp only [Bool.and_eq_true, decide_eq_true_eq] at hc
    simp only [exec] at he
    cases hv : ev K s e with
    | none => simp [hv] at he
    | some v =>
      cases v with
      | d k x =>
        cases x with
        | bool b =>
          simp only [hv] at he
          have hb := (held_done hs hc.1.1 hv).bool_inv
          refine wp_cond hb ?_
          cases b with
          | true => exact ihx.1 cx s r a w F σ hc.1.2 (by simpa using he) hs
          | false => exact ihy.1 cy s r a w F σ hc.2 (by simpa using he) hs
        | _ => simp [hv] at he
      | _ => simp [hv] at he
  | block id x ih =>
    refine ⟨?_, fun code l g _ h => by simp [exec.labelled] at h⟩
    intro code s r a w F σ hc he hs
    cases code <;> simp only [chk] at hc <;> (try (cases hc; done))
    rename_i id' cx
    simp only [Bool.and_eq_true, beq_iff_eq] at hc
    obtain ⟨rfl, hc⟩ := hc
    simp only [exec] at he
    cases hx : exec K x s with
    | none => simp [hx] at he
    | some p =>
      obtain ⟨ex, s'⟩ := p
      refine wp_block (wp_mono (ih.1 cx s _ a w F σ hc hx hs) fun e a' w' hp => ?_)
      obtain ⟨rfl, F', σ', hs'⟩ := hp
      cases ex with
      | exit i =>
        simp only [hx] at he
        simp only [Ex.to, Exit.inBlock]
        split at he
        · rename_i hi
          rw [if_pos hi]
          simp only [Option.some.injEq] at he
          subst he
          exact ⟨rfl, F', σ', hs'⟩
        · rename_i hi
          rw [if_neg hi]
          simp only [Option.some.injEq] at he
          subst he
          exact ⟨rfl, F', σ', hs'⟩
      | nrm => simp only [hx, Option.some.injEq] at he; subst he; exact ⟨rfl, F', σ', hs'⟩
      | goto l => simp only [hx, Option.some.injEq] at he; subst he; exact ⟨rfl, F', σ', hs'⟩
      | ret => simp only [hx, Option.some.injEq] at he; subst he; exact ⟨rfl, F', σ', hs'⟩
  | loop x ih =>
    refine ⟨?_, fun code l g _ h => by simp [exec.labelled] at h⟩
    intro code s r a w F σ hc he hs
    cases code <;> simp only [chk] at hc <;> (try (cases hc; done))
    rename_i cx
    simp only [exec, loopF] at he
    split at he
    case isFalse => cases he
    rename_i hex
    refine wp_loop_rounds (J := fun m a w => ∃ s F σ, iter (exec K x) m s = some r ∧ StRel K X base w0 F0 m0 σ0 n s a w F σ) (fun a w h => ?_) (fun m a w h => ?_) (m := hex.choose) ⟨s, F, σ, he, hs⟩
    · obtain ⟨s, F, σ, h, _⟩ := h
      simp [iter] at h
    · obtain ⟨s, F, σ, h, hs⟩ := h
      simp only [iter] at h
      cases hx : exec K x s with
      | none => simp [hx] at h
      | some p =>
        obtain ⟨ex, s'⟩ := p
        refine wp_mono (ih.1 cx s _ a w F σ hc hx hs) fun e a' w' hp => ?_
        obtain ⟨rfl, F', σ', hs'⟩ := hp
        cases ex with
        | nrm => simp only [hx] at h; exact ⟨s', F', σ', h, hs'⟩
        | exit id => simp only [hx, Option.some.injEq] at h; subst h; exact ⟨rfl, F', σ', hs'⟩
        | goto l => simp only [hx, Option.some.injEq] at h; subst h; exact ⟨rfl, F', σ', hs'⟩
        | ret => simp only [hx, Option.some.injEq] at h; subst h; exact ⟨rfl, F', σ', hs'⟩
  | exit id =>
    refine ⟨?_, fun code l g _ h => by simp [exec.labelled] at h⟩
    intro code s r a w F σ hc he hs
    cases code <;> simp only [chk] at hc <;> (try (cases hc; done))
    simp only [beq_iff_eq] at hc
    subst hc
    simp only [exec, Option.some.injEq] at he
    subst he
    exact wp_exit ⟨rfl, F, σ, hs⟩
  | scope x ls ihx ihl =>
    refine ⟨?_, fun code l g _ h => by simp [exec.labelled] at h⟩
    intro code s r a w F σ hc he hs
    cases code <;> simp only [chk] at hc <;> (try (cases hc; done))
    rename_i cx
    simp only [Bool.and_eq_true] at hc
    simp only [exec, scopeF] at he
    split at he
    case isFalse => cases he
    rename_i hex
    generalize hex.choose = m at he
    cases m with
    | zero => simp [jumps] at he
    | succ m =>
      have post : ∀ (m : Nat) (p : Ex × S) (e : Exit) (a : Act) (w : World), jumps (fun l => exec.labelled K ls l) (m + 1) (some p) = some r → Post K X base w0 F0 m0 σ0 n p e a w →
          Exit.jumpR (fun l a w => ∃ g s F σ, exec.labelled K ls l = some g ∧ jumps (fun l => exec.labelled K ls l) m (g s) = some r ∧ StRel K X base w0 F0 m0 σ0 n s a w F σ) (Post K X base w0 F0 m0 σ0 n r) e a w := by
        intro m p e a w hj hp
        obtain ⟨ex, s'⟩ := p
        obtain ⟨rfl, F', σ', hs'⟩ := hp
        simp only [jumps] at hj
        cases ex with
        | nrm => simp only [Option.some.injEq] at hj; subst hj; exact ⟨rfl, F', σ', hs'⟩
        | exit id => simp only [Option.some.injEq] at hj; subst hj; exact ⟨rfl, F', σ', hs'⟩
        | ret => simp only [Option.some.injEq] at hj; subst hj; exact ⟨rfl, F', σ', hs'⟩
        | goto l =>
          simp only at hj
          cases hl : exec.labelled K ls l with
          | none => simp [hl] at hj
          | some g =>
            simp only [hl] at hj
            exact ⟨g, s', F', σ', hl, hj, hs'⟩
      cases hx : exec K x s with
      | none => simp [hx, jumps] at he
      | some p =>
        rw [hx] at he
        refine wp_scope_rounds (m := m) (J := fun m l a w => ∃ g s F σ, exec.labelled K ls l = some g ∧ jumps (fun l => exec.labelled K ls l) m (g s) = some r ∧ StRel K X base w0 F0 m0 σ0 n s a w F σ) (fun l a w h => ?_) (fun m l a w h => ?_) (wp_mono (ihx.1 cx s _ a w F σ hc.1 hx hs) fun e a' w' hp => post m p e a' w' he hp)
        · obtain ⟨g, s, F, σ, _, h, _⟩ := h
          simp [jumps] at h
        · obtain ⟨g, s, F, σ, hl, hj, hs⟩ := h
          obtain ⟨rest, hf, hrest⟩ := ihl.2 cx l g hc.2 hl
          refine ⟨rest, hf, ?_⟩
          cases hg : g s with
          | none => rw [hg] at hj; simp [jumps] at hj
          | some p =>
            rw [hg] at hj
            exact wp_mono (hrest s p a w F σ hg hs) fun e a' w' hp => post m p e a' w' hj hp
  | lnil => exact ⟨fun code s r a w F σ hc he => by simp [exec] at he, fun code l g _ h => by simp [exec.labelled] at h⟩
  | lcons l0 c ls ihc ihl =>
    refine ⟨fun code s r a w F σ hc he => by simp [exec] at he, fun code l g hc h => ?_⟩
    have hc' : ((match findLabel code l0 with | some rest => chk P m0 n c rest | none => false) && chk P m0 n ls code) = true := by cases code <;> simpa only [chk] using hc
    simp only [Bool.and_eq_true] at hc'
    simp only [exec.labelled] at h
    split at h
    · rename_i he
      subst he
      obtain rfl := Option.some.inj h
      cases hf : findLabel code l0 with
      | none => simp [hf] at hc'
      | some rest =>
        simp only [hf] at hc'
        exact ⟨rest, rfl, fun s r a w F σ he hs => ihc.1 rest s r a w F σ hc'.1 he hs⟩
    · exact ihl.2 code l g hc'.2 h
  | label l =>
    refine ⟨?_, fun code l g _ h => by simp [exec.labelled] at h⟩
    intro code s r a w F σ hc he hs
    cases code <;> simp only [chk] at hc <;> (try (cases hc; done))
    simp only [exec, Option.some.injEq] at he
    subst he
    exact wp_label ⟨rfl, F, σ, hs⟩
  | goto l =>
    refine ⟨?_, fun code l g _ h => by simp [exec.labelled] at h⟩
    intro code s r a w F σ hc he hs
    cases code <;> simp only [chk] at hc <;> (try (cases hc; done))
    simp only [beq_iff_eq] at hc
    subst hc
    simp only [exec, Option.some.injEq] at he
    subst he
    exact wp_goto ⟨rfl, F, σ, hs⟩
  | ret =>
    refine ⟨?_, fun code l g _ h => by simp [exec.labelled] at h⟩
    intro code s r a w F σ hc he hs
    cases code <;> simp only [chk] at hc <;> (try (cases hc; done))
    simp only [exec, Option.some.injEq] at he
    subst he
    exact wp_ret ⟨rfl, F, σ, hs⟩
  | keep => exact ⟨fun code s r a w F σ hc he => by cases code <;> simp [chk] at hc, fun code l g _ h => by simp [exec.labelled] at h⟩
  | tidy => exact ⟨fun code s r a w F σ hc he => by cases code <;> simp [chk] at hc, fun code l g _ h => by simp [exec.labelled] at h⟩
  | own => exact ⟨fun code s r a w F σ hc he => by cases code <;> simp [chk] at hc, fun code l g _ h => by simp [exec.labelled] at h⟩
  | stuck => exact ⟨fun code s r a w F σ hc he => by simp [exec] at he, fun code l g _ h => by simp [exec.labelled] at h⟩
  | frz => exact ⟨fun code s r a w F σ hc he => by cases code <;> simp [chk] at hc, fun code l g _ h => by simp [exec.labelled] at h⟩

theorem exec_sound (hm : P.follows .mixedOrders = true) (hK : K.Sound P) (c : C) (code : Code) (s : S) (r : Ex × S) (a : Act) (w : World) (F : Nat → Prop) (σ : Nat → Option Loc) (hc : chk P m0 n c code = true) (he : exec K c s = some r) (hs : StRel K X base w0 F0 m0 σ0 n s a w F σ) :
    code.wp P (Post K X base w0 F0 m0 σ0 n r) a w := (exec_both hm hK c).1 code s r a w F σ hc he hs

end Go.Vm
end

section
namespace Go.Vm
open Go.RowKit

def hNew (H : List (Nat × Blk)) : Bool := H.all fun p => match p.2 with
  | .dat c _ _ => c
  | .mix _ rows => rows.all (·.all V.newR)
  | .map es => es.all fun q => match q.2 with
    | .agg cs => cs.all V.newR
    | v => v.newR

def restH (bs : List Nat) (H : List (Nat × Blk)) : List (Nat × Blk) := forgetH bs.contains (H.filter fun p => !bs.contains p.1)

def finC (z : Bool) (bs : List Nat) (H : List (Nat × Blk)) : V → Option V
  | .d c y => some (.d c y)
  | .fs c k r => some (.fs c k r)
  | .ptr b i j => if bs.contains b then some (.ptr (bs.idxOf b) i j) else (viewD viewDepth (restH bs H) (.ptr b i j)).map (.d (z && hNew (restH bs H)))
  | .bsl b i n => if bs.contains b then some (.bsl (bs.idxOf b) i n) else (viewD viewDepth (restH bs H) (.bsl b i n)).map (.d (z && hNew (restH bs H)))
  | .iface t v => (viewD viewDepth (restH bs H) (V.drop1 bs.contains (.iface t v))).map (.d false)
  | .map b => if bs.contains b then some (.map (bs.idxOf b)) else none
  | _ => none
def finA (z : Bool) (bs : List Nat) (H : List (Nat × Blk)) : V → Option V
  | .agg cs => (mapO (finC z bs H) cs).map .agg
  | .fn f cs => (mapO (finC z bs H) cs).map (.fn f)
  | v => finC z bs H v
def finV (z : Bool) (bs : List Nat) (H : List (Nat × Blk)) : V → Option V
  | .tup vs => (mapO (finA z bs H) vs).map .tup
  | v => finA z bs H v
def finB (z : Bool) (bs : List Nat) (H : List (Nat × Blk)) (b : Nat) : Option Blk := match look H b with
  | some (.dat c k rows) => some (.dat c k rows)
  | some (.mix k rows) => (mapO (mapO (finC z bs H)) rows).map (.mix k)
  | some (.map es) => (mapO (fun q => (finA z bs H q.2).map fun v => (q.1, v)) es).map .map
  | none => none

structure Fun where
  body : C
  res : List E
  own : Bool
  deriving Inhabited

def oneOr : List V → V
  | [v] => v
  | vs => .tup vs

def finish (m : Nat) (own : Bool) (s : S) (v : V) : Option (V × List Blk × List Nat) :=
  let bs := if own then reachB s.heap (refN s.heap + 64) [] (List.range m ++ v.refs) else List.range m
  if decide bs.Nodup && decide (bs.take m = List.range m) then
    match finV (m == 0) bs s.heap v, mapO (finB (m == 0) bs s.heap) bs with
    | some r, some news => some (r, news, (List.range m).filter fun b => s.mv.contains b)
    | _, _ => none
  else none

def startS (args : List V) (blks : List Blk) : S := ⟨(args.zipIdx.map fun (v, i) => (i, v)), indexed blks, blks.length, []⟩

noncomputable def runFun (K : Cx) (g : Fun) (args : List V) (blks : List Blk) : Option (V × List Blk × List Nat) :=
  match exec K g.body (startS args blks) with
  | some (.nrm, s) => match mapO (ev K s) g.res with
    | some vs => finish blks.length g.own s (oneOr vs)
    | none => none
  | some (.ret, s) => match mapO (ev K s) g.res with
    | some vs => finish blks.length g.own s (oneOr vs)
    | none => none
  | _ => none

def resE (P : Program) : ResultVar → Option E
  | .tmp t => some (.sl t)
  | .cell a t => match P.info? t, P.underlying t with
    | some i, some d => some (.ld i.size (isAggD d) (.sl a))
    | _, _ => none

def funOk (P : Program) (f : FuncId) (m n : Nat) (g : Fun) : Bool :=
  match P.funcs[f]? with
  | some fn => match fn.body with
    | some code => chk P m fn.ntmps g.body code && decide (mapO (resE P) fn.results.toList = some g.res) && decide (n ≤ fn.ntmps) && (fn.name != "runtime.NumGoroutine")
    | none => false
  | none => false

variable {P : Program} {w : World} {F : Nat → Prop} {X : Nat → Nat → Prop} {base nx : Nat} {σ : Nat → Option Loc} {H : List (Nat × Blk)} {bs : List Nat}

theorem keys_mapO {f : V → Option V} : ∀ {es es' : List (D × V)}, mapO (fun q => (f q.2).map fun v => (q.1, v)) es = some es' → es'.map (·.1) = es.map (·.1)
  | [], es', h => by obtain rfl := Option.some.inj h; rfl
  | q :: es, es', h => by
    simp only [mapO] at h
    cases hq : f q.2 with
    | none => simp [hq] at h
    | some v =>
      cases hr : mapO (fun q => (f q.2).map fun v => (q.1, v)) es with
      | none => simp [hq, hr] at h
      | some r =>
        simp only [hq, hr, Option.map_some, Option.some.injEq] at h
        subst h
        simp only [List.map_cons, keys_mapO hr]

theorem MemObj.ofO {f : V → Option V} {w w' : World} {σ σ' : Nat → Option Loc} {l : Loc} {ck : Nat} {es : Array MapEntry} {ds ds' : List (D × V)} (hw : w'.heap[l.blk]? = w.heap[l.blk]?) (hes : mapO (fun q => (f q.2).map fun v => (q.1, v)) ds = some ds')
    (hf : ∀ q ∈ ds, ∀ y, f q.2 = some y → ∀ v, BufV σ v q.2 → BufV σ' v y) (h : MemObj w σ l es ck ds) : MemObj w' σ' l es ck ds' := by
  have hk := keys_mapO hes
  rcases h with ⟨h, hx, ht⟩ | ⟨T, p, v, x, h1, h2, h3, h4⟩ | ⟨T, cur, fz, bs, h1, h2, h3⟩
  · refine .inl ⟨by rw [hw]; exact h, hx, ?_⟩
    cases ds with
    | nil => obtain rfl : ds' = [] := by simpa using hk
             rfl
    | cons q ds =>
      obtain ⟨k, v⟩ := q
      cases ds' with
      | nil => simp at hk
      | cons q' ds' =>
        obtain ⟨k', v'⟩ := q'
        simp only [List.map_cons, List.cons.injEq] at hk
        obtain ⟨rfl, _⟩ := hk
        cases k' <;> first | rfl | (simp [tagged] at ht)
  · subst h1
    simp only [mapO] at hes
    cases hx : f x with
    | none => simp [hx] at hes
    | some y =>
      simp only [hx, Option.map_some, Option.some.injEq] at hes
      subst hes
      exact .inr (.inl ⟨T, p, v, y, rfl, by rw [hw]; exact h2, h3, hf (.nils T, x) (by simp) y hx v h4⟩)
  · exact .inr (.inr ⟨T, cur, fz, bs, by rw [hk]; exact h1, by rw [hw]; exact h2, h3⟩)

theorem New_New {c : Bool} {b : Nat} (h : col F base true b) : col (New F base) base c b := by
  cases c
  · exact h
  · exact ⟨h, h.2⟩

theorem RepV.newF {v : Value} {x : V} (hx : x.newR = true) (h : RepV w F base σ v x) : RepV w (New F base) base σ v x := by
  cases h with
  | d c v x h =>
    simp only [V.newR, V.new1, Bool.or_eq_true] at hx
    cases c with
    | true => exact .d _ _ _ (h.mono fun b hb => ⟨New_New hb, rfl⟩)
    | false => exact .d _ _ _ (h.flat (by simpa using hx))
  | fs c a len k rows h =>
    simp only [V.newR, V.new1] at hx
    subst hx
    exact .fs _ _ _ _ _ (h.mono fun b hb => ⟨New_New hb, rfl⟩)
  | ptr b i j l hl => exact .ptr b i j l hl
  | bsl0 a b i => exact .bsl0 a b i
  | bsl b i len cap l hl h1 h2 => exact .bsl b i len cap l hl h1 h2
  | map b l hl => exact .map b l hl
  | _ => simp [V.newR, V.new1] at hx

theorem mkd_newR {c : Bool} (hc : c = true) (d : D) : (mkd c d).newR = true := by
  subst hc
  unfold mkd
  split <;> simp [V.newR, V.new1, *]

theorem HeapRel.newF (hn : hNew H = true) (h : HeapRel w F X base σ nx H) : HeapRel w (New F base) X base σ nx H := by
  refine ⟨fun b blk hb => ?_, h.inj, fun b l hb => ⟨(h.own b l hb).1, fun hf => (h.own b l hb).2.1 hf.1, (h.own b l hb).2.2⟩, fun b hb => h.fro b hb.1⟩
  have hin : ∃ p ∈ H, p = (b, blk) := by
    clear hn h
    induction H with
    | nil => simp [look] at hb
    | cons p H ih =>
      obtain ⟨k, v⟩ := p
      simp only [look] at hb
      split at hb
      · rename_i hk
        subst hk
        obtain rfl := Option.some.inj hb
        exact ⟨_, List.mem_cons_self .., rfl⟩
      · obtain ⟨p, hp, he⟩ := ih hb
        exact ⟨p, List.mem_cons_of_mem _ hp, he⟩
  obtain ⟨p, hp, rfl⟩ := hin
  simp only [hNew, List.all_eq_true] at hn
  have hnb := hn _ hp
  rcases h.blk b blk hb with ⟨h1, h2⟩ | ⟨l, es, ck, ds, rfl, h1, h2, h3, h4, h5⟩ | ⟨l, cs, T, h1, h2, h3, h4, h5, h6, h7⟩
  · exact .inl ⟨h1, h2⟩
  · have := h5.transM (f := fun x => x) (w' := w) (F' := New F base) (base' := base) (σ' := σ) fun q hq v hv => by
      simp only [List.all_eq_true] at hnb
      have hqn := hnb q hq
      obtain ⟨qk, qv⟩ := q
      cases qv with
      | agg cs =>
        cases hv with
        | agg vs _ g1 g2 g3 =>
          simp only [List.all_eq_true] at hqn
          exact .agg vs cs g1 (fun j v x hv hx => (g2 j v x hv hx).newF (hqn x (List.mem_of_getElem? hx))) g3
      | _ => exact hv.newF hqn
    exact .inr (.inl ⟨l, es, ck, ds, rfl, h1, h2, h3, h4, by simpa using this⟩)
  · refine .inr <| .inr ⟨l, cs, T, h1, h2, h3, h4, h5, fun i row hrow => ⟨(h6 i row hrow).1, fun j x hx => ?_⟩, h7⟩
    obtain ⟨v, g1, g2, g3⟩ := (h6 i row hrow).2 j x hx
    refine ⟨v, g1, g2, g3.newF ?_⟩
    cases blk with
    | dat c k rows =>
      simp only [Blk.row?, Option.map_eq_some_iff] at hrow
      obtain ⟨r, _, rfl⟩ := hrow
      simp only [List.getElem?_map, Option.map_eq_some_iff] at hx
      obtain ⟨d, _, rfl⟩ := hx
      exact mkd_newR hnb d
    | mix k rows =>
      simp only [Blk.row?] at hrow
      simp only [List.all_eq_true] at hnb
      exact hnb row (List.mem_of_getElem? hrow) x (List.mem_of_getElem? hx)
    | map es => simp [Blk.entries] at h7

def wo (bs : List Nat) (σ : Nat → Option Loc) (b : Nat) : Option Loc := if bs.contains b then none else σ b
def outs (bs : List Nat) (σ : Nat → Option Loc) (i : Nat) : Option Loc := match bs[i]? with
  | some b => σ b
  | none => none

theorem wo_some {b : Nat} {l : Loc} (h : wo bs σ b = some l) : bs.contains b = false ∧ σ b = some l := by
  unfold wo at h
  split at h
  · cases h
  · rename_i hb; exact ⟨by simpa using hb, h⟩
theorem wo_of : ∀ b l, σ b = some l → bs.contains b = false → wo bs σ b = some l := by
  intro b l h1 h2
  unfold wo
  rw [if_neg (by rw [h2]; exact Bool.false_ne_true)]
  exact h1

theorem look_filter (p : Nat → Bool) : ∀ (H : List (Nat × Blk)) (b : Nat) (blk : Blk), look (H.filter fun q => p q.1) b = some blk → p b = true ∧ look H b = some blk
  | [], b, blk, h => by simp [look] at h
  | (k, v) :: H, b, blk, h => by
    simp only [List.filter_cons] at h
    split at h
    · rename_i hk
      simp only [look] at h ⊢
      split at h
      · rename_i he
        subst he
        rw [if_pos rfl]
        exact ⟨hk, h⟩
      · rename_i he
        rw [if_neg he]
        exact look_filter p H b blk h
    · rename_i hk
      obtain ⟨h1, h2⟩ := look_filter p H b blk h
      refine ⟨h1, ?_⟩
      simp only [look]
      rw [if_neg (fun e => hk (by subst e; exact h1))]
      exact h2

theorem rest_heap (h : HeapRel w F X base σ nx H) : HeapRel w F X base (wo bs σ) nx (restH bs H) := by
  refine ⟨fun b blk hb => ?_, fun b b' l l' h1 h2 => h.inj b b' l l' (wo_some h1).2 (wo_some h2).2, fun b l hb => h.own b l (wo_some hb).2, h.fro⟩
  unfold restH forgetH at hb
  rw [look_mapB] at hb
  simp only [Option.map_eq_some_iff] at hb
  obtain ⟨blk0, h1, rfl⟩ := hb
  obtain ⟨h2, h3⟩ := look_filter (fun b => !bs.contains b) H b blk0 h1
  have h2' : bs.contains b = false := by simpa using h2
  have hs : ∀ l, σ b = some l → wo bs σ b = some l := fun l hl => wo_of b l hl h2'
  refine (h.blk b blk0 h3).forget _ (fun b hb => ⟨hb, rfl⟩) wo_of hs (fun h4 => ?_) (fun _ _ => rfl)
  unfold wo
  split
  · rfl
  · exact h4

def FZ (F : Nat → Prop) (bs : List Nat) (σ : Nat → Option Loc) : Nat → Prop := All F (wo bs σ)

variable {z : Bool}

def Young (X : Nat → Nat → Prop) (base : Nat) (bs : List Nat) (σ : Nat → Option Loc) : Prop := ∀ i l, wo bs σ i = some l → base ≤ l.blk

theorem out_idx {b : Nat} {l : Loc} (h1 : σ b = some l) (h2 : bs.contains b = true) : outs bs σ (bs.idxOf b) = some l := by
  unfold outs
  have hm : b ∈ bs := by simpa using h2
  have : bs[bs.idxOf b]? = some b := by
    rw [List.getElem?_eq_getElem (List.idxOf_lt_length_of_mem hm)]
    rw [List.getElem_idxOf]
  rw [this]
  exact h1

theorem finC_buf {z : Bool} {x y : V} (hy : finC z bs H x = some y) {v : Value} (hv : BufV σ v x) : BufV (outs bs σ) v y := by
  cases x with
  | bsl b i n =>
    simp only [finC] at hy
    split at hy
    · rename_i hb
      obtain rfl := Option.some.inj hy
      obtain ⟨h0, h | ⟨l, h1, h2⟩⟩ := hv
      · exact ⟨h0, .inl h⟩
      · exact ⟨h0, .inr ⟨l, out_idx h1 hb, h2⟩⟩
    · simp only [Option.map_eq_some_iff] at hy
      obtain ⟨d, _, rfl⟩ := hy
      trivial
  | d c d => obtain rfl := Option.some.inj hy; trivial
  | fs c k r => obtain rfl := Option.some.inj hy; trivial
  | ptr b i j =>
    simp only [finC] at hy
    split at hy
    · obtain rfl := Option.some.inj hy; trivial
    · simp only [Option.map_eq_some_iff] at hy
      obtain ⟨d, _, rfl⟩ := hy
      trivial
  | iface t u =>
    simp only [finC, Option.map_eq_some_iff] at hy
    obtain ⟨d, _, rfl⟩ := hy
    trivial
  | map b =>
    simp only [finC] at hy
    split at hy
    · obtain rfl := Option.some.inj hy; trivial
    · cases hy
  | _ => simp [finC] at hy
theorem finA_buf {z : Bool} {x y : V} (hy : finA z bs H x = some y) {v : Value} (hv : BufV σ v x) : BufV (outs bs σ) v y := by
  cases x with
  | agg cs =>
    simp only [finA, Option.map_eq_some_iff] at hy
    obtain ⟨d, _, rfl⟩ := hy
    trivial
  | fn f cs =>
    simp only [finA, Option.map_eq_some_iff] at hy
    obtain ⟨d, _, rfl⟩ := hy
    trivial
  | _ => exact finC_buf (by simpa only [finA] using hy) hv

theorem finC_sound (h : HeapRel w F X base σ nx H) (hy : Young X base bs σ) (v : Value) (x r : V) (hr : finC z bs H x = some r) (hR : RepV w F base σ v x) : RepV w (FZ F bs σ) base (outs bs σ) v r := by
  have hsub : ∀ b, F b → FZ F bs σ b ∧ w.heap[b]? = w.heap[b]? := fun b hb => ⟨.inl hb, rfl⟩
  have frozen : ∀ (x : V), x.newR = true → (∃ y, (viewD viewDepth (restH bs H) x) = some y ∧ r = .d (z && hNew (restH bs H)) y) → RepV w F base (wo bs σ) v x → RepV w (FZ F bs σ) base (outs bs σ) v r := by
    rintro x hx ⟨y, hyy, rfl⟩ hR
    have hH := rest_heap (bs := bs) h
    cases hn : z && hNew (restH bs H) with
    | false => exact .d _ _ _ (viewD_sound hH _ _ _ _ hyy hR)
    | true =>
      simp only [Bool.and_eq_true] at hn
      refine .d _ _ _ ((viewD_sound (hH.newF hn.2) _ _ _ _ hyy (hR.newF hx)).mono fun b hb => ⟨?_, rfl⟩)
      rcases hb with hb | ⟨i, l, hl, rfl⟩
      · exact ⟨.inl hb.1, hb.2⟩
      · exact ⟨.inr ⟨i, l, hl, rfl⟩, hy i l hl⟩
  have hFF : ∀ b, F b → F b ∧ w.heap[b]? = w.heap[b]? := fun b hb => ⟨hb, rfl⟩
  cases x with
  | d c y =>
    simp only [finC, Option.some.injEq] at hr
    subst hr
    cases hR with
    | d _ _ _ hd => exact .d _ _ _ (hd.mono (col_mono hsub c))
  | fs c k rows =>
    simp only [finC, Option.some.injEq] at hr
    subst hr
    cases hR with
    | fs _ _ _ _ _ hd => exact .fs _ _ _ _ _ (hd.mono (col_mono hsub c))
  | ptr b i j =>
    simp only [finC] at hr
    split at hr
    · rename_i hb
      obtain rfl := Option.some.inj hr
      cases hR with
      | ptr _ _ _ l hl => exact .ptr _ _ _ l (out_idx hl hb)
    · rename_i hb
      simp only [Option.map_eq_some_iff] at hr
      obtain ⟨y, hy, rfl⟩ := hr
      exact frozen (.ptr b i j) rfl ⟨y, hy, rfl⟩ (hR.keep0 hFF wo_of (by simpa [V.ref0] using hb))
  | bsl b i n =>
    simp only [finC] at hr
    split at hr
    · rename_i hb
      obtain rfl := Option.some.inj hr
      cases hR with
      | bsl0 => exact .bsl0 _ _ _
      | bsl _ _ _ cap l hl h1 h2 => exact .bsl _ _ _ cap l (out_idx hl hb) h1 h2
    · rename_i hb
      simp only [Option.map_eq_some_iff] at hr
      obtain ⟨y, hy, rfl⟩ := hr
      exact frozen (.bsl b i n) rfl ⟨y, hy, rfl⟩ (hR.keep0 hFF wo_of (by simpa [V.ref0] using hb))
  | iface t u =>
    simp only [finC, Option.map_eq_some_iff] at hr
    obtain ⟨y, hy, rfl⟩ := hr
    exact .d _ _ _ (viewD_sound (rest_heap (bs := bs) h) _ _ _ _ hy (hR.drop1 hFF wo_of))
  | map b =>
    simp only [finC] at hr
    split at hr
    · rename_i hb
      obtain rfl := Option.some.inj hr
      cases hR with
      | map _ l hl => exact .map _ l (out_idx hl hb)
    · cases hr
  | _ => simp [finC] at hr

theorem reps_map {f : V → Option V} {R R' : Value → V → Prop} (hf : ∀ v x r, f x = some r → R v x → R' v r) {cs : Array Value} {xs rs : List V} (hm : mapO f xs = some rs) (hsz : cs.size = xs.length) (h : ∀ (j : Nat) (v : Value) (x : V), cs[j]? = some v → xs[j]? = some x → R v x) :
    cs.size = rs.length ∧ ∀ (j : Nat) (v : Value) (x : V), cs[j]? = some v → rs[j]? = some x → R' v x := by
  obtain ⟨m1, m2⟩ := mapO_some hm
  refine ⟨by omega, fun j v x hv hx => ?_⟩
  have hj : j < xs.length := by rw [← m1]; exact (List.getElem?_eq_some_iff.1 hx).1
  obtain ⟨y, hy, hvd⟩ := m2 j _ (List.getElem?_eq_getElem hj)
  rw [hx] at hy
  obtain rfl := Option.some.inj hy
  exact hf v _ x hvd (h j v _ hv (List.getElem?_eq_getElem hj))

theorem finA_sound (h : HeapRel w F X base σ nx H) (hy : Young X base bs σ) (v : Value) (x r : V) (hr : finA z bs H x = some r) (hR : RepV w F base σ v x) : RepV w (FZ F bs σ) base (outs bs σ) v r := by
  have one : ∀ v x r, finC z bs H x = some r → RepV w F base σ v x → RepV w (FZ F bs σ) base (outs bs σ) v r := fun v x r h1 h2 => finC_sound h hy v x r h1 h2
  cases x with
  | agg xs =>
    simp only [finA, Option.map_eq_some_iff] at hr
    obtain ⟨rs, hm, rfl⟩ := hr
    cases hR with
    | agg cs _ h1 h2 h3 =>
      obtain ⟨g1, g2⟩ := reps_map one hm h1 h2
      exact .agg cs rs g1 g2 h3
  | fn f xs =>
    simp only [finA, Option.map_eq_some_iff] at hr
    obtain ⟨rs, hm, rfl⟩ := hr
    cases hR with
    | fn _ cs _ h1 h2 =>
      obtain ⟨g1, g2⟩ := reps_map one hm h1 h2
      exact .fn f cs rs g1 g2
  | _ => simp only [finA] at hr; exact one v _ r hr hR

theorem finV_sound (h : HeapRel w F X base σ nx H) (hy : Young X base bs σ) {v : Value} {x r : V} (hr : finV z bs H x = some r) (hR : RepV w F base σ v x) : RepV w (FZ F bs σ) base (outs bs σ) v r := by
  cases x with
  | tup xs =>
    simp only [finV, Option.map_eq_some_iff] at hr
    obtain ⟨rs, hm, rfl⟩ := hr
    cases hR with
    | tup cs _ h1 h2 =>
      obtain ⟨g1, g2⟩ := reps_map (finA_sound h hy) hm h1 h2
      exact .tup cs rs g1 g2
  | _ => simp only [finV] at hr; exact finA_sound h hy v _ r hr hR

theorem outs_some {i : Nat} {l : Loc} (hi : outs bs σ i = some l) : ∃ b, bs[i]? = some b ∧ σ b = some l := by
  unfold outs at hi
  split at hi
  · rename_i b hb; exact ⟨b, hb, hi⟩
  · cases hi

theorem finB_heap (h : HeapRel w F X base σ nx H) (hy : Young X base bs σ) (hbs : bs.Nodup) (hX : ∀ b k, X b k → bs[b]? = some b) {news : List Blk} (hm : mapO (finB z bs H) bs = some news) : HeapRel w (FZ F bs σ) X base (outs bs σ) news.length (indexed news) := by
  obtain ⟨m1, m2⟩ := mapO_some hm
  have hsub : ∀ b, F b → FZ F bs σ b ∧ w.heap[b]? = w.heap[b]? := fun b hb => ⟨.inl hb, rfl⟩
  refine ⟨fun i blk hi => ?_, fun i j l l' h1 h2 he => ?_, fun i l hi => ?_, fun b hb => ?_⟩
  · rw [look_indexed] at hi
    have hil : i < bs.length := by rw [← m1]; exact (List.getElem?_eq_some_iff.1 hi).1
    obtain ⟨y, hyy, hb⟩ := m2 i _ (List.getElem?_eq_getElem hil)
    rw [hi] at hyy
    obtain rfl := Option.some.inj hyy
    have hout : outs bs σ i = σ bs[i] := by unfold outs; rw [List.getElem?_eq_getElem hil]
    unfold finB at hb
    split at hb
    · rename_i c k rows hlk
      obtain rfl := Option.some.inj hb
      rcases h.blk _ _ hlk with ⟨g1, g2⟩ | ⟨_, _, _, _, hbad, _⟩ | ⟨l, cs, T, g1, g2, g3, g4, g5, g6, g7⟩
      · exact .inl ⟨g1, by rw [hout]; exact g2⟩
      · cases hbad
      · refine .inr <| .inr ⟨l, cs, T, by rw [hout]; exact g1, g2, g3, g4, g5, fun i row hrow => ⟨(g6 i row hrow).1, fun j x hx => ?_⟩, g7⟩
        obtain ⟨v, e1, e2, e3⟩ := (g6 i row hrow).2 j x hx
        refine ⟨v, e1, e2, ?_⟩
        simp only [Blk.row?, Option.map_eq_some_iff] at hrow
        obtain ⟨r, _, rfl⟩ := hrow
        simp only [List.getElem?_map, Option.map_eq_some_iff] at hx
        obtain ⟨d, _, rfl⟩ := hx
        refine e3.keep0 (p := fun _ => true) hsub (fun _ _ _ h => by cases h) ?_
        unfold mkd
        split <;> rfl
    · rename_i k rows hlk
      simp only [Option.map_eq_some_iff] at hb
      obtain ⟨rows', hrows, rfl⟩ := hb
      obtain ⟨p1, p2⟩ := mapO_some hrows
      rcases h.blk _ _ hlk with ⟨g1, g2⟩ | ⟨_, _, _, _, hbad, _⟩ | ⟨l, cs, T, g1, g2, g3, g4, g5, g6, g7⟩
      · exact .inl ⟨by simp only [Blk.n] at g1 ⊢; omega, by rw [hout]; exact g2⟩
      · cases hbad
      · refine .inr <| .inr ⟨l, cs, T, by rw [hout]; exact g1, g2, g3, by simp only [Blk.n] at g4 ⊢; omega, g5, fun i row hrow => ?_, rfl⟩
        simp only [Blk.row?] at hrow
        have hi' : i < rows.length := by rw [← p1]; exact (List.getElem?_eq_some_iff.1 hrow).1
        obtain ⟨row', hrow', hm'⟩ := p2 i _ (List.getElem?_eq_getElem hi')
        rw [hrow] at hrow'
        obtain rfl := Option.some.inj hrow'
        obtain ⟨q1, q2⟩ := mapO_some hm'
        obtain ⟨r1, r2⟩ := g6 i rows[i] (by simp [Blk.row?, hi'])
        refine ⟨by simp only [Blk.k] at r1 ⊢; omega, fun j x hx => ?_⟩
        have hj : j < rows[i].length := by rw [← q1]; exact (List.getElem?_eq_some_iff.1 hx).1
        obtain ⟨x', hx', hfx⟩ := q2 j _ (List.getElem?_eq_getElem hj)
        rw [hx] at hx'
        obtain rfl := Option.some.inj hx'
        obtain ⟨v, e1, e2, e3⟩ := r2 j _ (List.getElem?_eq_getElem hj)
        exact ⟨v, e1, e2, finC_sound h hy v _ x hfx e3⟩
    · rename_i es hlk
      simp only [Option.map_eq_some_iff] at hb
      obtain ⟨es', hes, rfl⟩ := hb
      obtain ⟨p1, p2⟩ := mapO_some hes
      rcases h.blk _ _ hlk with ⟨g1, _⟩ | ⟨l, xs, ck, ds, hds, g1, g2, g3, g4, g5⟩ | ⟨_, _, _, _, _, _, _, _, _, hbad⟩
      · refine .inl ⟨?_, by rw [hout]; assumption⟩
        have hk := keys_mapO hes
        simp only [Blk.n, nilBuf, hk] at g1 ⊢
        exact g1
      · obtain rfl : es = ds := by injection hds
        refine .inr (.inl ⟨l, xs, ck, es', rfl, by rw [hout]; exact g1, g2.ofO rfl hes (fun q hq y hy v hv => finA_buf hy hv), g3, g4, by rw [g5.1, p1], fun j e p he hp => ?_⟩)
        have hj : j < es.length := by rw [← p1]; exact (List.getElem?_eq_some_iff.1 hp).1
        obtain ⟨y, hy', hfy⟩ := p2 j _ (List.getElem?_eq_getElem hj)
        rw [hp] at hy'
        obtain rfl := Option.some.inj hy'
        simp only [Option.map_eq_some_iff] at hfy
        obtain ⟨u, hu, rfl⟩ := hfy
        obtain ⟨q1, q2, q3⟩ := g5.2 j e _ he (List.getElem?_eq_getElem hj)
        exact ⟨q1, q2.flat q1, finA_sound h hy _ _ u hu q3⟩
      · simp [Blk.entries] at hbad
    · cases hb
  · obtain ⟨b, hb, h3⟩ := outs_some h1
    obtain ⟨b', hb', h4⟩ := outs_some h2
    obtain rfl := h.inj b b' l l' h3 h4 he
    have hi := (List.getElem?_eq_some_iff.1 hb).1
    exact (List.getElem?_inj hi hbs).1 (hb.trans hb'.symm)
  · obtain ⟨b, hb, h3⟩ := outs_some hi
    obtain ⟨o1, o2, o3, o4⟩ := h.own b l h3
    refine ⟨by rw [m1]; exact (List.getElem?_eq_some_iff.1 hb).1, ?_, o3.imp id (fun hx => ?_), o4⟩
    · rintro (hF | ⟨b', l', hl', he⟩)
      · exact o2 hF
      · obtain ⟨h5, h6⟩ := wo_some hl'
        obtain rfl := h.inj b' b l' l h6 h3 he
        have : b' ∈ bs := List.mem_of_getElem? hb
        simp [this] at h5
    · have := (List.getElem?_inj (List.getElem?_eq_some_iff.1 hb).1 hbs).1 (hb.trans (hX b _ hx).symm)
      rw [this]
      exact hx
  · rcases hb with hb | ⟨i, l, hl, rfl⟩
    · exact h.fro b hb
    · exact (h.own i l (wo_some hl).2).2.2.2

def rvGet (tmps : Array Value) (rv : ResultVar) : Sem Value := match rv with
  | .tmp t => pure (tmps.getD t undef)
  | .cell b t => do loadVar t (← asAddr (tmps.getD b undef))

theorem results_eq (fn : Func) (tmps : Array Value) : results fn tmps = (do
    let vs ← fn.results.mapM (rvGet tmps)
    pure (if h : vs.size = 1 then vs[0] else .tuple vs)) := by
  unfold results
  congr 1

theorem results_sound {K : Cx} {n m0 : Nat} {σ0 : Nat → Option Loc} {w0 : World} {F0 : Nat → Prop} {s : S} {a : Act} (h : StRel K X base w0 F0 m0 σ0 n s a w F σ) {fn : Func} {es : List E} {vs : List V} (he : mapO (resE P) fn.results.toList = some es) (hv : mapO (ev K s) es = some vs) :
    ∃ v, (results fn a.tmps).run P w = .ok v w ∧ RepV w F base σ v (oneOr vs) := by
  have one : ∀ (rv : ResultVar) (e : E) (x : V), resE P rv = some e → ev K s e = some x → ∃ v, (rvGet a.tmps rv).run P w = .ok v w ∧ RepV w F base σ v x := by
    intro rv e x he hx
    cases rv with
    | tmp t =>
      simp only [resE, Option.some.injEq] at he
      subst he
      simp only [ev] at hx
      exact ⟨_, rfl, h.rho t x hx⟩
    | cell b t =>
      simp only [resE] at he
      cases hi : P.info? t with
      | none => simp [hi] at he
      | some i =>
        cases hd : P.underlying t with
        | none => simp [hi, hd] at he
        | some d =>
          simp only [hi, hd, Option.some.injEq] at he
          subst he
          simp only [ev] at hx
          cases hp : look s.rho b with
          | none => simp [hp] at hx
          | some p =>
            simp only [hp] at hx
            rw [evLd_eq] at hx
            cases hc : cellsAt s.heap p with
            | none => simp [hc] at hx
            | some xs =>
              simp only [hc, Option.bind_some] at hx
              obtain ⟨ba, of, hva, hcell⟩ := cellsAt_sound h.heap hc (h.rho b p hp)
              obtain ⟨v, h1, h2⟩ := loadVar_sound (P := P) hd hi hcell hx
              exact ⟨v, by simp [rvGet, hva, asAddr, h1], h2⟩
  have many : ∀ (l : List ResultVar) (es : List E) (vs : List V), mapO (resE P) l = some es → mapO (ev K s) es = some vs → ∃ us : List Value, (l.mapM (rvGet a.tmps)).run P w = .ok us w ∧ us.length = vs.length ∧ ∀ (j : Nat) (v : Value) (x : V), us[j]? = some v → vs[j]? = some x → RepV w F base σ v x := by
    intro l
    induction l with
    | nil =>
      intro es vs he hv
      simp only [mapO, Option.some.injEq] at he
      subst he
      simp only [mapO, Option.some.injEq] at hv
      subst hv
      exact ⟨[], by simp, rfl, fun j v x h => by simp at h⟩
    | cons rv l ih =>
      intro es vs he hv
      simp only [mapO] at he
      cases hr : resE P rv with
      | none => simp [hr] at he
      | some e =>
        cases hl : mapO (resE P) l with
        | none => simp [hr, hl] at he
        | some es' =>
          simp only [hr, hl, Option.some.injEq] at he
          subst he
          simp only [mapO] at hv
          cases hx : ev K s e with
          | none => simp [hx] at hv
          | some x =>
            cases hxs : mapO (ev K s) es' with
            | none => simp [hx, hxs] at hv
            | some xs =>
              simp only [hx, hxs, Option.some.injEq] at hv
              subst hv
              obtain ⟨v, h1, h2⟩ := one rv e x hr hx
              obtain ⟨us, h3, h4, h5⟩ := ih es' xs hl hxs
              refine ⟨v :: us, ?_, by simp [h4], fun j u y hu hy => ?_⟩
              · rw [List.mapM_cons, Sem.run_bind, h1]
                show Sem.run P (do let a ← List.mapM _ l; pure (v :: a)) w = _
                rw [Sem.run_bind, h3]
                rfl
              · cases j with
                | zero => simp only [List.getElem?_cons_zero, Option.some.injEq] at hu hy; subst hu; subst hy; exact h2
                | succ j => exact h5 j u y (by simpa using hu) (by simpa using hy)
  obtain ⟨us, h1, h2, h3⟩ := many _ es vs he hv
  refine ⟨if h : us.length = 1 then us[0] else .tuple us.toArray, ?_, ?_⟩
  · rw [results_eq, Sem.run_bind]
    rw [Array.mapM_eq_mapM_toList, ← bind_pure_comp, Sem.run_bind, h1]
    show Sem.run P (pure (if h : us.toArray.size = 1 then us.toArray[0] else .tuple us.toArray)) w = _
    by_cases hu : us.length = 1
    · rw [dif_pos hu, dif_pos (by simpa using hu)]; rfl
    · rw [dif_neg hu, dif_neg (by simpa using hu)]; rfl
  · match us, vs, h2, h3 with
    | [], [], _, h3 => exact .tup _ _ rfl fun j v x hv hx => h3 j v x (by simp at hv) hx
    | [u], [x], _, h3 => exact h3 0 u x rfl rfl
    | u1 :: u2 :: us, x1 :: x2 :: xs, h2, h3 =>
      simp only [List.length_cons, Nat.reduceEqDiff, oneOr]
      rw [dif_neg (by simp)]
      exact .tup _ _ (by simpa using h2) fun j v x hv hx => h3 j v x (by simpa using hv) hx

theorem look_args (l : List V) : ∀ (k t : Nat) (v : V), look ((l.zipIdx k).map fun (v, i) => (i, v)) t = some v → k ≤ t ∧ l[t - k]? = some v := by
  induction l with
  | nil => intro k t v h; simp [look] at h
  | cons x l ih =>
    intro k t v h
    simp only [List.zipIdx_cons, List.map_cons, look] at h
    split at h
    · rename_i he
      subst he
      exact ⟨Nat.le_refl _, by simpa using h⟩
    · obtain ⟨h1, h2⟩ := ih (k + 1) t v h
      refine ⟨by omega, ?_⟩
      have : t - k = (t - (k + 1)) + 1 := by omega
      rw [this, List.getElem?_cons_succ]
      exact h2

theorem run_sound (hm : P.follows .mixedOrders = true) {K : Cx} (hd0 : K.dfr = []) (hK : K.Sound P) {f : FuncId} {g : Fun} {args : List V} {blks : List Blk} {r : V} {news : List Blk} {mv : List Nat} (hok : funOk P f blks.length args.length g = true) (hr : runFun K g args blks = some (r, news, mv))
    {w : World} {F : Nat → Prop} {σ : Nat → Option Loc} {vals : Array Value} (hG : GlobRel w F K.glob) (hH : HeapRel w F (OwnB σ) w.heap.size σ blks.length (indexed blks)) (hargs : Reps w F w.heap.size σ vals args) :
    callable P f = true ∧ Calls P f vals w fun e w' => ∃ v F' σ', e = .returned v ∧ Frame (OwnB σ) w.heap.size w w' ∧ (∀ b, F b → F' b) ∧ (∀ b, F' b → F b ∨ w.heap.size ≤ b) ∧
      RepV w' F' w.heap.size σ' v r ∧ HeapRel w' F' (OwnB σ) w.heap.size σ' news.length (indexed news) ∧ ∀ i l, i < blks.length → σ i = some l → i ∉ mv → σ' i = some l := by
  unfold funOk at hok
  cases hf : P.funcs[f]? with
  | none => simp [hf] at hok
  | some fn =>
    cases hb : fn.body with
    | none => simp [hf, hb] at hok
    | some code =>
      simp only [hf, hb, Bool.and_eq_true, decide_eq_true_eq] at hok
      obtain ⟨⟨⟨hc, hres⟩, hn⟩, hname⟩ := hok
      refine ⟨by simp [callable, hf, hb, hname], ?_⟩
      refine calls_of_wp hf hb ?_
      have hst : StRel K (OwnB σ) w.heap.size w F blks.length σ fn.ntmps (startS args blks) { tmps := vals ++ Array.replicate (fn.ntmps - vals.size) undef, defers := [] } w F σ := by
        refine ⟨hH, hG, Nat.le_refl _, .refl _ _ _, fun b hb => .inl hb, ?_, hd0.symm, fun t v hv => ?_, fun b blk h => ?_, fun _ _ _ h _ => h, Nat.le_refl _, fun b k hx => ?_, fun _ h => h⟩
        · have := hargs.1
          simp; omega
        · obtain ⟨_, hv'⟩ := look_args args 0 t v hv
          rw [Nat.sub_zero] at hv'
          have ht : t < vals.size := by rw [hargs.1]; exact (List.getElem?_eq_some_iff.1 hv').1
          have hget : (vals ++ Array.replicate (fn.ntmps - vals.size) undef).getD t undef = vals[t] := by
            rw [Array.getD_eq_getD_getElem?, Array.getElem?_append_left ht]
            simp [ht]
          show RepV w F w.heap.size σ ((vals ++ Array.replicate (fn.ntmps - vals.size) undef).getD t undef) v
          rw [hget]
          exact hargs.2 t _ v (by simp [ht]) hv'
        · have : (indexed blks).length = blks.length := by simp [indexed]
          simp only [startS] at h ⊢
          rw [look_indexed] at h
          exact (List.getElem?_eq_some_iff.1 h).1
        · obtain ⟨l, hl, _⟩ := hx
          exact (hH.own b l hl).1
      have fin : ∀ (s : S) (a : Act) (w' : World) (F' : Nat → Prop) (σ' : Nat → Option Loc) (vs : List V), StRel K (OwnB σ) w.heap.size w F blks.length σ fn.ntmps s a w' F' σ' → mapO (ev K s) g.res = some vs → finish blks.length g.own s (oneOr vs) = some (r, news, mv) →
          a.defers = [] ∧ ∃ v, (results fn a.tmps).run P w' = .ok v w' ∧ ∃ v' F' σ', Ending.returned v = .returned v' ∧ Frame (OwnB σ) w.heap.size w w' ∧ (∀ b, F b → F' b) ∧ (∀ b, F' b → F b ∨ w.heap.size ≤ b) ∧
            RepV w' F' w.heap.size σ' v' r ∧ HeapRel w' F' (OwnB σ) w.heap.size σ' news.length (indexed news) ∧ ∀ i l, i < blks.length → σ i = some l → i ∉ mv → σ' i = some l := by
        intro s a w' F' σ' vs hs hvs hfin
        obtain ⟨v, h1, h2⟩ := results_sound hs hres hvs
        unfold finish at hfin
        simp only at hfin
        generalize (if g.own = true then reachB s.heap (refN s.heap + 64) [] (List.range blks.length ++ (oneOr vs).refs) else List.range blks.length) = bs at hfin
        split at hfin
        case isFalse => cases hfin
        rename_i hc2
        simp only [Bool.and_eq_true, decide_eq_true_eq] at hc2
        obtain ⟨hnd, hpre⟩ := hc2
        cases h3 : finV (blks.length == 0) bs s.heap (oneOr vs) with
        | none => simp [h3] at hfin
        | some r' =>
          cases h4 : mapO (finB (blks.length == 0) bs s.heap) bs with
          | none => simp [h3, h4] at hfin
          | some news' =>
            simp only [h3, h4, Option.some.injEq, Prod.mk.injEq] at hfin
            obtain ⟨rfl, rfl, rfl⟩ := hfin
            have hpin : ∀ b, b < blks.length → bs[b]? = some b := fun b hb' => by
              have : (bs.take blks.length)[b]? = some b := by rw [hpre]; simp [hb']
              simpa [List.getElem?_take, hb'] using this
            have hX : ∀ b k, OwnB σ b k → bs[b]? = some b := fun b k hx => hpin b (hs.xm b k hx)
            have hy : Young (OwnB σ) w.heap.size bs σ' := by
              intro i l hl
              obtain ⟨hni, hl'⟩ := wo_some hl
              rcases (hs.heap.own i l hl').2.2.1 with h | h
              · exact h
              · have := List.mem_of_getElem? (hX i _ h)
                simp [this] at hni
            refine ⟨hs.dfr.trans hd0, v, h1, v, FZ F' bs σ', outs bs σ', rfl, hs.frame, fun b hb' => .inl (hs.sub b hb'), fun b hb' => ?_, finV_sound hs.heap hy h3 h2, finB_heap hs.heap hy hnd hX h4, fun i l hi hl hm' => ?_⟩
            · rcases hb' with hb' | ⟨i, l, hl, rfl⟩
              · exact hs.frz b hb'
              · exact .inr (hy i l hl)
            · unfold outs
              rw [hpin i hi]
              exact hs.stab i l hi hl (fun hc => hm' (List.mem_filter.2 ⟨List.mem_range.2 hi, by simpa [List.contains_eq_mem] using hc⟩))
      unfold runFun at hr
      cases hex : exec K g.body (startS args blks) with
      | none => simp [hex] at hr
      | some p =>
        obtain ⟨ex, s⟩ := p
        refine wp_mono (exec_sound hm hK g.body code _ _ _ _ _ _ hc hex hst) fun e a w' hp => ?_
        obtain ⟨rfl, F', σ', hs⟩ := hp
        cases ex with
        | nrm =>
          simp only [hex] at hr
          cases hvs : mapO (ev K s) g.res with
          | none => simp [hvs] at hr
          | some vs =>
            simp only [hvs] at hr
            exact fin s a w' F' σ' vs hs hvs hr
        | ret =>
          simp only [hex] at hr
          cases hvs : mapO (ev K s) g.res with
          | none => simp [hvs] at hr
          | some vs =>
            simp only [hvs] at hr
            exact fin s a w' F' σ' vs hs hvs hr
        | exit id => simp [hex] at hr
        | goto l => simp [hex] at hr

theorem pure_sound (hm : P.follows .mixedOrders = true) {K : Cx} (hK : K.Sound P) {f : FuncId} {g : Fun} {args : List V} {r : V} {news : List Blk} {mv : List Nat} (hok : funOk P f 0 args.length g = true) (hr : runFun K g args [] = some (r, news, mv)) (hd0 : K.dfr = [] := by rfl) :
    callable P f = true ∧ PureCall P K.glob f args r news := by
  have hcal : callable P f = true := by
    unfold funOk at hok
    cases hf : P.funcs[f]? with
    | none => simp [hf] at hok
    | some fn =>
      cases hb : fn.body with
      | none => simp [hf, hb] at hok
      | some code =>
        simp only [hf, hb, Bool.and_eq_true] at hok
        simp [callable, hf, hb, hok.2]
  refine ⟨hcal, fun w F vals hF hG hargs => ?_⟩
  have hX : ∀ b k, ¬ OwnB (fun _ => none) b k := by rintro b k ⟨l, h, _⟩; cases h
  have hH : HeapRel w F (OwnB fun _ => none) w.heap.size (fun _ => none) ([] : List Blk).length (indexed []) := ⟨fun b blk h => by simp [indexed, look] at h, fun b b' l l' h => (by cases h), fun b l h => (by cases h), hF⟩
  obtain ⟨_, h⟩ := run_sound hm hd0 hK hok hr hG hH hargs
  refine h.mono fun e w' ⟨v, F', σ', he, hfr, _, hF', hR, hHr, _⟩ => ⟨v, F', σ', he, ⟨hfr.os, hfr.tape, hfr.output, hfr.size, fun k hk => hfr.block k hk (fun b => hX b k)⟩, hF', hR, ⟨hHr.blk, hHr.inj, fun b l hb => ?_, hHr.fro⟩⟩
  obtain ⟨o1, o2, o3, o4⟩ := hHr.own b l hb
  exact ⟨o1, o2, o3.imp id (fun hx => hX b _ hx), o4⟩

theorem eff_sound (hm : P.follows .mixedOrders = true) {K : Cx} (hK : K.Sound P) {f : FuncId} {g : Fun} {args : List V} {blks : List Blk} {r : V} {news : List Blk} {mv : List Nat} (hok : funOk P f blks.length args.length g = true) (hr : runFun K g args blks = some (r, news, mv)) (hd0 : K.dfr = [] := by rfl) :
    callable P f = true ∧ EffCall P K.glob f args blks r news mv := by
  have hcal : callable P f = true := by
    unfold funOk at hok
    cases hf : P.funcs[f]? with
    | none => simp [hf] at hok
    | some fn =>
      cases hb : fn.body with
      | none => simp [hf, hb] at hok
      | some code =>
        simp only [hf, hb, Bool.and_eq_true] at hok
        simp [callable, hf, hb, hok.2]
  exact ⟨hcal, fun w F σ vals hG hH hargs => (run_sound hm hd0 hK hok hr hG hH hargs).2⟩

end Go.Vm
end

section
namespace Go.Vm

theorem iter_more {f : S → Option (Ex × S)} : ∀ {n : Nat} {s : S} {r : Ex × S}, iter f n s = some r → ∀ m, n ≤ m → iter f m s = some r
  | 0, s, r, h, m, _ => by simp [iter] at h
  | n + 1, s, r, h, 0, hm => by omega
  | n + 1, s, r, h, m + 1, hm => by
    simp only [iter] at h ⊢
    cases hf : f s with
    | none => simp [hf] at h
    | some p =>
      obtain ⟨e, s'⟩ := p
      cases e with
      | nrm => simp only [hf] at h ⊢; exact iter_more h m (by omega)
      | exit id => simpa [hf] using h
      | goto l => simpa [hf] using h
      | ret => simpa [hf] using h

theorem loopF_of {f : S → Option (Ex × S)} {n : Nat} {s : S} {r : Ex × S} (h : iter f n s = some r) : loopF f s = some r := by
  have hex : ∃ n, (iter f n s).isSome := ⟨n, by rw [h]; rfl⟩
  unfold loopF
  rw [dif_pos hex]
  have hc := hex.choose_spec
  obtain ⟨r', hr'⟩ := Option.isSome_iff_exists.1 hc
  have h1 := iter_more h (n + hex.choose) (by omega)
  have h2 := iter_more hr' (n + hex.choose) (by omega)
  rw [hr', ← h2, h1]

theorem jumps_more {f : Nat → Option (S → Option (Ex × S))} : ∀ {n : Nat} {q : Option (Ex × S)} {r : Ex × S}, jumps f n q = some r → ∀ m, n ≤ m → jumps f m q = some r
  | 0, q, r, h, m, _ => by simp [jumps] at h
  | n + 1, q, r, h, 0, hm => by omega
  | n + 1, q, r, h, m + 1, hm => by
    simp only [jumps] at h ⊢
    cases q with
    | none => simp at h
    | some p =>
      obtain ⟨e, s'⟩ := p
      cases e with
      | goto l =>
        simp only at h ⊢
        cases hl : f l with
        | none => simp [hl] at h
        | some g => simp only [hl] at h ⊢; exact jumps_more h m (by omega)
      | nrm => simpa using h
      | exit id => simpa using h
      | ret => simpa using h

theorem scopeF_of {f : Nat → Option (S → Option (Ex × S))} {n : Nat} {q : Option (Ex × S)} {r : Ex × S} (h : jumps f n q = some r) : scopeF f q = some r := by
  have hex : ∃ n, (jumps f n q).isSome := ⟨n, by rw [h]; rfl⟩
  unfold scopeF
  rw [dif_pos hex]
  have hc := hex.choose_spec
  obtain ⟨r', hr'⟩ := Option.isSome_iff_exists.1 hc
  have h1 := jumps_more h (n + hex.choose) (by omega)
  have h2 := jumps_more hr' (n + hex.choose) (by omega)
  rw [hr', ← h2, h1]

end Go.Vm
end

section
namespace Go.Vm

mutual
def D.eqb : D → D → Bool
  | .int k n, .int k' n' => decide (k = k') && decide (n = n')
  | .bool b, .bool b' => b == b'
  | .str s, .str s' => decide (s = s')
  | .sl k rows, .sl k' rows' => decide (k = k') && dRows rows rows'
  | .ptr cs, .ptr cs' => dRow cs cs'
  | .nilp, .nilp => true
  | .nilif, .nilif => true
  | .nilfn, .nilfn => true
  | .nilm, .nilm => true
  | .nils k, .nils k' => decide (k = k')
  | .emps k, .emps k' => decide (k = k')
  | .iface t cs, .iface t' cs' => decide (t = t') && dRow cs cs'
  | _, _ => false
def dRow : List D → List D → Bool
  | [], [] => true
  | a :: r, b :: s => a.eqb b && dRow r s
  | _, _ => false
def dRows : List (List D) → List (List D) → Bool
  | [], [] => true
  | a :: r, b :: s => dRow a b && dRows r s
  | _, _ => false
end
mutual
theorem D.eqb_ok : ∀ {x y : D}, x.eqb y = true → x = y := by
  intro x y h
  cases x <;> cases y <;> simp only [D.eqb, Bool.and_eq_true, decide_eq_true_eq, beq_iff_eq, reduceCtorEq, Bool.false_eq_true] at h <;> try rfl
  · obtain ⟨rfl, rfl⟩ := h; rfl
  · subst h; rfl
  · subst h; rfl
  · obtain ⟨rfl, h⟩ := h; rw [dRows_ok h]
  · rw [dRow_ok h]
  · obtain ⟨rfl, h⟩ := h; rw [dRow_ok h]
  · subst h; rfl
  · subst h; rfl
theorem dRow_ok : ∀ {x y : List D}, dRow x y = true → x = y := by
  intro x y h
  cases x with
  | nil => cases y with
    | nil => rfl
    | cons b s => simp [dRow] at h
  | cons a r => cases y with
    | nil => simp [dRow] at h
    | cons b s =>
      simp only [dRow, Bool.and_eq_true] at h
      rw [D.eqb_ok h.1, dRow_ok h.2]
theorem dRows_ok : ∀ {x y : List (List D)}, dRows x y = true → x = y := by
  intro x y h
  cases x with
  | nil => cases y with
    | nil => rfl
    | cons b s => simp [dRows] at h
  | cons a r => cases y with
    | nil => simp [dRows] at h
    | cons b s =>
      simp only [dRows, Bool.and_eq_true] at h
      rw [dRow_ok h.1, dRows_ok h.2]
end

def V.eqb1 : V → V → Bool
  | .d c x, .d c' x' => c == c' && x.eqb x'
  | .fs c k r, .fs c' k' r' => c == c' && decide (k = k') && dRows r r'
  | _, _ => false
def vRow : List V → List V → Bool
  | [], [] => true
  | a :: r, b :: s => a.eqb1 b && vRow r s
  | _, _ => false
def V.eqb : V → V → Bool
  | .agg cs, .agg cs' => vRow cs cs'
  | v, u => v.eqb1 u
theorem V.eqb1_ok {v u : V} (h : v.eqb1 u = true) : v = u ∧ v.own1 = false := by
  cases v <;> cases u <;> simp only [V.eqb1, Bool.and_eq_true, decide_eq_true_eq, beq_iff_eq, Bool.false_eq_true] at h
  · obtain ⟨rfl, h⟩ := h; rw [D.eqb_ok h]; exact ⟨rfl, rfl⟩
  · obtain ⟨⟨rfl, rfl⟩, h⟩ := h; rw [dRows_ok h]; exact ⟨rfl, rfl⟩
theorem vRow_ok : ∀ {x y : List V}, vRow x y = true → x = y ∧ x.any V.own1 = false := by
  intro x
  induction x with
  | nil => intro y h; cases y with
    | nil => exact ⟨rfl, rfl⟩
    | cons b s => simp [vRow] at h
  | cons a r ih => intro y h; cases y with
    | nil => simp [vRow] at h
    | cons b s =>
      simp only [vRow, Bool.and_eq_true] at h
      obtain ⟨h1, h2⟩ := V.eqb1_ok h.1
      obtain ⟨h3, h4⟩ := ih h.2
      rw [← h1, ← h3]
      exact ⟨rfl, by simp [h2, h4]⟩
theorem V.eqb_ok {v u : V} (h : v.eqb u = true) : v = u ∧ v.own = false := by
  cases v with
  | agg cs => cases u with
    | agg cs' =>
      simp only [V.eqb] at h
      obtain ⟨h1, h2⟩ := vRow_ok h
      exact ⟨by rw [h1], h2⟩
    | _ => simp [V.eqb, V.eqb1] at h
  | d c x => exact V.eqb1_ok (v := .d c x) (by cases u <;> exact h)
  | fs c k r => exact V.eqb1_ok (v := .fs c k r) (by cases u <;> exact h)
  | _ => cases u <;> simp [V.eqb, V.eqb1] at h

def lateB (mv : List Nat) : V → V → Bool
  | .ptr b i j, .ptr b' i' j' => b == b' && i == i' && j == j' && !mv.contains b
  | .bsl b i j, .bsl b' i' j' => b == b' && i == i' && j == j' && !mv.contains b
  | .map b, .map b' => b == b' && !mv.contains b
  | v, u => v.eqb u
theorem lateB_ok {mv : List Nat} {v u : V} (h : lateB mv v u = true) : v = u ∧ lateV mv v := by
  have other : v.eqb u = true → v = u ∧ lateV mv v := fun h => by
    obtain ⟨h1, h2⟩ := V.eqb_ok h
    refine ⟨h1, ?_⟩
    cases v with
    | ptr b i j => simp [V.own, V.own1] at h2
    | bsl b i j => simp [V.own, V.own1] at h2
    | map b => simp [V.own, V.own1] at h2
    | _ => exact h2
  unfold lateB at h
  split at h
  · simp only [Bool.and_eq_true, beq_iff_eq, Bool.not_eq_true'] at h
    obtain ⟨⟨⟨rfl, rfl⟩, rfl⟩, h⟩ := h
    exact ⟨rfl, h⟩
  · simp only [Bool.and_eq_true, beq_iff_eq, Bool.not_eq_true'] at h
    obtain ⟨⟨⟨rfl, rfl⟩, rfl⟩, h⟩ := h
    exact ⟨rfl, h⟩
  · simp only [Bool.and_eq_true, beq_iff_eq, Bool.not_eq_true'] at h
    obtain ⟨rfl, h⟩ := h
    exact ⟨rfl, h⟩
  · exact other h

def lateC (X : Cx) (s : S) (mv : List Nat) (H1 : List (Nat × Blk)) (g : Seg) : Bool := g.late.isEmpty || match evMks X s g.mks with
  | none => true
  | some (s1, _) => g.late.all fun e => match ev X (clean mv (lateH X s g mv H1) s1) e, ev X s1 e with
    | some v, some u => lateB mv v u
    | _, _ => false
theorem lateC_ok {X : Cx} {s : S} {mv : List Nat} {H1 : List (Nat × Blk)} {g : Seg} (h : lateC X s mv H1 g = true) : lateOk X s mv H1 g := by
  intro e he s1 news hm
  unfold lateC at h
  rw [hm] at h
  simp only [Bool.or_eq_true, List.isEmpty_iff, List.all_eq_true] at h
  rcases h with h | h
  · rw [h] at he; simp at he
  · have := h e he
    cases h1 : ev X (clean mv (lateH X s g mv H1) s1) e with
    | none => rw [h1] at this; simp at this
    | some v => cases h2 : ev X s1 e with
      | none => rw [h1, h2] at this; simp at this
      | some u =>
        rw [h1, h2] at this
        obtain ⟨rfl, h3⟩ := lateB_ok this
        exact ⟨v, rfl, rfl, h3⟩

def evSegC (X : Cx) (s : S) (g : Seg) : Option S := match evSeg0 X s g with
  | some s' => if lateC X s (newMv s s') s'.heap g then some s' else none
  | none => none
theorem evSegC_ok {X : Cx} {g : Seg} {s s' : S} (h : evSegC X s g = some s') : evSeg X s g = some s' := by
  unfold evSegC at h
  unfold evSeg
  cases h0 : evSeg0 X s g with
  | none => rw [h0] at h; cases h
  | some s1 =>
    rw [h0] at h
    simp only at h ⊢
    by_cases hl : lateC X s (newMv s s1) s1.heap g = true
    · rw [if_pos hl] at h
      rw [if_pos (lateC_ok hl)]
      exact h
    · rw [if_neg hl] at h; cases h
def evSegsC (X : Cx) (s : S) : List Seg → Option S
  | [] => some s
  | g :: r => match evSegC X s g with
    | some s' => evSegsC X s' r
    | none => none
theorem evSegsC_ok {X : Cx} : ∀ {l : List Seg} {s s' : S}, evSegsC X s l = some s' → evSegs X s l = some s' := by
  intro l
  induction l with
  | nil => intro s s' h; exact h
  | cons g l ih =>
    intro s s' h
    simp only [evSegsC] at h
    simp only [evSegs]
    cases h0 : evSegC X s g with
    | none => rw [h0] at h; cases h
    | some s1 => rw [h0] at h; rw [evSegC_ok h0]; exact ih h
def evSegGC (C : Cx) (s : S) (p : Pre) (g : Seg) : Option S := match p.sg with
  | none => evSegC C s g
  | some (t, b) => match look s.rho t with
    | some (.d _ (.bool x)) => if x = b then evSegC C s g else some (skipS s (keepG g))
    | _ => none
theorem evSegGC_ok {X : Cx} {p : Pre} {g : Seg} {s s' : S} (h : evSegGC X s p g = some s') : evSegG X s p g = some s' := by
  unfold evSegGC at h
  unfold evSegG
  split at h
  · rename_i e; rw [e]; exact evSegC_ok h
  · rename_i t b e
    rw [e]
    simp only
    split at h
    · rename_i c x hl
      rw [hl]
      simp only
      split at h
      · rename_i hx; rw [if_pos hx]; exact evSegC_ok h
      · rename_i hx; rw [if_neg hx]; exact h
    · cases h
def evSegsGC (m : Nat) (C : Cx) (s : S) : List (Pre × Seg) → Option S
  | [] => some s
  | (p, g) :: r => match evSegGC C (frzL m p.fz s) p g with
    | some s' => evSegsGC m C s' r
    | none => none
theorem evSegsGC_ok {X : Cx} {m : Nat} : ∀ {l : List (Pre × Seg)} {s s' : S}, evSegsGC m X s l = some s' → evSegsG m X s l = some s' := by
  intro l
  induction l with
  | nil => intro s s' h; exact h
  | cons q l ih =>
    intro s s' h
    obtain ⟨p, g⟩ := q
    simp only [evSegsGC] at h
    simp only [evSegsG]
    cases h0 : evSegGC X (frzL m p.fz s) p g with
    | none => rw [h0] at h; cases h
    | some s1 => rw [h0] at h; rw [evSegGC_ok h0]; exact ih h

def sameC (X : Cx) (s s2 : S) (g : Seg) : Bool := g.late.isEmpty || match evMks X s g.mks with
  | some (s1, _) => g.late.all fun e => match ev X s2 e, ev X s1 e with
    | some v, some u => lateB [] v u
    | _, _ => false
  | none => true
theorem sameC_ok {X : Cx} {s s2 : S} {g : Seg} (h : sameC X s s2 g = true) : sameOk X s s2 g := by
  intro e he s1 news hm
  unfold sameC at h
  rw [hm] at h
  simp only [Bool.or_eq_true, List.isEmpty_iff, List.all_eq_true] at h
  rcases h with h | h
  · rw [h] at he; simp at he
  · have := h e he
    cases h1 : ev X s2 e with
    | none => simp [h1] at this
    | some v =>
      cases h2 : ev X s1 e with
      | none => simp [h1, h2] at this
      | some u =>
        rw [h1, h2] at this
        rw [(lateB_ok this).1]
def evSegsLC (C : Cx) (s : S) : List Seg → Option S
  | [] => some s
  | g :: r => match evSegC C s g with
    | some s' => if r.isEmpty || sameC C s s' g then evSegsLC C s' r else none
    | none => none
theorem evSegsLC_ok {X : Cx} : ∀ {l : List Seg} {s s' : S}, evSegsLC X s l = some s' → evSegsL X s l = some s' := by
  intro l
  induction l with
  | nil => intro s s' h; exact h
  | cons g l ih =>
    intro s s' h
    simp only [evSegsLC] at h
    simp only [evSegsL]
    cases h0 : evSegC X s g with
    | none => rw [h0] at h; cases h
    | some s1 =>
      rw [h0] at h
      rw [evSegC_ok h0]
      simp only at h ⊢
      split at h
      · rename_i hc
        rw [if_pos ?_]
        · exact ih h
        · simp only [Bool.or_eq_true, List.isEmpty_iff] at hc
          exact hc.imp id sameC_ok
      · cases h

def execC (N : Nat) (X : Cx) : C → S → Option (Ex × S)
  | .skip, s => some (.nrm, s)
  | .regg m l, s => match evSegsGC m X s l with
    | some s' => some (.nrm, s')
    | none => none
  | .regl l, s => match evSegsLC X s l with
    | some s' => some (.nrm, s')
    | none => none
  | .regp _ l, s => match evSegsLC X s l with
    | some s' => some (.nrm, s')
    | none => none
  | .ownc t j k, s => some (.nrm, owncS t j k s)
  | .reg l, s => match evSegsC X s l with
    | some s' => some (.nrm, s')
    | none => none
  | .seq a b, s => match execC N X a s with
    | some (.nrm, s') => execC N X b s'
    | r => r
  | .cond e a b, s => match ev X s e with
    | some (.d _ (.bool x)) => if x then execC N X a s else execC N X b s
    | _ => none
  | .block id c, s => match execC N X c s with
    | some (.exit i, s') => if i = id then some (.nrm, s') else some (.exit i, s')
    | r => r
  | .loop c, s => iter (execC N X c) N s
  | .exit id, s => some (.exit id, s)
  | .scope c ls, s => jumps (fun l => labelled N X ls l) N (execC N X c s)
  | .lnil, _ => none
  | .lcons _ _ _, _ => none
  | .label _, s => some (.nrm, s)
  | .goto l, s => some (.goto l, s)
  | .ret, s => some (.ret, s)
  | .tidy m slots, s => match tidyS m slots s with
    | some s' => some (.nrm, s')
    | none => none
  | .own t k, s => match look s.rho t with
    | some (.fs _ k' []) => if k' = k then some (.nrm, ⟨put s.rho t (.bsl s.nx 0 0), (s.nx, .dat true k []) :: s.heap, s.nx + 1, s.mv⟩) else some (.nrm, s)
    | _ => some (.nrm, s)
  | .frz m t j, s => some (.nrm, frzS m t j s)
  | .keep sl, s => some (.nrm, skipS s sl)
  | .stuck, _ => none
  where
  labelled (N : Nat) (X : Cx) : C → Nat → Option (S → Option (Ex × S))
    | .lcons l c ls, l' => if l = l' then some (execC N X c) else labelled N X ls l'
    | _, _ => none

theorem iter_le {f g : S → Option (Ex × S)} (h : ∀ s r, f s = some r → g s = some r) : ∀ (n : Nat) (s : S) (r : Ex × S), iter f n s = some r → iter g n s = some r := by
  intro n
  induction n with
  | zero => intro s r h; cases h
  | succ n ih =>
    intro s r hr
    simp only [iter] at hr ⊢
    cases hf : f s with
    | none => rw [hf] at hr; cases hr
    | some q =>
      rw [h s q hf]
      rw [hf] at hr
      obtain ⟨e, s'⟩ := q
      cases e with
      | nrm => exact ih s' r hr
      | _ => exact hr
theorem jumps_le {f g : Nat → Option (S → Option (Ex × S))} (h : ∀ l k, f l = some k → ∃ k', g l = some k' ∧ ∀ s r, k s = some r → k' s = some r) : ∀ (n : Nat) (q q' : Option (Ex × S)) (r : Ex × S), (∀ x, q = some x → q' = some x) → jumps f n q = some r → jumps g n q' = some r := by
  intro n
  induction n with
  | zero => intro q q' r _ h; cases h
  | succ n ih =>
    intro q q' r hq hr
    cases q with
    | none => simp [jumps] at hr
    | some x =>
      rw [hq x rfl]
      obtain ⟨e, s⟩ := x
      cases e with
      | goto l =>
        simp only [jumps] at hr ⊢
        cases hl : f l with
        | none => rw [hl] at hr; cases hr
        | some k =>
          obtain ⟨k', h1, h2⟩ := h l k hl
          rw [hl] at hr
          rw [h1]
          exact ih _ _ r (fun x hx => h2 s x hx) hr
      | _ => exact hr

theorem execC_ok (N : Nat) (X : Cx) : ∀ c : C, (∀ s r, execC N X c s = some r → exec X c s = some r) ∧ ∀ l k, execC.labelled N X c l = some k → ∃ k', exec.labelled X c l = some k' ∧ ∀ s r, k s = some r → k' s = some r := by
  intro c
  induction c with
  | skip => exact ⟨fun s r h => h, fun l k h => by simp [execC.labelled] at h⟩
  | reg l =>
    refine ⟨fun s r h => ?_, fun l k h => by simp [execC.labelled] at h⟩
    simp only [execC] at h
    simp only [exec]
    cases hs : evSegsC X s l with
    | none => rw [hs] at h; cases h
    | some s' => rw [hs] at h; rw [evSegsC_ok hs]; exact h
  | seq a b iha ihb =>
    refine ⟨fun s r h => ?_, fun l k h => by simp [execC.labelled] at h⟩
    simp only [execC] at h
    simp only [exec]
    cases hs : execC N X a s with
    | none => rw [hs] at h; cases h
    | some q =>
      rw [hs] at h
      rw [iha.1 s q hs]
      obtain ⟨e, s'⟩ := q
      cases e with
      | nrm => exact ihb.1 s' r h
      | _ => exact h
  | cond e a b iha ihb =>
    refine ⟨fun s r h => ?_, fun l k h => by simp [execC.labelled] at h⟩
    simp only [execC] at h
    simp only [exec]
    split at h
    · rename_i x hx
      rw [hx]
      simp only
      cases x with
      | true => exact iha.1 s r h
      | false => exact ihb.1 s r h
    · cases h
  | block id c ih =>
    refine ⟨fun s r h => ?_, fun l k h => by simp [execC.labelled] at h⟩
    simp only [execC] at h
    simp only [exec]
    cases hs : execC N X c s with
    | none => rw [hs] at h; cases h
    | some q =>
      rw [hs] at h
      rw [ih.1 s q hs]
      exact h
  | loop c ih =>
    refine ⟨fun s r h => ?_, fun l k h => by simp [execC.labelled] at h⟩
    simp only [execC] at h
    simp only [exec]
    exact loopF_of (iter_le ih.1 N s r h)
  | exit id => exact ⟨fun s r h => h, fun l k h => by simp [execC.labelled] at h⟩
  | scope c ls ihc ihl =>
    refine ⟨fun s r h => ?_, fun l k h => by simp [execC.labelled] at h⟩
    simp only [execC] at h
    simp only [exec]
    exact scopeF_of (jumps_le ihl.2 N _ _ r (fun x hx => ihc.1 s x hx) h)
  | lnil => exact ⟨fun s r h => by simp [execC] at h, fun l k h => by simp [execC.labelled] at h⟩
  | lcons l c ls ihc ihl =>
    refine ⟨fun s r h => by simp [execC] at h, fun l' k h => ?_⟩
    simp only [execC.labelled] at h
    simp only [exec.labelled]
    by_cases e : l = l'
    · rw [if_pos e] at h ⊢
      obtain rfl := Option.some.inj h
      exact ⟨_, rfl, ihc.1⟩
    · rw [if_neg e] at h ⊢
      exact ihl.2 l' k h
  | label l => exact ⟨fun s r h => h, fun l k h => by simp [execC.labelled] at h⟩
  | goto l => exact ⟨fun s r h => h, fun l k h => by simp [execC.labelled] at h⟩
  | ret => exact ⟨fun s r h => h, fun l k h => by simp [execC.labelled] at h⟩
  | tidy m slots => exact ⟨fun s r h => h, fun l k h => by simp [execC.labelled] at h⟩
  | own t k => exact ⟨fun s r h => h, fun l k h => by simp [execC.labelled] at h⟩
  | stuck => exact ⟨fun s r h => by simp [execC] at h, fun l k h => by simp [execC.labelled] at h⟩
  | keep sl => exact ⟨fun s r h => h, fun l k h => by simp [execC.labelled] at h⟩
  | frz m t j => exact ⟨fun s r h => h, fun l k h => by simp [execC.labelled] at h⟩
  | ownc t j k => exact ⟨fun s r h => h, fun l k h => by simp [execC.labelled] at h⟩
  | regl l =>
    refine ⟨fun s r h => ?_, fun l k h => by simp [execC.labelled] at h⟩
    simp only [execC] at h
    simp only [exec]
    cases h0 : evSegsLC X s l with
    | none => rw [h0] at h; cases h
    | some s1 => rw [h0] at h; rw [evSegsLC_ok h0]; exact h
  | regp π l =>
    refine ⟨fun s r h => ?_, fun l k h => by simp [execC.labelled] at h⟩
    simp only [execC] at h
    simp only [exec]
    cases h0 : evSegsLC X s l with
    | none => rw [h0] at h; cases h
    | some s1 => rw [h0] at h; rw [evSegsLC_ok h0]; exact h
  | regg m l =>
    refine ⟨fun s r h => ?_, fun l k h => by simp [execC.labelled] at h⟩
    simp only [execC] at h
    simp only [exec]
    cases h0 : evSegsGC m X s l with
    | none => rw [h0] at h; cases h
    | some s1 => rw [h0] at h; rw [evSegsGC_ok h0]; exact h

def runFunC (N : Nat) (K : Cx) (g : Fun) (args : List V) (blks : List Blk) : Option (V × List Blk × List Nat) :=
  match execC N K g.body (startS args blks) with
  | some (.nrm, s) => match mapO (ev K s) g.res with
    | some vs => finish blks.length g.own s (oneOr vs)
    | none => none
  | some (.ret, s) => match mapO (ev K s) g.res with
    | some vs => finish blks.length g.own s (oneOr vs)
    | none => none
  | _ => none
theorem runFunC_ok {N : Nat} {K : Cx} {g : Fun} {args : List V} {blks : List Blk} {r : V × List Blk × List Nat} (h : runFunC N K g args blks = some r) : runFun K g args blks = some r := by
  unfold runFunC at h
  unfold runFun
  cases hs : execC N K g.body (startS args blks) with
  | none => rw [hs] at h; cases h
  | some q =>
    rw [hs] at h
    rw [(execC_ok N K g.body).1 _ _ hs]
    exact h

structure Row where
  f : FuncId
  m : Nat
  n : Nat
  g : Fun
variable {P : Program}
end Go.Vm
end

section
namespace Go.Vm

structure Sp where
  α : Type
  f : FuncId
  ok : α → Prop
  args : α → List V
  res : α → V × List Blk
  inj : ∀ a b, ok a → ok b → args a = args b → res a = res b

structure Se where
  α : Type
  f : FuncId
  ok : α → Prop
  args : α → List V
  blks : α → List Blk
  res : α → V × List Blk × List Nat
  inj : ∀ a b, ok a → ok b → args a = args b → blks a = blks b → res a = res b

open Classical in
noncomputable def callOf : List Sp → FuncId → List V → Option (V × List Blk)
  | [], _, _ => none
  | s :: L, f, vs => if s.f = f then (if h : ∃ a, s.ok a ∧ s.args a = vs then some (s.res h.choose) else none) else callOf L f vs
open Classical in
noncomputable def effOf : List Se → FuncId → List V → List Blk → Option (V × List Blk × List Nat)
  | [], _, _, _ => none
  | s :: L, f, vs, bs => if s.f = f then (if h : ∃ a, s.ok a ∧ s.args a = vs ∧ s.blks a = bs then some (s.res h.choose) else none) else effOf L f vs bs

noncomputable def cx (G : Nat → Option (List D)) (L : List Sp) (E : List Se) : Cx := ⟨callOf L, effOf E, G, fun _ => false, []⟩

def Has (L : List Sp) (s : Sp) : Prop := ∀ a, s.ok a → callOf L s.f (s.args a) = some (s.res a)
def HasE (L : List Se) (s : Se) : Prop := ∀ a, s.ok a → effOf L s.f (s.args a) (s.blks a) = some (s.res a)

theorem has_head (s : Sp) (L : List Sp) : Has (s :: L) s := by
  intro a ha
  have h : ∃ b, s.ok b ∧ s.args b = s.args a := ⟨a, ha, rfl⟩
  simp only [callOf, if_true]
  rw [dif_pos h]
  exact congrArg some (s.inj _ _ h.choose_spec.1 ha h.choose_spec.2)
theorem has_tail {s t : Sp} {L : List Sp} (h : Has L s) (hne : t.f ≠ s.f) : Has (t :: L) s := by
  intro a ha
  simp only [callOf]
  rw [if_neg hne]
  exact h a ha
theorem hasE_head (s : Se) (L : List Se) : HasE (s :: L) s := by
  intro a ha
  have h : ∃ b, s.ok b ∧ s.args b = s.args a ∧ s.blks b = s.blks a := ⟨a, ha, rfl, rfl⟩
  simp only [effOf, if_true]
  rw [dif_pos h]
  exact congrArg some (s.inj _ _ h.choose_spec.1 ha h.choose_spec.2.1 h.choose_spec.2.2)

variable {P : Program} {G : Nat → Option (List D)}

def Sp.Holds (P : Program) (G : Nat → Option (List D)) (s : Sp) : Prop := ∀ a, s.ok a → callable P s.f = true ∧ PureCall P G s.f (s.args a) (s.res a).1 (s.res a).2
def Se.Holds (P : Program) (G : Nat → Option (List D)) (s : Se) : Prop := ∀ a, s.ok a → callable P s.f = true ∧ EffCall P G s.f (s.args a) (s.blks a) (s.res a).1 (s.res a).2.1 (s.res a).2.2

theorem callOf_from : ∀ (L : List Sp) (f : FuncId) (vs : List V) (p : V × List Blk), callOf L f vs = some p → ∃ s ∈ L, s.f = f ∧ ∃ a, s.ok a ∧ s.args a = vs ∧ s.res a = p
  | [], f, vs, p, h => by cases h
  | s :: L, f, vs, p, h => by
    simp only [callOf] at h
    split at h
    · rename_i hf
      split at h
      · rename_i hx
        obtain ⟨h1, h2⟩ := hx.choose_spec
        exact ⟨s, by simp, hf, _, h1, h2, Option.some.inj h⟩
      · cases h
    · obtain ⟨t, ht, r⟩ := callOf_from L f vs p h
      exact ⟨t, List.mem_cons_of_mem _ ht, r⟩
theorem effOf_from : ∀ (L : List Se) (f : FuncId) (vs : List V) (bs : List Blk) (p : V × List Blk × List Nat), effOf L f vs bs = some p → ∃ s ∈ L, s.f = f ∧ ∃ a, s.ok a ∧ s.args a = vs ∧ s.blks a = bs ∧ s.res a = p
  | [], f, vs, bs, p, h => by cases h
  | s :: L, f, vs, bs, p, h => by
    simp only [effOf] at h
    split at h
    · rename_i hf
      split at h
      · rename_i hx
        obtain ⟨h1, h2, h3⟩ := hx.choose_spec
        exact ⟨s, by simp, hf, _, h1, h2, h3, Option.some.inj h⟩
      · cases h
    · obtain ⟨t, ht, r⟩ := effOf_from L f vs bs p h
      exact ⟨t, List.mem_cons_of_mem _ ht, r⟩

theorem cx_sound {L : List Sp} {E : List Se} (h1 : ∀ s ∈ L, s.Holds P G) (h2 : ∀ s ∈ E, s.Holds P G) : (cx G L E).Sound P := by
  refine ⟨fun f args r news h => ?_, fun f args r news hl _ => absurd hl (by simp [cx]), fun f args blks r blks' mv h => ?_⟩
  · obtain ⟨s, hs, rfl, a, ha, rfl, hr⟩ := callOf_from L f args (r, news) h
    have := h1 s hs a ha
    rw [hr] at this
    exact this
  · obtain ⟨s, hs, rfl, a, ha, rfl, rfl, hr⟩ := effOf_from E f args blks (r, blks', mv) h
    have := h2 s hs a ha
    rw [hr] at this
    exact this

theorem holds_of {L : List Sp} {E : List Se} (hm : P.follows .mixedOrders = true) (hK : (cx G L E).Sound P) {s : Sp} {g : Fun} (hok : ∀ a, s.ok a → funOk P s.f 0 (s.args a).length g = true)
    (hev : ∀ a, s.ok a → ∃ mv, runFun (cx G L E) g (s.args a) [] = some ((s.res a).1, (s.res a).2, mv)) : s.Holds P G := by
  intro a ha
  obtain ⟨mv, h⟩ := hev a ha
  exact pure_sound hm hK (hok a ha) h
theorem holdsE_of {L : List Sp} {E : List Se} (hm : P.follows .mixedOrders = true) (hK : (cx G L E).Sound P) {s : Se} {g : Fun} (hok : ∀ a, s.ok a → funOk P s.f (s.blks a).length (s.args a).length g = true)
    (hev : ∀ a, s.ok a → runFun (cx G L E) g (s.args a) (s.blks a) = some (s.res a)) : s.Holds P G := by
  intro a ha
  exact eff_sound hm hK (hok a ha) (hev a ha)

structure Known (P : Program) (G : Nat → Option (List D)) (L : List Sp) (E : List Se) : Prop where
  one : ∀ s ∈ L, s.Holds P G
  eff : ∀ s ∈ E, s.Holds P G
theorem Known.sound {L : List Sp} {E : List Se} (h : Known P G L E) : (cx G L E).Sound P := cx_sound h.one h.eff
theorem Known.nil : Known P G [] [] := ⟨fun s h => by simp at h, fun s h => by simp at h⟩
theorem Known.add {L : List Sp} {E : List Se} (h : Known P G L E) (hm : P.follows .mixedOrders = true) {s : Sp} {g : Fun} (hok : ∀ a, s.ok a → funOk P s.f 0 (s.args a).length g = true)
    (hev : ∀ a, s.ok a → ∃ mv, runFun (cx G L E) g (s.args a) [] = some ((s.res a).1, (s.res a).2, mv)) : Known P G (s :: L) E := by
  refine ⟨fun t ht => ?_, h.eff⟩
  rcases List.mem_cons.1 ht with rfl | ht
  · exact holds_of hm h.sound hok hev
  · exact h.one t ht
theorem Known.addE {L : List Sp} {E : List Se} (h : Known P G L E) (hm : P.follows .mixedOrders = true) {s : Se} {g : Fun} (hok : ∀ a, s.ok a → funOk P s.f (s.blks a).length (s.args a).length g = true)
    (hev : ∀ a, s.ok a → runFun (cx G L E) g (s.args a) (s.blks a) = some (s.res a)) : Known P G L (s :: E) := by
  refine ⟨h.one, fun t ht => ?_⟩
  rcases List.mem_cons.1 ht with rfl | ht
  · exact holdsE_of hm h.sound hok hev
  · exact h.eff t ht

theorem Known.put {L : List Sp} {E : List Se} (h : Known P G L E) {s : Sp} (hs : s.Holds P G) : Known P G (s :: L) E := by
  refine ⟨fun t ht => ?_, h.eff⟩
  rcases List.mem_cons.1 ht with rfl | ht
  · exact hs
  · exact h.one t ht
end Go.Vm
end

section
namespace Go.Vm
open Go.RowKit

section
variable {P : Program} {w : World}

def Same (w : World) (v v' : Value) : Prop := v'.ownBlock = v.ownBlock ∨ ∃ g, v'.ownBlock = some g ∧ w.heap.size ≤ g

theorem append_ownX (t ty e : TypeId) (i : TypeInfo) (ht : P.underlying t = some (.slice e)) (hi : P.info? e = some i) (hz : i.zero = some (.int .u8 0)) (hsize : i.size = 1) (hby : i.bytes = 1)
    (v : Value) (n : Nat) (xs : List Value) (hown : w.ownsRowF 0 e 1 v n xs)
    (a : Addr) (m c : Nat) (news : List Value) (hl : news.length = m) (hnews : ∀ j u, news[j]? = some u → w.cell? (a.add j) = some u) (h1 : ∀ u ∈ news, u.oneCell' = true) (h63 : n + m ≤ maxLen) (hbytes : n + m ≤ 140737488355328) :
    ∃ v' w', (Builtin.append_ #[t, t] ty #[v, .slice (some a) m c]).run P w = .ok v' w' ∧ w'.ownsRowF 0 e 1 v' (n + m) (xs ++ news) ∧ w.grownBy w' v.ownBlock ∧ (v' = .slice none 0 0 ↔ v = .slice none 0 0 ∧ m = 0) ∧ Same w v v' := by
  obtain ⟨v', w', r1, r2, r3, r4⟩ := run_append_ownF (P := P) w 0 t ty e i (.int .u8 0) 1 1 ht hi hz hsize hby rfl (by decide) v n xs hown a m c news (by omega) hnews h1 h63 (by omega) (Nat.zero_le _)
  refine ⟨v', w', r1, r2, r3, r4, ?_⟩
  rcases hown.2 with ⟨rfl, rfl⟩ | ⟨g, cap, cur, fz, rfl, hbg, hg, hfz, hnc, hcm, hcs, htake⟩
  · obtain ⟨v2, w2, q1, q2, q3, q4⟩ := run_append_ownF (P := P) w w.heap.size t ty e i (.int .u8 0) 1 1 ht hi hz hsize hby rfl (by decide) (.slice none 0 0) 0 xs ⟨hown.1, .inl ⟨rfl, rfl⟩⟩ a m c news (by omega) hnews h1 h63 (by omega) (Nat.le_refl _)
    rw [r1] at q1
    obtain ⟨rfl, rfl⟩ : v' = v2 ∧ w' = w2 := by injection q1 with e1 e2; exact ⟨e1, e2⟩
    cases ho : v'.ownBlock with
    | none => exact .inl (by rw [ho]; rfl)
    | some g => exact .inr ⟨g, ho, (q2.lt g ho).1⟩
  · by_cases hroom : n + m ≤ cap
    · have hr := run_append_roomF (P := P) w t ty e i ht hi g n cap cur fz hg (by rw [hsize]; exact hfz) a m c news (by rw [hsize]; omega) hnews h1 hroom (by rw [hsize]; omega)
      rw [r1] at hr
      obtain ⟨rfl, _⟩ : v' = .slice (some ⟨g, 0, none⟩) (n + m) cap ∧ True := by injection hr with e1 e2; exact ⟨e1, trivial⟩
      exact .inl rfl
    · have holds : ∀ j u, xs[j]? = some u → w.cell? ((⟨g, 0, none⟩ : Addr).add j) = some u := hown.cells (g := g) rfl
      have hsmall : n + m ≤ 9223372036854775807 := by simp only [maxLen] at h63; omega
      have hr := run_append_grow (P := P) w t ty e i (.int .u8 0) ht hi hz ⟨g, 0, none⟩ n cap xs (by rw [hsize]; exact hown.1) holds a m c news (by rw [hsize]; omega) hnews (by omega) (by omega) (growslice_fits (by omega) (by rw [hby]; omega))
      rw [r1] at hr
      obtain ⟨rfl, _⟩ : v' = .slice (some ⟨w.heap.size, 0, none⟩) (n + m) (grownCap w (n + m) cap e) ∧ True := by injection hr with e1 e2; exact ⟨e1, trivial⟩
      exact .inr ⟨w.heap.size, rfl, Nat.le_refl _⟩

theorem append_own_strX (t u ty e : TypeId) (i : TypeInfo) (ht : P.underlying t = some (.slice e)) (hu : P.underlying u = some .string) (hi : P.info? e = some i) (hz : i.zero = some (.int .u8 0)) (hsize : i.size = 1) (hby : i.bytes = 1)
    (v : Value) (n : Nat) (xs : List Value) (hown : w.ownsRowF 0 e 1 v n xs) (s : ByteArray) (h63 : n + s.size ≤ maxLen) (hbytes : n + s.size ≤ 140737488355328) :
    ∃ v' w', (Builtin.append_ #[t, u] ty #[v, .string s]).run P w = .ok v' w' ∧ w'.ownsRowF 0 e 1 v' (n + s.size) (xs ++ Lib.strCells s) ∧ w.grownBy w' v.ownBlock ∧ (v' = .slice none 0 0 ↔ v = .slice none 0 0 ∧ s.size = 0) ∧ Same w v v' := by
  obtain ⟨v', w', r1, r2, r3, r4⟩ := Lib.run_append_own_stringF (P := P) w 0 t u ty e i ht hu hi hz hsize hby v n xs hown s h63 hbytes (Nat.zero_le _)
  refine ⟨v', w', r1, r2, r3, r4, ?_⟩
  rcases hown.2 with ⟨rfl, rfl⟩ | ⟨g, cap, cur, fz, rfl, hbg, hg, hfz, hnc, hcm, hcs, htake⟩
  · obtain ⟨v2, w2, q1, q2, q3, q4⟩ := Lib.run_append_own_stringF (P := P) w w.heap.size t u ty e i ht hu hi hz hsize hby (.slice none 0 0) 0 xs ⟨hown.1, .inl ⟨rfl, rfl⟩⟩ s h63 hbytes (Nat.le_refl _)
    rw [r1] at q1
    obtain ⟨rfl, rfl⟩ : v' = v2 ∧ w' = w2 := by injection q1 with e1 e2; exact ⟨e1, e2⟩
    cases ho : v'.ownBlock with
    | none => exact .inl (by rw [ho]; rfl)
    | some g => exact .inr ⟨g, ho, (q2.lt g ho).1⟩
  · by_cases hroom : n + s.size ≤ cap
    · have hr := Lib.run_append_room_stringF (P := P) w t u ty e i ht hu hi hsize g n cap cur fz hg (by omega) s hroom (by omega)
      rw [r1] at hr
      obtain ⟨rfl, _⟩ : v' = .slice (some ⟨g, 0, none⟩) (n + s.size) cap ∧ True := by injection hr with e1 e2; exact ⟨e1, trivial⟩
      exact .inl rfl
    · have holds : ∀ j u, xs[j]? = some u → w.cell? ((⟨g, 0, none⟩ : Addr).add j) = some u := hown.cells (g := g) rfl
      have hsmall : n + s.size ≤ 9223372036854775807 := by simp only [maxLen] at h63; omega
      have hr := Lib.run_append_grow_string (P := P) w t u ty e i (.int .u8 0) ht hu hi hz ⟨g, 0, none⟩ n cap xs (by rw [hsize]; exact hown.1) holds s (by omega) (by omega) (growslice_fits (by omega) (by rw [hby]; omega))
      rw [r1] at hr
      obtain ⟨rfl, _⟩ : v' = .slice (some ⟨w.heap.size, 0, none⟩) (n + s.size) (grownCap w (n + s.size) cap e) ∧ True := by injection hr with e1 e2; exact ⟨e1, trivial⟩
      exact .inr ⟨w.heap.size, rfl, Nat.le_refl _⟩

theorem wp_append_ownX {ops : Array Oper} {rest : List Oper} {o : Oper} {a : Act} {Q : Exit → Act → World → Prop} (hgd : o.guard = none) (s x : Operand) (t : TypeId)
    (ho : o.op = .call { callee := .builtin .append, args := #[s, x], argTypes := #[t, t] })
    (e : TypeId) (i : TypeInfo) (ht : P.underlying t = some (.slice e)) (hi : P.info? e = some i) (hz : i.zero = some (.int .u8 0)) (hsize : i.size = 1) (hby : i.bytes = 1)
    (v : Value) (n : Nat) (xs : List Value) (hs : a.eval s = v) (hown : w.ownsRowF 0 e 1 v n xs)
    (ad : Addr) (m c : Nat) (news : List Value) (hx : a.eval x = .slice (some ad) m c) (hl : news.length = m) (hnews : ∀ j u, news[j]? = some u → w.cell? (ad.add j) = some u) (h1 : ∀ u ∈ news, u.oneCell' = true) (h63 : n + m ≤ maxLen) (hbytes : n + m ≤ 140737488355328)
    (h : ∀ v' w', w'.ownsRowF 0 e 1 v' (n + m) (xs ++ news) → w.grownBy w' v.ownBlock → (v' = .slice none 0 0 ↔ v = .slice none 0 0 ∧ m = 0) → Same w v v' → wpList P ops Q rest (a.put o.dst v') w') : wpList P ops Q (o :: rest) a w := by
  refine wpList_plain hgd fun K hK => ?_
  obtain ⟨v', w', hr, h2, h3, h4, h5⟩ := append_ownX (P := P) (w := w) t o.type e i ht hi hz hsize hby v n xs hown ad m c news hl hnews h1 h63 hbytes
  unfold Oper.wp execOp
  simp only [ho, resolve, invoke, builtin, Sem.run_bind, Sem.run_pure, Result.andThen_ok, List.map_toArray, List.map_cons, List.map_nil, hs, hx, hr]
  exact hK _ _ (h v' w' h2 h3 h4 h5)
theorem wp_append_own_strX {ops : Array Oper} {rest : List Oper} {o : Oper} {a : Act} {Q : Exit → Act → World → Prop} (hgd : o.guard = none) (sl x : Operand) (t u : TypeId)
    (ho : o.op = .call { callee := .builtin .append, args := #[sl, x], argTypes := #[t, u] })
    (e : TypeId) (i : TypeInfo) (ht : P.underlying t = some (.slice e)) (hu : P.underlying u = some .string) (hi : P.info? e = some i) (hz : i.zero = some (.int .u8 0)) (hsize : i.size = 1) (hby : i.bytes = 1)
    (v : Value) (n : Nat) (xs : List Value) (hs : a.eval sl = v) (hown : w.ownsRowF 0 e 1 v n xs) (s : ByteArray) (hx : a.eval x = .string s) (h63 : n + s.size ≤ maxLen) (hbytes : n + s.size ≤ 140737488355328)
    (h : ∀ v' w', w'.ownsRowF 0 e 1 v' (n + s.size) (xs ++ Lib.strCells s) → w.grownBy w' v.ownBlock → (v' = .slice none 0 0 ↔ v = .slice none 0 0 ∧ s.size = 0) → Same w v v' → wpList P ops Q rest (a.put o.dst v') w') : wpList P ops Q (o :: rest) a w := by
  refine wpList_plain hgd fun K hK => ?_
  obtain ⟨v', w', hr, h2, h3, h4, h5⟩ := append_own_strX (P := P) (w := w) t u o.type e i ht hu hi hz hsize hby v n xs hown s h63 hbytes
  unfold Oper.wp execOp
  simp only [ho, resolve, invoke, builtin, Sem.run_bind, Sem.run_pure, Result.andThen_ok, List.map_toArray, List.map_cons, List.map_nil, hs, hx, hr]
  exact hK _ _ (h v' w' h2 h3 h4 h5)
end

end Go.Vm
end

section
set_option linter.unusedVariables false
namespace Go.Vm
open Go.RowKit Go.Shelf Go.Proofs

section
variable {P : Program} {ρ : Ren}

structure BAt (T e : TypeId) (w : World) (b : Nat) (p v : Value) (bs : List Value) : Prop where
  hp : p = .pointer none ∨ p = .pointer (some ⟨b, 0, none⟩)
  hb : w.heap[b]? = some (.cells #[p, v] T (0, 0))
  own : w.ownsRowF 0 e 1 v bs.length bs
  ne : v.ownBlock ≠ some b
theorem BAt.isB {T e : TypeId} {w : World} {b : Nat} {p v : Value} {bs : List Value} (h : BAt T e w b p v bs) : Lib.IsBuilderF T e 0 b bs w := by
  rcases h.hp with rfl | rfl
  · exact .inl ⟨Nat.zero_le _, v, h.hb, h.own, h.ne⟩
  · exact .inr ⟨Nat.zero_le _, v, h.hb, h.own, h.ne⟩
theorem BAt.lt {T e : TypeId} {w : World} {b : Nat} {p v : Value} {bs : List Value} (h : BAt T e w b p v bs) : b < w.heap.size := by
  rcases Nat.lt_or_ge b w.heap.size with h' | h'
  · exact h'
  · have := h.hb; simp [Array.getElem?_eq_none h'] at this

structure Kept (w w' : World) (b : Nat) (v v' : Value) : Prop where
  os : w'.os = w.os
  tape : w'.tape = w.tape
  output : w'.output = w.output
  size : w.heap.size ≤ w'.heap.size
  blk : ∀ k, k < w.heap.size → k ≠ b → some k ≠ v.ownBlock → w'.heap[k]? = w.heap[k]?
  same : Same w v v'

def SizeEq (w1 w : World) : Prop := w1.heap.size = w.heap.size
theorem SizeEq.eq {w1 w : World} (h : SizeEq w1 w) : w1.heap.size = w.heap.size := h

theorem bld_put {T e : TypeId} {w w1 w2 : World} {b : Nat} {v v' : Value} {bs' : List Value} (hTe : T ≠ e) (hsz : w1.heap.size = w.heap.size ∨ w1.heap.size = w.heap.size + 1) (hos : w1.os = w.os ∧ w1.tape = w.tape ∧ w1.output = w.output) (hold : ∀ k, k < w.heap.size → k ≠ b → w1.heap[k]? = w.heap[k]?)
    (hb2 : w2.heap[b]? = some (.cells #[.pointer (some ⟨b, 0, none⟩), v] T (0, 0))) (hgrow : w1.grownBy w2 v.ownBlock) (hown : w2.ownsRowF 0 e 1 v' bs'.length bs') (hs : Same w1 v v') (hv : ∀ g, v.ownBlock = some g → g < w.heap.size) :
    BAt T e (w2.setCell ⟨b, 1, none⟩ v') b (.pointer (some ⟨b, 0, none⟩)) v' bs' ∧ Kept w (w2.setCell ⟨b, 1, none⟩ v') b v v' := by
  have hne := Lib.ownBlock_neF hown hb2 hTe
  refine ⟨⟨.inr rfl, ?_, ?_, hne⟩, ⟨hgrow.os.trans hos.1, hgrow.tape.trans hos.2.1, hgrow.output.trans hos.2.2, by have := hgrow.size; simp; omega, fun k hk h1 h2 => ?_, ?_⟩⟩
  · simp [World.setCell, Array.getElem?_modify, hb2]
  · exact hown.kept (row := some b) ⟨rfl, rfl, rfl, by simp [World.setCell], fun k _ hk => Below.heap_setCell _ _ _ _ (fun e => hk (by simp [e]))⟩ (Or.inr hne)
  · rw [Below.heap_setCell _ _ _ _ h1, hgrow.block k (by omega) h2, hold k hk h1]
  · rcases hs with h | ⟨g, h1, h2⟩
    · exact .inl h
    · exact .inr ⟨g, h1, by omega⟩

end
end Go.Vm
end

section
set_option linter.unusedVariables false
namespace Go.Vm
open Go.RowKit Go.Shelf Go.Proofs

section
variable {P : Program} {ρ : Ren}

theorem freeze_otherC (w : World) (a : Addr) (n k : Nat) (h : k ≠ a.block) : (w.freeze a n).heap[k]? = w.heap[k]? := by
  unfold World.freeze
  split
  · rfl
  · simp [Array.getElem?_modify, h.symm]

set_option maxHeartbeats 2000000 in
set_option maxRecDepth 100000 in
theorem bld_String_nil (L : Lays.n169 P ρ) (X : Builder.Extra P ρ) {w : World} {b : Nat} {p : Value} (h : BAt (ρ.t 72) (ρ.t 5) w b p (.slice none 0 0) []) :
    Calls P (ρ.f 169) #[.pointer (some ⟨b, 0, none⟩)] w fun e w' => e = .returned (.string ⟨#[]⟩) ∧ w' = w.drew := by
  have hUS := Any.unsafeString_none L X
  have c1 : w.drew.cell? ⟨b, 1, none⟩ = some (.slice none 0 0) := by
    have : w.drew.heap[b]? = some (.cells #[p, .slice none 0 0] (ρ.t 72) (0, 0)) := h.hb
    rw [Lib.cell_of_heap this]; rfl
  have hSD : (Builtin.unsafeSliceData_ #[(ρ.t 37)] (ρ.t 127) #[.slice none 0 0]).run P w.drew = .ok (.pointer none) w.drew := rfl
  have mixed := L.mixed
  have t72 := L.t72; have a72 := L.a72; have z72 := L.z72; have v72 := L.v72; have u72 := run_underlying L.t72
  have t70 := L.t70; have a70 := L.a70; have z70 := L.z70; have v70 := L.v70; have u70 := run_underlying L.t70
  have t37 := L.t37; have a37 := L.a37; have z37 := L.z37; have v37 := L.v37; have u37 := run_underlying L.t37
  have t127 := L.t127; have a127 := L.a127; have z127 := L.z127; have v127 := L.v127; have u127 := run_underlying L.t127
  have t3 := L.t3; have a3 := L.a3; have z3 := L.z3; have v3 := L.v3; have u3 := run_underlying L.t3
  have t9 := L.t9; have a9 := L.a9; have z9 := L.z9; have v9 := L.v9; have u9 := run_underlying L.t9
  have t5 := X.t5; have a5 := X.a5; have z5 := X.z5; have v5 := X.v5; have u5 := run_underlying X.t5
  go_enter L.f169, Body.n169_ntmps ρ
  go_wp2
  go_region_o
  all_goals (go_wp2; go_ret; exact ⟨rfl, rfl⟩)

set_option maxHeartbeats 2000000 in
set_option maxRecDepth 100000 in
theorem bld_String_some (L : Lays.n169 P ρ) (X : Builder.Extra P ρ) {w : World} {b g cap : Nat} {p : Value} {l : List UInt8} (h0 : l ≠ []) (h : BAt (ρ.t 72) (ρ.t 5) w b p (.slice (some ⟨g, 0, none⟩) l.length cap) (Lib.byteCells l)) :
    Calls P (ρ.f 169) #[.pointer (some ⟨b, 0, none⟩)] w fun e w' => e = .returned (.string ⟨l.toArray⟩) ∧ w' = w.drew.freeze ⟨g, 0, none⟩ l.length := by
  have hl0 : l.length ≠ 0 := by simpa using h0
  have hbk := h.hb
  have hown := h.own
  rw [Lib.byteCells_length] at hown
  obtain ⟨cur, fz, hg, hfz, hnc, hcm, hcs, htake⟩ : ∃ cur fz, w.heap[g]? = some (.cells cur (ρ.t 5) fz) ∧ fz.2 ≤ l.length * 1 ∧ l.length ≤ cap ∧ cap ≤ maxLen ∧ cur.size = cap * 1 ∧ cur.toList.take (l.length * 1) = Lib.byteCells l := by
    rcases hown.2 with ⟨_, hz⟩ | ⟨g', cap', cur, fz, hv, hB, r⟩
    · exact absurd hz hl0
    · injection hv with e1 e2 e3
      injection e1 with e1
      injection e1 with e1 _
      subst e1; subst e3
      exact ⟨cur, fz, r⟩
  have c1 : w.drew.cell? ⟨b, 1, none⟩ = some (.slice (some ⟨g, 0, none⟩) l.length cap) := by
    have : w.drew.heap[b]? = some (.cells #[p, .slice (some ⟨g, 0, none⟩) l.length cap] (ρ.t 72) (0, 0)) := hbk
    rw [Lib.cell_of_heap this]; rfl
  have hSD : (Builtin.unsafeSliceData_ #[(ρ.t 37)] (ρ.t 127) #[.slice (some ⟨g, 0, none⟩) l.length cap]).run P w.drew = .ok (.pointer (some ⟨g, 0, none⟩)) w.drew :=
    Lib.run_unsafeSliceData_row _ _ _ _ _ _ (by omega)
  have hUS : (Builtin.unsafeString_ #[(ρ.t 127), (ρ.t 3)] (ρ.t 9) #[.pointer (some ⟨g, 0, none⟩), .int .i64 l.length]).run P w.drew = .ok (.string ⟨l.toArray⟩) (w.drew.freeze ⟨g, 0, none⟩ l.length) := by
    refine Lib.run_unsafeString_row w.drew (ρ.t 127) (ρ.t 3) (ρ.t 9) (ρ.t 5) L.t127 X.cellsByte g cur.size (by have hg' : w.drew.heap[g]? = some (.cells cur (ρ.t 5) fz) := hg; simp [World.shape?, hg']) l h0 (by omega) (by unfold maxLen at hcm; omega) ?_
    intro j x hx
    have := hown.cells (g := g) rfl j (.int .u8 x.toNat) (by simp [Lib.byteCells, hx])
    exact this
  have mixed := L.mixed
  have t72 := L.t72; have a72 := L.a72; have z72 := L.z72; have v72 := L.v72; have u72 := run_underlying L.t72
  have t70 := L.t70; have a70 := L.a70; have z70 := L.z70; have v70 := L.v70; have u70 := run_underlying L.t70
  have t37 := L.t37; have a37 := L.a37; have z37 := L.z37; have v37 := L.v37; have u37 := run_underlying L.t37
  have t127 := L.t127; have a127 := L.a127; have z127 := L.z127; have v127 := L.v127; have u127 := run_underlying L.t127
  have t3 := L.t3; have a3 := L.a3; have z3 := L.z3; have v3 := L.v3; have u3 := run_underlying L.t3
  have t9 := L.t9; have a9 := L.a9; have z9 := L.z9; have v9 := L.v9; have u9 := run_underlying L.t9
  have t5 := X.t5; have a5 := X.a5; have z5 := X.z5; have v5 := X.v5; have u5 := run_underlying X.t5
  go_enter L.f169, Body.n169_ntmps ρ
  go_wp2
  go_region_o
  all_goals (go_wp2; go_ret; exact ⟨rfl, rfl⟩)

end
end Go.Vm
end

section
set_option linter.unusedVariables false
namespace Go.Vm
open Go.RowKit Go.Shelf Go.Proofs

@[reducible] def bldB (T b n : Nat) : Blk := .map [(.nils T, .bsl b 0 n)]
@[reducible] def bufB (e : Nat) (bytes : List UInt8) : Blk := .map [(.emps e, .d false .nilp), (.str bytes, .d false .nilp)]

section
variable {P : Program} {ρ : Ren} {w w' : World} {F : Nat → Prop} {σ : Nat → Option Loc}

theorem bCells_len (l : List UInt8) : (bCells l).length = l.length := by simp [bCells]

theorem bld_open {T e : Nat} {bytes : List UInt8} (hH : HeapRel w F (OwnB σ) w.heap.size σ 2 (indexed [bldB T 1 bytes.length, bufB e bytes])) :
    ∃ l0 p v, σ 0 = some l0 ∧ l0.k = 0 ∧ BAt T e w l0.blk p v (bCells bytes) ∧ (bytes = [] → v = .slice none 0 0) ∧ ∀ g, v.ownBlock = some g → ∃ l, σ 1 = some l ∧ l.blk = g := by
  have h0 := hH.blk 0 (bldB T 1 bytes.length) rfl
  have h1 := hH.blk 1 (bufB e bytes) rfl
  rcases h0 with ⟨hn, _⟩ | ⟨l0, es, ck, ds, hds, hs0, hm, hk, _, _⟩ | ⟨_, _, _, _, _, _, _, _, _, he⟩
  · simp [Blk.n, nilBuf, nilKeys] at hn
  · obtain rfl : [(D.nils T, V.bsl 1 0 bytes.length)] = ds := by injection hds
    rcases hm with ⟨_, _, ht⟩ | ⟨T', p, v, x, hx, hw, hp, hv⟩ | ⟨T', cur, fz, bs, hx, _⟩
    · simp [tagged] at ht
    · simp only [List.cons.injEq, Prod.mk.injEq, D.nils.injEq, and_true] at hx
      obtain ⟨rfl, rfl⟩ := hx
      obtain ⟨_, hv⟩ := hv
      refine ⟨l0, p, v, hs0, hk, ?_⟩
      rcases hv with ⟨hb, rfl⟩ | ⟨l, hl, hpos, rfl⟩
      · obtain rfl : bytes = [] := List.eq_nil_of_length_eq_zero hb
        exact ⟨⟨hp, hw, World.ownsRowF_nil _ _ _ _, by simp [Value.ownBlock]⟩, fun _ => rfl, fun g hg => by simp [Value.ownBlock] at hg⟩
      · rcases h1 with ⟨_, hn⟩ | ⟨l1, es1, ck1, ds1, hds1, hs1, hm1, hk1, _, _⟩ | ⟨_, _, _, _, _, _, _, _, _, he⟩
        · rw [hl] at hn; cases hn
        · obtain rfl : [(D.emps e, V.d false .nilp), (.str bytes, .d false .nilp)] = ds1 := by injection hds1
          rw [hl] at hs1
          obtain rfl := Option.some.inj hs1
          rcases hm1 with ⟨_, _, ht⟩ | ⟨T', p', v', x', hx, _⟩ | ⟨T', cur, fz, bs, hx, hg, f1, f2, f3, f4, f5⟩
          · simp [tagged] at ht
          · simp at hx
          · simp only [List.map_cons, List.map_nil, List.cons.injEq, D.emps.injEq, D.str.injEq, and_true] at hx
            obtain ⟨rfl, rfl⟩ := hx
            refine ⟨⟨hp, hw, ⟨by simp, .inr ⟨l.blk, l.ext, cur, fz, by rw [bCells_len], Nat.zero_le _, hg, by rw [bCells_len]; omega, by rw [bCells_len]; exact f2, f4, by omega, ?_⟩⟩, ?_⟩, fun h => ?_, fun g hg => ⟨l, hl, ?_⟩⟩
            · rw [bCells_len, Nat.mul_one]; exact f5
            · intro h
              simp only [Value.ownBlock, Option.some.injEq] at h
              have := hH.inj 0 1 l0 l hs0 hl h.symm
              cases this
            · rw [h] at hpos; simp at hpos
            · simpa [Value.ownBlock] using hg
        · simp [Blk.entries] at he
    · simp at hx
  · simp [Blk.entries] at he

theorem bld_close {T e : Nat} {l0 : Loc} {p' v v' : Value} {bytes' : List UInt8} {H : List (Nat × Blk)} (hH : HeapRel w F (OwnB σ) w.heap.size σ 2 H) (hs0 : σ 0 = some l0) (hk0 : l0.k = 0) (hv : ∀ g, v.ownBlock = some g → ∃ l, σ 1 = some l ∧ l.blk = g)
    (hb : BAt T e w' l0.blk p' v' (bCells bytes')) (hK : Kept w w' l0.blk v v') (hnil : bytes' = [] → v' = .slice none 0 0) :
    ∃ σ', Frame (OwnB σ) w.heap.size w w' ∧ HeapRel w' F (OwnB σ) w.heap.size σ' 2 (indexed [bldB T 1 bytes'.length, bufB e bytes']) ∧ ∀ i l, i < 2 → σ i = some l → i ∉ [1] → σ' i = some l := by
  have hF : ∀ b, F b → b < w'.heap.size := fun b hf => Nat.lt_of_lt_of_le (hH.fro b hf) hK.size
  have hframe : Frame (OwnB σ) w.heap.size w w' := ⟨hK.os, hK.tape, hK.output, hK.size, fun k hk hX => hK.blk k hk (fun h => hX 0 ⟨l0, hs0, h.symm⟩) (fun h => by
    obtain ⟨l, h1, h2⟩ := hv k h.symm
    exact hX 1 ⟨l, h1, h2⟩)⟩
  obtain ⟨o1, o2, o3, o4⟩ := hH.own 0 l0 hs0
  have hlt0 := hb.lt
  rcases hb.own.2 with ⟨rfl, hz⟩ | ⟨g, cap, cur, fz, rfl, _, hg, f1, f2, f3, f4, f5⟩
  · -- no buffer
    have hz' : bytes' = [] := by rw [bCells_len] at hz; exact List.eq_nil_of_length_eq_zero hz
    subst hz'
    refine ⟨fun i => if i = 0 then some l0 else none, hframe, ⟨fun i blk hi => ?_, fun i j l l' h1 h2 _ => ?_, fun i l h => ?_, hF⟩, fun i l hi hl hm => ?_⟩
    · have : (i = 0 ∧ blk = bldB T 1 0) ∨ (i = 1 ∧ blk = bufB e []) := by
        simp only [indexed, List.zipIdx_cons, List.zipIdx_nil, List.map_cons, List.map_nil, look, List.length_nil] at hi
        split at hi
        · rename_i h; exact .inl ⟨h.symm, (Option.some.inj hi).symm⟩
        · split at hi
          · rename_i h; exact .inr ⟨by omega, (Option.some.inj hi).symm⟩
          · cases hi
      rcases this with ⟨rfl, rfl⟩ | ⟨rfl, rfl⟩
      · exact .inr (.inl ⟨l0, #[⟨.slice none 0 0, .slice none 0 0, 0⟩], 0, _, rfl, rfl, .inr (.inl ⟨T, p', .slice none 0 0, _, rfl, hb.hb, hb.hp, rfl, .inl ⟨rfl, rfl⟩⟩), hk0, trivial, rfl, fun i e p he hp => by
          match i, he, hp with
          | 0, he, hp =>
            simp at he hp
            subst he; subst hp
            exact ⟨rfl, .nils T, .bsl0 none 1 0⟩
          | i + 1, he, hp => simp at he⟩)
      · exact .inl ⟨rfl, rfl⟩
    · split at h1
      · split at h2
        · omega
        · cases h2
      · cases h1
    · split at h
      · rename_i h0
        subst h0
        obtain rfl := Option.some.inj h
        exact ⟨by omega, o2, o3, hlt0⟩
      · cases h
    · have : i = 0 := by simp at hm; omega
      subst this
      show some l0 = some l
      rw [← hs0]; exact hl
  · have hgne : g ≠ l0.blk := fun h => hb.ne (by simp [Value.ownBlock, h])
    have hpos : 0 < bytes'.length := by
      rcases Nat.eq_zero_or_pos bytes'.length with h | h
      · have := hnil (List.eq_nil_of_length_eq_zero h)
        simp at this
      · exact h
    have hgl : g < w'.heap.size := by
      rcases Nat.lt_or_ge g w'.heap.size with h' | h'
      · exact h'
      · simp [Array.getElem?_eq_none h'] at hg
    rw [bCells_len, Nat.mul_one] at f1 f5
    rw [bCells_len] at f2
    -- where the buffer is
    have gown : ¬ F g ∧ (w.heap.size ≤ g ∨ OwnB σ 1 g) := by
      rcases hK.same with h | ⟨g', h1, h2⟩
      · obtain ⟨l, h1, h2⟩ := hv g (by rw [← h]; rfl)
        obtain ⟨q1, q2, q3, q4⟩ := hH.own 1 l h1
        rw [h2] at q2
        exact ⟨q2, .inr ⟨l, h1, h2⟩⟩
      · simp only [Value.ownBlock, Option.some.injEq] at h1
        subst h1
        exact ⟨fun hf => by have := hH.fro _ hf; omega, .inl h2⟩
    let l1 : Loc := ⟨g, 0, cap⟩
    refine ⟨fun i => if i = 0 then some l0 else if i = 1 then some l1 else none, hframe, ⟨fun i blk hi => ?_, fun i j l l' h1 h2 he => ?_, fun i l h => ?_, hF⟩, fun i l hi hl hm => ?_⟩
    · have : (i = 0 ∧ blk = bldB T 1 bytes'.length) ∨ (i = 1 ∧ blk = bufB e bytes') := by
        simp only [indexed, List.zipIdx_cons, List.zipIdx_nil, List.map_cons, List.map_nil, look] at hi
        split at hi
        · rename_i h; exact .inl ⟨h.symm, (Option.some.inj hi).symm⟩
        · split at hi
          · rename_i h; exact .inr ⟨by omega, (Option.some.inj hi).symm⟩
          · cases hi
      rcases this with ⟨rfl, rfl⟩ | ⟨rfl, rfl⟩
      · refine .inr (.inl ⟨l0, #[⟨.slice none 0 0, .slice (some ⟨g, 0, none⟩) bytes'.length cap, 0⟩], 0, _, rfl, rfl, .inr (.inl ⟨T, p', _, _, rfl, hb.hb, hb.hp, rfl, .inr ⟨l1, rfl, hpos, by rw [bCells_len]⟩⟩), hk0, trivial, rfl, fun i e p he hp => ?_⟩)
        match i, he, hp with
        | 0, he, hp =>
          simp at he hp
          subst he; subst hp
          exact ⟨rfl, .nils T, by
            have := RepV.bsl (w := w') (F := F) (base := w.heap.size) (σ := fun i => if i = 0 then some l0 else if i = 1 then some l1 else none) 1 0 bytes'.length cap l1 rfl f2 (by simp [l1])
            simpa [l1] using this⟩
        | i + 1, he, hp => simp at he
      · refine .inr (.inl ⟨l1, #[⟨.slice (some ⟨0, 0, none⟩) 0 0, .pointer none, 0⟩, ⟨.string ⟨bytes'.toArray⟩, .pointer none, 0⟩], 0, _, rfl, rfl, .inr (.inr ⟨e, cur, fz, bytes', rfl, hg, f1, f2, by simpa using f4, f3, f5⟩), rfl, trivial, rfl, fun i e' p he hp => ?_⟩)
        match i, he, hp with
        | 0, he, hp =>
          simp at he hp
          subst he; subst hp
          exact ⟨rfl, .emps _ _ e, .d _ _ _ .nilp⟩
        | 1, he, hp =>
          simp at he hp
          subst he; subst hp
          exact ⟨rfl, .str ⟨bytes'.toArray⟩, .d _ _ _ .nilp⟩
        | i + 2, he, hp => simp at he
    · have two : ∀ {i : Nat} {l : Loc}, (if i = 0 then some l0 else if i = 1 then some l1 else none) = some l → (i = 0 ∧ l = l0) ∨ (i = 1 ∧ l = l1) := by
        intro i l h
        split at h
        · rename_i h0; exact .inl ⟨h0, (Option.some.inj h).symm⟩
        · split at h
          · rename_i h0; exact .inr ⟨h0, (Option.some.inj h).symm⟩
          · cases h
      rcases two h1 with ⟨rfl, rfl⟩ | ⟨rfl, rfl⟩ <;> rcases two h2 with ⟨rfl, rfl⟩ | ⟨rfl, rfl⟩
      · rfl
      · exact absurd he.symm hgne
      · exact absurd he hgne
      · rfl
    · split at h
      · rename_i h0
        subst h0
        obtain rfl := Option.some.inj h
        exact ⟨by omega, o2, o3, hlt0⟩
      · split at h
        · rename_i h0
          subst h0
          obtain rfl := Option.some.inj h
          exact ⟨by omega, gown.1, gown.2, hgl⟩
        · cases h
    · have : i = 0 := by simp at hm; omega
      subst this
      show some l0 = some l
      rw [← hs0]; exact hl

theorem ptr0_inv {base : Nat} {v : Value} {l0 : Loc} (hs0 : σ 0 = some l0) (h : RepV w F base σ v (.ptr 0 0 0)) : v = .pointer (some ⟨l0.blk, 0, none⟩) := by
  cases h with
  | ptr _ _ _ l hl =>
    rw [hs0] at hl
    obtain rfl := Option.some.inj hl
    simp

variable {G : Nat → Option (List D)}

def WbOk (P : Program) (f : FuncId) (T e : TypeId) : Prop := ∀ {w : World} {b : Nat} {p v : Value} {bs : List Value}, BAt T e w b p v bs → ∀ (c : Int), bs.length + 1 ≤ 140737488355328 →
    Calls P f #[.pointer (some ⟨b, 0, none⟩), .int .u8 c] w fun x w' => x = .returned .nilIface ∧ ∃ v', BAt T e w' b (.pointer (some ⟨b, 0, none⟩)) v' (bs ++ [.int .u8 c]) ∧ Kept w w' b v v'
def WsOk (P : Program) (f : FuncId) (T e : TypeId) : Prop := ∀ {w : World} {b : Nat} {p v : Value} {bs : List Value}, BAt T e w b p v bs → ∀ (s : ByteArray), bs.length + s.size ≤ 140737488355328 →
    Calls P f #[.pointer (some ⟨b, 0, none⟩), .string s] w fun x w' => x = .returned (.tuple #[.int .i64 s.size, .nilIface]) ∧ ∃ v', BAt T e w' b (.pointer (some ⟨b, 0, none⟩)) v' (bs ++ Lib.strCells s) ∧ Kept w w' b v v' ∧ (v = .slice none 0 0 → s.size = 0 → v' = .slice none 0 0)

theorem eff_WriteByte {f T e : Nat} (hW : WbOk P f T e) (bytes : List UInt8) (c : UInt8) (hlen : bytes.length + 1 ≤ 140737488355328) :
    EffCall P G f [.ptr 0 0 0, .d false (.int .u8 c.toNat)] [bldB T 1 bytes.length, bufB e bytes] (.d false .nilif) [bldB T 1 (bytes ++ [c]).length, bufB e (bytes ++ [c])] [1] := by
  intro w F σ vals hG hH hR
  obtain ⟨l0, p, v, hs0, hk0, hB, hn0, hv⟩ := bld_open hH
  obtain ⟨hsz, hval⟩ := hR
  obtain ⟨l⟩ := vals
  match l, hsz, hval with
  | [v0, v1], hsz, hval =>
    have e0 := ptr0_inv hs0 (hval 0 v0 (.ptr 0 0 0) rfl rfl)
    have e1 := (hval 1 v1 (.d false (.int .u8 c.toNat)) rfl rfl).int_inv
    subst e0; subst e1
    refine (hW hB c.toNat (by rw [bCells_len]; exact hlen)).mono ?_
    rintro x w' ⟨rfl, v', hB', hK⟩
    have hB'' : BAt T e w' l0.blk (.pointer (some ⟨l0.blk, 0, none⟩)) v' (bCells (bytes ++ [c])) := by
      have : bCells (bytes ++ [c]) = bCells bytes ++ [.int .u8 c.toNat] := by simp [bCells]
      rw [this]; exact hB'
    obtain ⟨σ', h1, h2, h3⟩ := bld_close hH hs0 hk0 hv hB'' hK (fun h => by simp at h)
    exact ⟨.nilIface, F, σ', rfl, h1, fun _ h => h, fun _ h => .inl h, .d _ _ _ .nilif, h2, h3⟩
  | [], hsz, _ => simp at hsz
  | [_], hsz, _ => simp at hsz
  | _ :: _ :: _ :: _, hsz, _ => simp at hsz

theorem eff_WriteString {f T e : Nat} (hW : WsOk P f T e) (bytes s : List UInt8) (hlen : bytes.length + s.length ≤ 140737488355328) :
    EffCall P G f [.ptr 0 0 0, .d false (.str s)] [bldB T 1 bytes.length, bufB e bytes] (.tup [.d false (.int .i64 s.length), .d false .nilif]) [bldB T 1 (bytes ++ s).length, bufB e (bytes ++ s)] [1] := by
  intro w F σ vals hG hH hR
  obtain ⟨l0, p, v, hs0, hk0, hB, hn0, hv⟩ := bld_open hH
  obtain ⟨hsz, hval⟩ := hR
  obtain ⟨l⟩ := vals
  match l, hsz, hval with
  | [v0, v1], hsz, hval =>
    have e0 := ptr0_inv hs0 (hval 0 v0 (.ptr 0 0 0) rfl rfl)
    obtain ⟨t, e1, e2⟩ := (hval 1 v1 (.d false (.str s)) rfl rfl).str_inv
    subst e0; subst e1; subst e2
    have hst : t.size = t.data.toList.length := rfl
    refine (hW hB t (by rw [bCells_len, hst]; exact hlen)).mono ?_
    rintro x w' ⟨rfl, v', hB', hK, hnil⟩
    have hB'' : BAt T e w' l0.blk (.pointer (some ⟨l0.blk, 0, none⟩)) v' (bCells (bytes ++ t.data.toList)) := by
      have : bCells (bytes ++ t.data.toList) = bCells bytes ++ Lib.strCells t := by simp [bCells, Lib.strCells]
      rw [this]; exact hB'
    obtain ⟨σ', h1, h2, h3⟩ := bld_close hH hs0 hk0 hv hB'' hK (fun h => by
      rw [List.append_eq_nil_iff] at h
      exact hnil (hn0 h.1) (by rw [hst, h.2]; rfl))
    refine ⟨_, F, σ', rfl, h1, fun _ h => h, fun _ h => .inl h, .tup _ _ rfl (fun j u x hu hx => ?_), h2, h3⟩
    match j, hu, hx with
    | 0, hu, hx => simp at hu hx; subst hu; subst hx; rw [hst]; exact .d _ _ _ (.int _ _)
    | 1, hu, hx => simp at hu hx; subst hu; subst hx; exact .d _ _ _ .nilif
    | j + 2, hu, hx => simp at hu
  | [], hsz, _ => simp at hsz
  | [_], hsz, _ => simp at hsz
  | _ :: _ :: _ :: _, hsz, _ => simp at hsz

theorem eff_Len (L : Lays.n170 P ρ) (bytes : List UInt8) :
    EffCall P G (ρ.f 170) [.ptr 0 0 0] [bldB (ρ.t 72) 1 bytes.length, bufB (ρ.t 5) bytes] (.d false (.int .i64 bytes.length)) [bldB (ρ.t 72) 1 bytes.length, bufB (ρ.t 5) bytes] [] := by
  intro w F σ vals hG hH hR
  obtain ⟨l0, p, v, hs0, hk0, hB, hn0, hv⟩ := bld_open hH
  obtain ⟨hsz, hval⟩ := hR
  obtain ⟨l⟩ := vals
  match l, hsz, hval with
  | [v0], hsz, hval =>
    have e0 := ptr0_inv hs0 (hval 0 v0 (.ptr 0 0 0) rfl rfl)
    subst e0
    refine (Any.Builder_Len_f L 0 l0.blk (bCells bytes) w hB.isB).mono ?_
    rintro e w' ⟨rfl, rfl⟩
    exact ⟨_, F, σ, rfl, .refl _ _ _, fun _ h => h, fun _ h => .inl h, by rw [bCells_len]; exact .d _ _ _ (.int _ _), hH, fun _ _ _ h _ => h⟩
  | [], hsz, _ => simp at hsz
  | _ :: _ :: _, hsz, _ => simp at hsz

theorem eff_String (L : Lays.n169 P ρ) (X : Builder.Extra P ρ) (bytes : List UInt8) :
    EffCall P G (ρ.f 169) [.ptr 0 0 0] [bldB (ρ.t 72) 1 bytes.length, bufB (ρ.t 5) bytes] (.d false (.str bytes)) [bldB (ρ.t 72) 1 bytes.length, bufB (ρ.t 5) bytes] [1] := by
  intro w F σ vals hG hH hR
  obtain ⟨l0, p, v, hs0, hk0, hB, hn0, hv⟩ := bld_open hH
  obtain ⟨hsz, hval⟩ := hR
  obtain ⟨l⟩ := vals
  match l, hsz, hval with
  | [v0], hsz, hval =>
    have e0 := ptr0_inv hs0 (hval 0 v0 (.ptr 0 0 0) rfl rfl)
    subst e0
    by_cases h0 : bytes = []
    · subst h0
      have := hn0 rfl
      subst this
      refine (bld_String_nil L X hB).mono ?_
      rintro e w' ⟨rfl, rfl⟩
      have hB' : BAt (ρ.t 72) (ρ.t 5) w.drew l0.blk p (.slice none 0 0) (bCells []) := ⟨hB.hp, hB.hb, hB.own, hB.ne⟩
      have hK : Kept w w.drew l0.blk (.slice none 0 0) (.slice none 0 0) := ⟨rfl, rfl, rfl, Nat.le_refl _, fun _ _ _ _ => rfl, .inl rfl⟩
      obtain ⟨σ', h1, h2, h3⟩ := bld_close hH hs0 hk0 hv hB' hK (fun _ => rfl)
      exact ⟨_, F, σ', rfl, h1, fun _ h => h, fun _ h => .inl h, .d _ _ _ (.str ⟨#[]⟩), h2, h3⟩
    · obtain ⟨g, cap, rfl⟩ : ∃ g cap, v = .slice (some ⟨g, 0, none⟩) bytes.length cap := by
        rcases hB.own.2 with ⟨_, hz⟩ | ⟨g, cap, cur, fz, hv, _⟩
        · rw [bCells_len] at hz; exact absurd (List.eq_nil_of_length_eq_zero hz) h0
        · rw [bCells_len] at hv; exact ⟨g, cap, hv⟩
      refine (bld_String_some L X h0 hB).mono ?_
      rintro e w' ⟨rfl, rfl⟩
      have hlen : (bCells bytes).length = bytes.length := bCells_len _
      have hA : Lib.BuilderAtF (ρ.t 72) (ρ.t 5) 0 l0.blk p (bCells bytes) w.drew := ⟨Nat.zero_le _, _, hB.hb, hB.own, hB.ne⟩
      have c1 : w.drew.cell? ⟨l0.blk, 1, none⟩ = some (.slice (some ⟨g, 0, none⟩) (bCells bytes).length cap) := by
        have : w.drew.heap[l0.blk]? = some (.cells #[p, .slice (some ⟨g, 0, none⟩) bytes.length cap] (ρ.t 72) (0, 0)) := hB.hb
        rw [Lib.cell_of_heap this, hlen]; rfl
      have hne : g ≠ l0.blk := fun h => hB.ne (by simp [Value.ownBlock, h])
      have hF' := hA.froze (g := g) (cap := cap) c1
      rw [hlen] at hF'
      have hbk : (w.drew.freeze ⟨g, 0, none⟩ bytes.length).heap[l0.blk]? = some (.cells #[p, .slice (some ⟨g, 0, none⟩) bytes.length cap] (ρ.t 72) (0, 0)) := by
        rw [freeze_otherC _ _ _ _ (fun h => hne h.symm)]; exact hB.hb
      have hB' : BAt (ρ.t 72) (ρ.t 5) (w.drew.freeze ⟨g, 0, none⟩ bytes.length) l0.blk p (.slice (some ⟨g, 0, none⟩) bytes.length cap) (bCells bytes) := by
        obtain ⟨_, v2, hb2, hown2, hne2⟩ := hF'
        rw [hbk] at hb2
        have : v2 = .slice (some ⟨g, 0, none⟩) bytes.length cap := by
          injection hb2 with e1
          injection e1 with e2
          have e2' := congrArg Array.toList e2
          simp at e2'
          exact e2'.symm
        subst this
        exact ⟨hB.hp, hbk, hown2, hne2⟩
      have hsz' : (w.drew.freeze ⟨g, 0, none⟩ bytes.length).heap.size = w.heap.size := by
        unfold World.freeze
        split
        · rfl
        · show (w.heap.modify _ _).size = _
          simp only [Array.size_modify]
      have hos : (w.drew.freeze ⟨g, 0, none⟩ bytes.length).os = w.os ∧ (w.drew.freeze ⟨g, 0, none⟩ bytes.length).tape = w.tape ∧ (w.drew.freeze ⟨g, 0, none⟩ bytes.length).output = w.output := by
        unfold World.freeze
        split <;> exact ⟨rfl, rfl, rfl⟩
      have hK : Kept w (w.drew.freeze ⟨g, 0, none⟩ bytes.length) l0.blk (.slice (some ⟨g, 0, none⟩) bytes.length cap) (.slice (some ⟨g, 0, none⟩) bytes.length cap) :=
        ⟨hos.1, hos.2.1, hos.2.2, by rw [hsz']; exact Nat.le_refl _, fun k _ _ hk => by rw [freeze_otherC _ _ _ _ (fun h => hk (by simp [Value.ownBlock, h]))]; rfl, .inl rfl⟩
      obtain ⟨σ', h1, h2, h3⟩ := bld_close hH hs0 hk0 hv hB' hK (fun h => absurd h h0)
      exact ⟨_, F, σ', rfl, h1, fun _ h => h, fun _ h => .inl h, .d _ _ _ (.str ⟨bytes.toArray⟩), h2, h3⟩
  | [], hsz, _ => simp at hsz
  | _ :: _ :: _, hsz, _ => simp at hsz

end
end Go.Vm
end

section
namespace Go.Proofs
open Go.Shelf
def Tryz.lays170_ren : Go.Shelf.Ren := ⟨fun | 170 => 51 | n => n, fun | 70 => 76 | 3 => 3 | 0 => 0 | 72 => 78 | 37 => 40 | 5 => 5 | n => n, fun | n => n⟩
theorem Tryz.lays170 : Go.Proofs.Lays.n170 Tryz.prog Tryz.lays170_ren := {
  mixed := by kernel_rfl
  f170 := Tryz.func51.trans (congrArg some (by kernel_rfl))
  t0 := Tryz.underlying0
  a0 := Tryz.isAgg0
  z0 := Tryz.sizeOf0
  v0 := Tryz.zeroValue0
  t3 := Tryz.underlying3
  a3 := Tryz.isAgg3
  z3 := Tryz.sizeOf3
  v3 := Tryz.zeroValue3
  t37 := Tryz.underlying40
  a37 := Tryz.isAgg40
  z37 := Tryz.sizeOf40
  v37 := Tryz.zeroValue40
  t70 := Tryz.underlying76
  a70 := Tryz.isAgg76
  z70 := Tryz.sizeOf76
  v70 := Tryz.zeroValue76
  t72 := Tryz.underlying78
  a72 := Tryz.isAgg78
  z72 := Tryz.sizeOf78
  v72 := Tryz.zeroValue78 }
def Tryz.lays169_ren : Go.Shelf.Ren := ⟨fun | 169 => 52 | n => n, fun | 70 => 76 | 9 => 9 | 0 => 0 | 72 => 78 | 37 => 40 | 127 => 131 | 3 => 3 | 5 => 5 | n => n, fun | n => n⟩
theorem Tryz.lays169 : Go.Proofs.Lays.n169 Tryz.prog Tryz.lays169_ren := {
  mixed := by kernel_rfl
  f169 := Tryz.func52.trans (congrArg some (by kernel_rfl))
  t0 := Tryz.underlying0
  a0 := Tryz.isAgg0
  z0 := Tryz.sizeOf0
  v0 := Tryz.zeroValue0
  t3 := Tryz.underlying3
  a3 := Tryz.isAgg3
  z3 := Tryz.sizeOf3
  v3 := Tryz.zeroValue3
  t9 := Tryz.underlying9
  a9 := Tryz.isAgg9
  z9 := Tryz.sizeOf9
  v9 := Tryz.zeroValue9
  t37 := Tryz.underlying40
  a37 := Tryz.isAgg40
  z37 := Tryz.sizeOf40
  v37 := Tryz.zeroValue40
  t70 := Tryz.underlying76
  a70 := Tryz.isAgg76
  z70 := Tryz.sizeOf76
  v70 := Tryz.zeroValue76
  t72 := Tryz.underlying78
  a72 := Tryz.isAgg78
  z72 := Tryz.sizeOf78
  v72 := Tryz.zeroValue78
  t127 := Tryz.underlying131
  a127 := Tryz.isAgg131
  z127 := Tryz.sizeOf131
  v127 := Tryz.zeroValue131 }
theorem Tryz.Builder_Extra_169 : Builder.Extra Tryz.prog Tryz.lays169_ren := {
  sizeBuilder := by kernel_rfl
  liesBuilder := by kernel_rfl
  t5 := Tryz.underlying5
  a5 := Tryz.isAgg5
  z5 := Tryz.sizeOf5
  v5 := Tryz.zeroValue5
  infoByte := by kernel_rfl
  cellsByte := by kernel_rfl
  sizeByte := by kernel_rfl
  neB5 := by decide }
def Tryz.lays137_ren : Go.Shelf.Ren := ⟨fun | 137 => 123 | 217 => 137 | 266 => 149 | n => n, fun | 9 => 9 | 5 => 5 | 3 => 3 | n => n, fun | n => n⟩
theorem Tryz.lays137 : Go.Proofs.Lays.n137 Tryz.prog Tryz.lays137_ren := {
  mixed := by kernel_rfl
  f137 := Tryz.func123.trans (congrArg some (by kernel_rfl))
  f217 := Tryz.func137.trans (congrArg some (by kernel_rfl))
  f266 := Tryz.func149.trans (congrArg some (by kernel_rfl))
  t3 := Tryz.underlying3
  a3 := Tryz.isAgg3
  z3 := Tryz.sizeOf3
  v3 := Tryz.zeroValue3
  t5 := Tryz.underlying5
  a5 := Tryz.isAgg5
  z5 := Tryz.sizeOf5
  v5 := Tryz.zeroValue5
  t9 := Tryz.underlying9
  a9 := Tryz.isAgg9
  z9 := Tryz.sizeOf9
  v9 := Tryz.zeroValue9 }
open Go.RowKit in
theorem Tryz.strings_IndexByte (s : ByteArray) (c : Int) (w : World) :
    Calls Tryz.prog 123 #[.string s, .int .u8 c] w fun e w' => e = .returned (.int .i64 (Lib.indexByte s.data.toList c.toNat.toUInt8)) ∧ w' = w := Any.strings_IndexByte Tryz.lays137 s c w
def Tryz.lays172_ren : Go.Shelf.Ren := ⟨fun | 172 => 111 | 244 => 124 | 245 => 125 | 247 => 138 | 279 => 139 | 280 => 140 | 281 => 141 | 282 => 142 | 287 => 150 | 316 => 151 | 171 => 49 | 205 => 152 | 321 => 154 | 322 => 155 | 243 => 89 | 246 => 107 | 283 => 119 | 284 => 120 | 285 => 121 | 286 => 122 | 129 => 133 | 317 => 132 | 318 => 134 | 319 => 135 | 320 => 136 | 337 => 147 | 338 => 148 | n => n, fun | 9 => 9 | 3 => 3 | 75 => 80 | 76 => 81 | 4 => 4 | 5 => 5 | 167 => 171 | 37 => 40 | 0 => 0 | 85 => 172 | 2 => 2 | 168 => 174 | 53 => 105 | 175 => 183 | 46 => 109 | 210 => 186 | 127 => 131 | 145 => 195 | 143 => 193 | 21 => 21 | 171 => 156 | 173 => 159 | 212 => 167 | 51 => 107 | 20 => 20 | 213 => 168 | 232 => 190 | 233 => 191 | 80 => 84 | n => n, fun | 15 => 4 | 16 => 5 | 17 => 0 | 18 => 6 | 19 => 7 | n => n⟩
theorem Tryz.lays172 : Go.Proofs.Lays.n172 Tryz.prog Tryz.lays172_ren := {
  mixed := by kernel_rfl
  f129 := Tryz.func133.trans (congrArg some (by kernel_rfl))
  f171 := Tryz.func49.trans (congrArg some (by kernel_rfl))
  f172 := Tryz.func111.trans (congrArg some (by kernel_rfl))
  f205 := Tryz.func152.trans (congrArg some (by kernel_rfl))
  f243 := Tryz.func89.trans (congrArg some (by kernel_rfl))
  f244 := Tryz.func124.trans (congrArg some (by kernel_rfl))
  f245 := Tryz.func125.trans (congrArg some (by kernel_rfl))
  f246 := Tryz.func107.trans (congrArg some (by kernel_rfl))
  f247 := Tryz.func138.trans (congrArg some (by kernel_rfl))
  f279 := Tryz.func139.trans (congrArg some (by kernel_rfl))
  f280 := Tryz.func140.trans (congrArg some (by kernel_rfl))
  f281 := Tryz.func141.trans (congrArg some (by kernel_rfl))
  f282 := Tryz.func142.trans (congrArg some (by kernel_rfl))
  f283 := Tryz.func119.trans (congrArg some (by kernel_rfl))
  f284 := Tryz.func120.trans (congrArg some (by kernel_rfl))
  f285 := Tryz.func121.trans (congrArg some (by kernel_rfl))
  f286 := Tryz.func122.trans (congrArg some (by kernel_rfl))
  f287 := Tryz.func150.trans (congrArg some (by kernel_rfl))
  f316 := Tryz.func151.trans (congrArg some (by kernel_rfl))
  f317 := Tryz.func132.trans (congrArg some (by kernel_rfl))
  f318 := Tryz.func134.trans (congrArg some (by kernel_rfl))
  f319 := Tryz.func135.trans (congrArg some (by kernel_rfl))
  f320 := Tryz.func136.trans (congrArg some (by kernel_rfl))
  f321 := Tryz.func154.trans (congrArg some (by kernel_rfl))
  f322 := Tryz.func155.trans (congrArg some (by kernel_rfl))
  f337 := Tryz.func147.trans (congrArg some (by kernel_rfl))
  f338 := Tryz.func148.trans (congrArg some (by kernel_rfl))
  t0 := Tryz.underlying0
  a0 := Tryz.isAgg0
  z0 := Tryz.sizeOf0
  v0 := Tryz.zeroValue0
  t2 := Tryz.underlying2
  a2 := Tryz.isAgg2
  z2 := Tryz.sizeOf2
  v2 := Tryz.zeroValue2
  t3 := Tryz.underlying3
  a3 := Tryz.isAgg3
  z3 := Tryz.sizeOf3
  v3 := Tryz.zeroValue3
  t4 := Tryz.underlying4
  a4 := Tryz.isAgg4
  z4 := Tryz.sizeOf4
  v4 := Tryz.zeroValue4
  t5 := Tryz.underlying5
  a5 := Tryz.isAgg5
  z5 := Tryz.sizeOf5
  v5 := Tryz.zeroValue5
  t9 := Tryz.underlying9
  a9 := Tryz.isAgg9
  z9 := Tryz.sizeOf9
  v9 := Tryz.zeroValue9
  t20 := Tryz.underlying20
  a20 := Tryz.isAgg20
  z20 := Tryz.sizeOf20
  v20 := Tryz.zeroValue20
  t21 := Tryz.underlying21
  a21 := Tryz.isAgg21
  z21 := Tryz.sizeOf21
  v21 := Tryz.zeroValue21
  t37 := Tryz.underlying40
  a37 := Tryz.isAgg40
  z37 := Tryz.sizeOf40
  v37 := Tryz.zeroValue40
  t46 := Tryz.underlying109
  a46 := Tryz.isAgg109
  z46 := Tryz.sizeOf109
  v46 := Tryz.zeroValue109
  t51 := Tryz.underlying107
  a51 := Tryz.isAgg107
  z51 := Tryz.sizeOf107
  v51 := Tryz.zeroValue107
  t53 := Tryz.underlying105
  a53 := Tryz.isAgg105
  z53 := Tryz.sizeOf105
  v53 := Tryz.zeroValue105
  t75 := Tryz.underlying80
  a75 := Tryz.isAgg80
  z75 := Tryz.sizeOf80
  v75 := Tryz.zeroValue80
  t76 := Tryz.underlying81
  a76 := Tryz.isAgg81
  z76 := Tryz.sizeOf81
  v76 := Tryz.zeroValue81
  t85 := Tryz.underlying172
  a85 := Tryz.isAgg172
  z85 := Tryz.sizeOf172
  v85 := Tryz.zeroValue172
  t127 := Tryz.underlying131
  a127 := Tryz.isAgg131
  z127 := Tryz.sizeOf131
  v127 := Tryz.zeroValue131
  t143 := Tryz.underlying193
  a143 := Tryz.isAgg193
  z143 := Tryz.sizeOf193
  v143 := Tryz.zeroValue193
  t145 := Tryz.underlying195
  a145 := Tryz.isAgg195
  z145 := Tryz.sizeOf195
  v145 := Tryz.zeroValue195
  t167 := Tryz.underlying171
  a167 := Tryz.isAgg171
  z167 := Tryz.sizeOf171
  v167 := Tryz.zeroValue171
  t168 := Tryz.underlying174
  a168 := Tryz.isAgg174
  z168 := Tryz.sizeOf174
  v168 := Tryz.zeroValue174
  t171 := Tryz.underlying156
  a171 := Tryz.isAgg156
  z171 := Tryz.sizeOf156
  v171 := Tryz.zeroValue156
  t173 := Tryz.underlying159
  a173 := Tryz.isAgg159
  z173 := Tryz.sizeOf159
  v173 := Tryz.zeroValue159
  t175 := Tryz.underlying183
  a175 := Tryz.isAgg183
  z175 := Tryz.sizeOf183
  v175 := Tryz.zeroValue183
  t210 := Tryz.underlying186
  a210 := Tryz.isAgg186
  z210 := Tryz.sizeOf186
  v210 := Tryz.zeroValue186
  t212 := Tryz.underlying167
  a212 := Tryz.isAgg167
  z212 := Tryz.sizeOf167
  v212 := Tryz.zeroValue167
  t213 := Tryz.underlying168
  a213 := Tryz.isAgg168
  z213 := Tryz.sizeOf168
  t232 := Tryz.underlying190
  a232 := Tryz.isAgg190
  z232 := Tryz.sizeOf190
  v232 := Tryz.zeroValue190
  t233 := Tryz.underlying191
  a233 := Tryz.isAgg191
  z233 := Tryz.sizeOf191
  v233 := Tryz.zeroValue191
  g15 := by kernel_rfl
  g16 := by kernel_rfl
  g17 := by kernel_rfl
  g18 := by kernel_rfl
  g19 := by kernel_rfl }
open Go.RowKit in
theorem Tryz.strconv_Atoi (s : ByteArray) (n : Int) (hl : s.size ≤ 18) (h : Lib.atoi s.data.toList = some n) (w : World) :
    Calls Tryz.prog 111 #[.string s] w fun e w' => e = .returned (.tuple #[.int .i64 n, .nilIface]) ∧ ∃ t, w' = Lib.bytesWorld w 5 t := Any.strconv_Atoi Tryz.lays172 s n hl h w
def Tryz.laysM171_ren : Go.Shelf.Ren := ⟨fun | 171 => 49 | 243 => 89 | 246 => 107 | 283 => 119 | 284 => 120 | 285 => 121 | 286 => 122 | 129 => 133 | 317 => 132 | 318 => 134 | 319 => 135 | 320 => 136 | 337 => 147 | 338 => 148 | n => n, fun | 3 => 3 | 9 => 9 | 2 => 2 | 4 => 4 | 171 => 156 | 0 => 0 | 53 => 105 | 37 => 40 | 5 => 5 | 173 => 159 | 212 => 167 | 51 => 107 | 20 => 20 | 213 => 168 | 46 => 109 | 232 => 190 | 233 => 191 | n => n, fun | 17 => 0 | 18 => 6 | 19 => 7 | n => n⟩
theorem Tryz.laysM171 : Go.Proofs.LaysM.n171 Tryz.prog Tryz.laysM171_ren := {
  mixed := by kernel_rfl
  f129 := Tryz.func133.trans (congrArg some (by kernel_rfl))
  f171 := Tryz.func49.trans (congrArg some (by kernel_rfl))
  f243 := Tryz.func89.trans (congrArg some (by kernel_rfl))
  f246 := Tryz.func107.trans (congrArg some (by kernel_rfl))
  f283 := Tryz.func119.trans (congrArg some (by kernel_rfl))
  f284 := Tryz.func120.trans (congrArg some (by kernel_rfl))
  f285 := Tryz.func121.trans (congrArg some (by kernel_rfl))
  f286 := Tryz.func122.trans (congrArg some (by kernel_rfl))
  f317 := Tryz.func132.trans (congrArg some (by kernel_rfl))
  f318 := Tryz.func134.trans (congrArg some (by kernel_rfl))
  f319 := Tryz.func135.trans (congrArg some (by kernel_rfl))
  f320 := Tryz.func136.trans (congrArg some (by kernel_rfl))
  f337 := Tryz.func147.trans (congrArg some (by kernel_rfl))
  f338 := Tryz.func148.trans (congrArg some (by kernel_rfl))
  t0 := Tryz.underlying0
  a0 := Tryz.isAgg0
  z0 := Tryz.sizeOf0
  v0 := Tryz.zeroValue0
  t2 := Tryz.underlying2
  a2 := Tryz.isAgg2
  z2 := Tryz.sizeOf2
  v2 := Tryz.zeroValue2
  t3 := Tryz.underlying3
  a3 := Tryz.isAgg3
  z3 := Tryz.sizeOf3
  v3 := Tryz.zeroValue3
  t4 := Tryz.underlying4
  a4 := Tryz.isAgg4
  z4 := Tryz.sizeOf4
  v4 := Tryz.zeroValue4
  t5 := Tryz.underlying5
  a5 := Tryz.isAgg5
  z5 := Tryz.sizeOf5
  v5 := Tryz.zeroValue5
  t9 := Tryz.underlying9
  a9 := Tryz.isAgg9
  z9 := Tryz.sizeOf9
  v9 := Tryz.zeroValue9
  t20 := Tryz.underlying20
  a20 := Tryz.isAgg20
  z20 := Tryz.sizeOf20
  v20 := Tryz.zeroValue20
  t37 := Tryz.underlying40
  a37 := Tryz.isAgg40
  z37 := Tryz.sizeOf40
  v37 := Tryz.zeroValue40
  t46 := Tryz.underlying109
  a46 := Tryz.isAgg109
  z46 := Tryz.sizeOf109
  v46 := Tryz.zeroValue109
  t51 := Tryz.underlying107
  a51 := Tryz.isAgg107
  z51 := Tryz.sizeOf107
  v51 := Tryz.zeroValue107
  t53 := Tryz.underlying105
  a53 := Tryz.isAgg105
  z53 := Tryz.sizeOf105
  v53 := Tryz.zeroValue105
  t171 := Tryz.underlying156
  a171 := Tryz.isAgg156
  z171 := Tryz.sizeOf156
  v171 := Tryz.zeroValue156
  t173 := Tryz.underlying159
  a173 := Tryz.isAgg159
  z173 := Tryz.sizeOf159
  v173 := Tryz.zeroValue159
  t212 := Tryz.underlying167
  a212 := Tryz.isAgg167
  z212 := Tryz.sizeOf167
  v212 := Tryz.zeroValue167
  t213 := Tryz.underlying168
  a213 := Tryz.isAgg168
  z213 := Tryz.sizeOf168
  t232 := Tryz.underlying190
  a232 := Tryz.isAgg190
  z232 := Tryz.sizeOf190
  v232 := Tryz.zeroValue190
  t233 := Tryz.underlying191
  a233 := Tryz.isAgg191
  z233 := Tryz.sizeOf191
  v233 := Tryz.zeroValue191
  g17 := by kernel_rfl
  g18 := by kernel_rfl
  g19 := by kernel_rfl
  i0 := by kernel_rfl
  i2 := by kernel_rfl
  i3 := by kernel_rfl
  i4 := by kernel_rfl
  i5 := by kernel_rfl
  i9 := by kernel_rfl
  i20 := by kernel_rfl
  i37 := by kernel_rfl
  i46 := by kernel_rfl
  i51 := by kernel_rfl
  i53 := by kernel_rfl
  i171 := by kernel_rfl
  i173 := by kernel_rfl
  i212 := by kernel_rfl
  i232 := by kernel_rfl
  i233 := by kernel_rfl
  m17 := by kernel_rfl
  m18 := by kernel_rfl
  m19 := by kernel_rfl }
open Go.RowKit Go.Sort Go.Lib in
theorem Tryz.strconv_Itoa (n : Int) (h0 : -9223372036854775808 ≤ n) (h1 : n ≤ 9223372036854775807) (w : World) (htab : Lib.TabIs Tryz.prog w "internal/strconv.uint64pow10" .u64 Lib.pow10Tab) :
    Calls Tryz.prog 49 #[.int .i64 n] w fun e w' => e = .returned (.string ⟨(Lib.itoa n).toArray⟩) ∧ ∃ k os, w' = grow (w.drewN k) os := Any.strconv_Itoa Tryz.laysM171 n h0 h1 w htab
def Tryz.lays138_ren : Go.Shelf.Ren := ⟨fun | 138 => 115 | 195 => 127 | 218 => 128 | 143 => 117 | 219 => 130 | 217 => 137 | 225 => 144 | 224 => 145 | 267 => 146 | 266 => 149 | 314 => 153 | n => n, fun | 9 => 9 | 3 => 3 | 4 => 4 | 5 => 5 | 0 => 0 | 46 => 109 | 146 => 188 | 51 => 107 | n => n, fun | 1 => 1 | n => n⟩
theorem Tryz.lays138 : Go.Proofs.Lays.n138 Tryz.prog Tryz.lays138_ren := {
  mixed := by kernel_rfl
  f138 := Tryz.func115.trans (congrArg some (by kernel_rfl))
  f143 := Tryz.func117.trans (congrArg some (by kernel_rfl))
  f195 := Tryz.func127.trans (congrArg some (by kernel_rfl))
  f217 := Tryz.func137.trans (congrArg some (by kernel_rfl))
  f218 := Tryz.func128.trans (congrArg some (by kernel_rfl))
  f219 := Tryz.func130.trans (congrArg some (by kernel_rfl))
  f224 := Tryz.func145.trans (congrArg some (by kernel_rfl))
  f225 := Tryz.func144.trans (congrArg some (by kernel_rfl))
  f266 := Tryz.func149.trans (congrArg some (by kernel_rfl))
  f267 := Tryz.func146.trans (congrArg some (by kernel_rfl))
  f314 := Tryz.func153.trans (congrArg some (by kernel_rfl))
  t0 := Tryz.underlying0
  a0 := Tryz.isAgg0
  z0 := Tryz.sizeOf0
  v0 := Tryz.zeroValue0
  t3 := Tryz.underlying3
  a3 := Tryz.isAgg3
  z3 := Tryz.sizeOf3
  v3 := Tryz.zeroValue3
  t4 := Tryz.underlying4
  a4 := Tryz.isAgg4
  z4 := Tryz.sizeOf4
  v4 := Tryz.zeroValue4
  t5 := Tryz.underlying5
  a5 := Tryz.isAgg5
  z5 := Tryz.sizeOf5
  v5 := Tryz.zeroValue5
  t9 := Tryz.underlying9
  a9 := Tryz.isAgg9
  z9 := Tryz.sizeOf9
  v9 := Tryz.zeroValue9
  t46 := Tryz.underlying109
  a46 := Tryz.isAgg109
  z46 := Tryz.sizeOf109
  v46 := Tryz.zeroValue109
  t51 := Tryz.underlying107
  a51 := Tryz.isAgg107
  z51 := Tryz.sizeOf107
  v51 := Tryz.zeroValue107
  t146 := Tryz.underlying188
  a146 := Tryz.isAgg188
  z146 := Tryz.sizeOf188
  v146 := Tryz.zeroValue188
  g1 := by kernel_rfl }
open Go.RowKit Go.Lib in
theorem Tryz.strings_Count_one (s : ByteArray) (c : UInt8) (w : World) :
    Calls Tryz.prog 115 #[.string s, .string ⟨#[c]⟩] w fun e w' => e = .returned (.int .i64 (Lib.countByte s.data.toList c)) ∧ w' = w := Any.strings_Count_one Tryz.lays138 s c w
end Go.Proofs
end
