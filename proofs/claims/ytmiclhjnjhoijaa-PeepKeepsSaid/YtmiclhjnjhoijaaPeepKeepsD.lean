/-
  Parts of the proof: What the functions of packages peep and code come to: plain definitions. What code.Check comes to: plain definitions. slothlaw19.sameCode; peep.Peep. code.Check. code.Check, the whole. peep.Peep. slices.Clone; the law's shapes. slothlaw19.same. Functions of package peep: what they come to. peep.put. peep.one, alone, look, slices.Clip. peep.look. peep.better, one pass. peep.better. The rules keep a code good, and come to an end. One step of the rules keeps a code good, and makes it less. The rules come to an end. A code that Check lets pass is good; what better makes of it. A table of which one code is kept. slothlaw19.awake. slothlaw19.PeepAlone. slothlaw19.PeepAlone answers true. slothlaw19.PeepAlone answers true where there is a global. slothlaw19.PeepAlone answers true where there is a global, and for every table. Conditions: none.
-/
import Derived.Test.YtmiclhjnjhoijaaPeepKeepsC
import Derived.Test.YtmiclhjnjhoijaaChecked
set_option linter.unusedVariables false
set_option linter.unusedSimpArgs false

section
namespace Go.Vm

def targetS (x : Instr) : Int × Bool := if x.op = 13 then (x.a, true) else if x.op = 14 ∨ x.op = 15 then (x.b, true) else (0, false)


def carryS (p gone by_ to : Int) : Int := if to ≤ p then to else if to < p + gone then p else to + by_
def carryI (p gone by_ : Int) (x : Instr) : Instr := if x.op = 13 then { x with a := carryS p gone by_ x.a } else if x.op = 14 ∨ x.op = 15 then { x with b := carryS p gone by_ x.b } else x
def putS (l : List Instr) (p gone : Int) (more : List Instr) : List Instr := (l.take p.toNat ++ more ++ l.drop (p + gone).toNat).map (carryI p gone (more.length - gone))

def Tame (x : Instr) : Prop := (x.op = 13 → 0 ≤ x.a ∧ x.a ≤ 1152921504606846976) ∧ (x.op = 14 ∨ x.op = 15 → 0 ≤ x.b ∧ x.b ≤ 1152921504606846976)


theorem set_map_prefix {α : Type} [Inhabited α] (f : α → α) (o : List α) (i : Nat) (h : i < o.length) : ((o.take i).map f ++ o.drop i).set i (f (nth o i)) = (o.take (i + 1)).map f ++ o.drop (i + 1) := by
  have hl : ((o.take i).map f).length = i := by simp; omega
  rw [drop_nth h, List.set_append, if_neg (by omega), hl, Nat.sub_self, List.set_cons_zero, List.take_succ_eq_append_getElem h, List.map_append, List.append_assoc]
  rw [← nth_getElem (n := (i : Int)) (by simpa using h)]
  simp
theorem nth_prefix {α : Type} [Inhabited α] (f : α → α) (o : List α) (i : Nat) (h : i < o.length) : nth ((o.take i).map f ++ o.drop i) (i : Int) = nth o i := by
  have hl : ((o.take i).map f).length = i := by simp; omega
  rw [nth_nat, nth_nat, List.getD_eq_getElem?_getD, List.getElem?_append_right (by omega), hl, Nat.sub_self, List.getElem?_drop, Nat.add_zero, List.getD_eq_getElem?_getD]


theorem putS_len (l : List Instr) (p gone : Int) (more : List Instr) (h1 : 0 ≤ p ∧ 0 ≤ gone ∧ p + gone ≤ l.length) : ((putS l p gone more).length : Int) = l.length + more.length - gone := by
  simp [putS]; omega


structure Fit (l : List Instr) : Prop where
  len : l.length ≤ 100000
  jmp : ∀ i : Nat, i < l.length → (nth l i).op = 13 → (i : Int) < (nth l i).a ∧ (nth l i).a < l.length
  tst : ∀ i : Nat, i < l.length → (nth l i).op = 14 ∨ (nth l i).op = 15 → (i : Int) < (nth l i).b ∧ (nth l i).b < l.length

theorem mem_nth {α : Type} [Inhabited α] {l : List α} {x : α} (h : x ∈ l) : ∃ i : Nat, i < l.length ∧ nth l (i : Int) = x := by
  obtain ⟨i, hi, rfl⟩ := List.getElem_of_mem h
  exact ⟨i, hi, (nth_getElem (n := (i : Int)) (by simpa using hi)).symm.trans (by simp)⟩

theorem Fit.tame {l : List Instr} (h : Fit l) : ∀ x ∈ l, Tame x := by
  intro x hx
  obtain ⟨i, hi, rfl⟩ := mem_nth hx
  have := h.len
  exact ⟨fun ho => by have := h.jmp i hi ho; omega, fun ho => by have := h.tst i hi ho; omega⟩


def aloneS (l : List Instr) (p : Int) : Option (List Instr) :=
  let x := nth l p
  if x.op = 4 ∨ x.op = 5 ∨ x.op = 8 then (if x.a = 0 then some (putS l p 1 []) else none)
  else if x.op = 13 then
    if x.a = p + 1 then some (putS l p 1 [])
    else let y := nth l x.a; if y.op = 13 ∨ y.op = 16 ∨ y.op = 17 then some (putS l p 1 [y]) else none
  else if x.op = 14 ∨ x.op = 15 then
    let y := nth l x.b; if y.op = 13 then some (putS l p 1 [⟨x.op, x.a, y.a⟩]) else none
  else none
def ansS : Option (List Instr) → V
  | some l => .tup [.d true (.sl 3 (l.map eInstr)), .d false (.bool true)]
  | none => .tup [.fs true 3 [], .d false (.bool false)]

theorem nth_mem {α : Type} [Inhabited α] {l : List α} {i : Int} (h0 : 0 ≤ i) (h : i < l.length) : nth l i ∈ l := by
  rw [← nth_getElem (n := i) (by omega)]; exact List.getElem_mem _


def lookL (l : List Instr) : Nat → Nat → List Bool → List Bool → List Bool × List Bool
  | 0, _, J, R => (J, R)
  | k + 1, i, J, R =>
    let x := nth l i
    let J1 := if (targetS x).2 then J.set (targetS x).1.toNat true else J
    if nth R i then
      let R1 := if (targetS x).2 then R.set (targetS x).1.toNat true else R
      lookL l k (i + 1) J1 (if x.op ≠ 13 ∧ x.op ≠ 16 ∧ x.op ≠ 17 then R1.set (i + 1) true else R1)
    else lookL l k (i + 1) J1 R


theorem lookL_len (l : List Instr) : ∀ (k i : Nat) (J R : List Bool), (lookL l k i J R).1.length = J.length ∧ (lookL l k i J R).2.length = R.length := by
  intro k
  induction k with
  | zero => intro i J R; exact ⟨rfl, rfl⟩
  | succ k ih =>
    intro i J R
    simp only [lookL]
    split
    · obtain ⟨h1, h2⟩ := ih (i + 1) (if (targetS (nth l i)).2 then J.set (targetS (nth l i)).1.toNat true else J) (if (nth l (i : Int)).op ≠ 13 ∧ (nth l (i : Int)).op ≠ 16 ∧ (nth l (i : Int)).op ≠ 17 then (if (targetS (nth l i)).2 then R.set (targetS (nth l i)).1.toNat true else R).set (i + 1) true else (if (targetS (nth l i)).2 then R.set (targetS (nth l i)).1.toNat true else R))
      refine ⟨h1.trans (by split <;> simp), h2.trans (by split <;> (split <;> simp))⟩
    · obtain ⟨h1, h2⟩ := ih (i + 1) (if (targetS (nth l i)).2 then J.set (targetS (nth l i)).1.toNat true else J) R
      refine ⟨h1.trans (by split <;> simp), h2⟩

def lookS (l : List Instr) : List Bool × List Bool := lookL l l.length 0 (List.replicate (l.length + 1) false) ((List.replicate (l.length + 1) false).set 0 true)
theorem lookS_len (l : List Instr) : (lookS l).1.length = l.length + 1 ∧ (lookS l).2.length = l.length + 1 := by
  have := lookL_len l l.length 0 (List.replicate (l.length + 1) false) ((List.replicate (l.length + 1) false).set 0 true)
  simpa [lookS] using this


def goodB (b : UInt8) : Bool := decide (32 ≤ (b.toNat : Int)) && decide ((b.toNat : Int) ≤ 126)
def isNameS (s : List UInt8) : Bool := s.all goodB && (decide (1 ≤ (s.length : Int)) && decide ((s.length : Int) ≤ 4096))


def givenS : List Shape := [⟨[70, 97, 108, 115, 101], 0⟩, ⟨[84, 114, 117, 101], 0⟩, ⟨[85, 110, 105, 116], 0⟩, ⟨[78, 105, 108], 0⟩, ⟨[67, 111, 110, 115], 2⟩, ⟨[80, 97, 105, 114], 2⟩, ⟨[84, 114, 105, 112, 108, 101], 3⟩]

def greatL : List Glob → Int → Option Int
  | [], n => some n
  | g :: r, n => if 8000 < (g.code.length : Int) then none else greatL r (n + g.code.length)
def greatS (t : Table) : Bool := match greatL t.globals 0 with
  | none => true
  | some n => decide (2000 < (t.shapes.length : Int)) || decide (2000 < (t.globals.length : Int)) || decide (200000 < n)


theorem greatL_le : ∀ (l : List Glob) (n m : Int), greatL l n = some m → n ≤ m ∧ m ≤ n + 8000 * l.length := by
  intro l
  induction l with
  | nil => intro n m h; simp only [greatL, Option.some.injEq] at h; subst h; simp
  | cons g l ih =>
    intro n m h
    simp only [greatL] at h
    split at h
    · cases h
    · have := ih _ _ h
      simp only [List.length_cons]
      omega


def numberS (ng ns nc at_ n kind : Int) : Int :=
  if kind = 8 then (if n ≤ at_ ∨ nc ≤ n then 174 else 0) else
  if (if kind = 0 then decide (n = 0) else if kind = 1 then decide (0 ≤ n) else if kind = 2 then decide (1 ≤ n)
    else if kind = 3 then decide (-4611686018427387904 ≤ n ∧ n ≤ 4611686018427387903) else if kind = 4 then decide (0 ≤ n ∧ n < ng)
    else if kind = 5 then decide (0 ≤ n ∧ n < ns) else if kind = 6 then decide (1 ≤ n ∧ n ≤ 11) else if kind = 7 then decide (1 ≤ n ∧ n ≤ 4) else true) then 0 else 172


def reachS (Dp : List Int) (at_ d : Int) : List Int := if nth Dp at_ = 0 then Dp.set at_.toNat d else Dp
def reachB' (Dp : List Int) (at_ d : Int) : Bool := if nth Dp at_ = 0 then true else nth Dp at_ == d

theorem nth_set_self {α : Type} [Inhabited α] (l : List α) (i : Int) (x : α) (h0 : 0 ≤ i) (h : i < l.length) : nth (l.set i.toNat x) i = x := by
  unfold nth
  rw [List.getD_eq_getElem?_getD, List.getElem?_set_self (by omega)]
  rfl


def fieldsS (sh : List Shape) (a : Int) : Int := (nth sh a).fields
def stackedS (sh : List Shape) (x : Instr) (d : Int) : Int × Bool :=
  let r : Int × Bool :=
    if x.op = 1 then (d + 1, decide (x.a < d)) else if x.op = 2 ∨ x.op = 3 then (d + 1, true)
    else if x.op = 4 then (d - x.a, decide (x.a < d)) else if x.op = 5 then (d - x.a, decide (x.a < d - 1))
    else if x.op = 6 ∨ x.op = 12 then (d - 1, decide (2 < d)) else if x.op = 7 then (d - 1, decide (x.a < d))
    else if x.op = 8 then (d + (if 8000 < x.a then 8000 else x.a), decide (x.a ≤ 8000))
    else if x.op = 9 then (d - fieldsS sh x.a + 1, decide (fieldsS sh x.a < d)) else if x.op = 10 then (d - 1 + fieldsS sh x.a, decide (1 < d))
    else if x.op = 11 ∨ x.op = 14 ∨ x.op = 15 then (d, decide (1 < d)) else if x.op = 17 then (d, decide (d = 1)) else (d, true)
  (r.1, r.2 && decide (r.1 ≤ 8000))


def formT : List (List UInt8 × Int × Int) := [([], 0, 0), ([112, 117, 115, 104], 1, 0), ([103, 108, 111, 98], 4, 0), ([105, 110, 116], 3, 0), ([112, 111, 112], 1, 0), ([115, 108, 105, 100, 101], 1, 0), ([97, 112, 112, 108, 121], 0, 0), ([117, 112, 100, 97, 116, 101], 2, 0),
  ([97, 108, 108, 111, 99], 1, 0), ([112, 97, 99, 107], 5, 0), ([115, 112, 108, 105, 116], 5, 0), ([101, 118, 97, 108], 0, 0), ([97, 114, 105, 116, 104], 6, 0), ([106, 117, 109, 112], 8, 0), ([116, 101, 115, 116, 99, 111, 110], 5, 8), ([116, 101, 115, 116, 105, 110, 116], 3, 8), ([102, 97, 105, 108], 7, 0), ([117, 110, 119, 105, 110, 100], 0, 0)]
def formS (op : Int) : List UInt8 × Int × Int := if 1 ≤ op ∧ op < 18 then nth formT op else ([], 0, 0)
def vForm (f : List UInt8 × Int × Int) (ok : Bool) : V := .tup [.agg [.d false (.str f.1), .d false (.int .i64 f.2.1), .d false (.int .i64 f.2.2)], .d false (.bool ok)]


def numsS (ng ns nc i : Int) (x : Instr) : Int :=
  if 1 ≤ x.op ∧ x.op < 18 then
    let a := numberS ng ns nc i x.a (formS x.op).2.1
    let b := numberS ng ns nc i x.b (formS x.op).2.2
    if a = 172 ∨ b = 172 then 172 else if a ≠ 0 ∨ b ≠ 0 then 174 else 0
  else 172
def numsL (ng ns nc : Int) (l : List Instr) : Nat → Nat → Int
  | 0, _ => 0
  | k + 1, i => if numsS ng ns nc i (nth l i) = 0 then numsL ng ns nc l k (i + 1) else numsS ng ns nc i (nth l i)

theorem formS_kind (op : Int) : (0 ≤ (formS op).2.1 ∧ (formS op).2.1 ≤ 8) ∧ (0 ≤ (formS op).2.2 ∧ (formS op).2.2 ≤ 8) := by
  unfold formS
  by_cases h : 1 ≤ op ∧ op < 18
  · rw [if_pos h]
    have : op = 1 ∨ op = 2 ∨ op = 3 ∨ op = 4 ∨ op = 5 ∨ op = 6 ∨ op = 7 ∨ op = 8 ∨ op = 9 ∨ op = 10 ∨ op = 11 ∨ op = 12 ∨ op = 13 ∨ op = 14 ∨ op = 15 ∨ op = 16 ∨ op = 17 := by omega
    clear h
    rcases this with rfl | rfl | rfl | rfl | rfl | rfl | rfl | rfl | rfl | rfl | rfl | rfl | rfl | rfl | rfl | rfl | rfl <;> decide
  · rw [if_neg h]; decide

theorem numberS_val (ng ns nc at_ n kind : Int) : numberS ng ns nc at_ n kind = 0 ∨ numberS ng ns nc at_ n kind = 172 ∨ numberS ng ns nc at_ n kind = 174 := by
  have key : ∀ b : Bool, (if b = true then (0 : Int) else 172) = 0 ∨ (if b = true then (0 : Int) else 172) = 172 ∨ (if b = true then (0 : Int) else 172) = 174 := by
    intro b; cases b <;> simp
  unfold numberS
  split
  · split <;> simp
  · exact key _


def targI (x : Instr) : Int := if x.op = 13 then x.a else if x.op = 14 ∨ x.op = 15 then x.b else 0
def goesOn (x : Instr) : Bool := x.op != 13 && x.op != 16 && x.op != 17

def depL (sh : List Shape) (cd : List Instr) : Nat → Nat → List Int → Int
  | 0, _, _ => 0
  | k + 1, i, Dp =>
    let x := nth cd i
    let d := nth Dp i
    if d = 0 then 174 else
    if (stackedS sh x d).2 = false then 173 else
    if goesOn x = true then
      if (i : Int) + 1 = cd.length then 174 else
      if reachB' Dp (i + 1) (stackedS sh x d).1 = false then 173 else
      if 0 < targI x then
        if reachB' (reachS Dp (i + 1) (stackedS sh x d).1) (targI x) (stackedS sh x d).1 = false then 173 else depL sh cd k (i + 1) (reachS (reachS Dp (i + 1) (stackedS sh x d).1) (targI x) (stackedS sh x d).1)
      else depL sh cd k (i + 1) (reachS Dp (i + 1) (stackedS sh x d).1)
    else if 0 < targI x then
        if reachB' Dp (targI x) (stackedS sh x d).1 = false then 173 else depL sh cd k (i + 1) (reachS Dp (targI x) (stackedS sh x d).1)
      else depL sh cd k (i + 1) Dp

structure NumOk (ns nc i : Int) (x : Instr) : Prop where
  op : 1 ≤ x.op ∧ x.op < 18
  cnt : x.op = 1 ∨ x.op = 4 ∨ x.op = 5 ∨ x.op = 8 → 0 ≤ x.a
  upd : x.op = 7 → 1 ≤ x.a
  con : x.op = 9 ∨ x.op = 10 → 0 ≤ x.a ∧ x.a < ns
  jmp : x.op = 13 → i < x.a ∧ x.a < nc
  tst : x.op = 14 ∨ x.op = 15 → i < x.b ∧ x.b < nc

theorem numsS_ok {ng ns nc i : Int} {x : Instr} (h : numsS ng ns nc i x = 0) : NumOk ns nc i x := by
  unfold numsS at h
  by_cases g : 1 ≤ x.op ∧ x.op < 18
  · rw [if_pos g] at h
    have key : ∀ a b : Int, (if a = 172 ∨ b = 172 then (172 : Int) else if a ≠ 0 ∨ b ≠ 0 then 174 else 0) = 0 → a = 0 ∧ b = 0 := by
      intro a b h
      split at h
      · omega
      · split at h <;> omega
    obtain ⟨ha, hb⟩ := key _ _ h
    clear h
    have : x.op = 1 ∨ x.op = 2 ∨ x.op = 3 ∨ x.op = 4 ∨ x.op = 5 ∨ x.op = 6 ∨ x.op = 7 ∨ x.op = 8 ∨ x.op = 9 ∨ x.op = 10 ∨ x.op = 11 ∨ x.op = 12 ∨ x.op = 13 ∨ x.op = 14 ∨ x.op = 15 ∨ x.op = 16 ∨ x.op = 17 := by omega
    obtain ⟨op, a, b⟩ := x
    simp only at this ha hb g
    rcases this with rfl | rfl | rfl | rfl | rfl | rfl | rfl | rfl | rfl | rfl | rfl | rfl | rfl | rfl | rfl | rfl | rfl <;>
      simp [formS, formT, nth, numberS] at ha hb <;> exact ⟨by simp, by simp; try omega, by simp; try omega, by simp; try omega, by simp; try omega, by simp; try omega⟩
  · rw [if_neg g] at h; cases h

def ShOk (sh : List Shape) : Prop := ∀ s ∈ sh, 0 ≤ s.fields ∧ s.fields ≤ 8

theorem stacked_range {sh : List Shape} {nc i d : Int} {x : Instr} (hs : ShOk sh) (hx : NumOk sh.length nc i x) (hd : 1 ≤ d ∧ d ≤ 8000) (h : (stackedS sh x d).2 = true) : 1 ≤ (stackedS sh x d).1 ∧ (stackedS sh x d).1 ≤ 8000 := by
  obtain ⟨op, a, b⟩ := x
  have hf : (op = 9 ∨ op = 10) → 0 ≤ fieldsS sh a := fun ho => (hs _ (nth_mem (hx.con ho).1 (hx.con ho).2)).1
  have h1 := hx.op
  have h2 := hx.cnt
  have h3 := hx.upd
  simp only at h1 h2 h3
  have : op = 1 ∨ op = 2 ∨ op = 3 ∨ op = 4 ∨ op = 5 ∨ op = 6 ∨ op = 7 ∨ op = 8 ∨ op = 9 ∨ op = 10 ∨ op = 11 ∨ op = 12 ∨ op = 13 ∨ op = 14 ∨ op = 15 ∨ op = 16 ∨ op = 17 := by omega
  unfold stackedS at h ⊢
  rcases this with rfl | rfl | rfl | rfl | rfl | rfl | rfl | rfl | rfl | rfl | rfl | rfl | rfl | rfl | rfl | rfl | rfl <;> simp at h h2 h3 hf ⊢ <;> (try split at h) <;> (try split) <;> omega

theorem reachS_len (Dp : List Int) (at_ d : Int) : (reachS Dp at_ d).length = Dp.length := by
  unfold reachS; split <;> simp

def DpOk (Dp : List Int) : Prop := ∀ v ∈ Dp, 0 ≤ v ∧ v ≤ 8000
theorem reachS_ok {Dp : List Int} {at_ d : Int} (h : DpOk Dp) (hd : 0 ≤ d ∧ d ≤ 8000) : DpOk (reachS Dp at_ d) := by
  unfold reachS
  split
  · intro v hv
    rcases List.mem_or_eq_of_mem_set hv with h1 | h1
    · exact h v h1
    · subst h1; exact hd
  · exact h


end Go.Vm
end

section
namespace Go.Vm

def checkCodeS (ng : Nat) (sh : List Shape) (g : Glob) : Int :=
  if numsL ng sh.length g.code.length g.code g.code.length 0 = 0 then
    if g.code.length = 0 then 174 else depL sh g.code g.code.length 0 ((List.replicate g.code.length 0).set 0 (g.arity + 1))
  else numsL ng sh.length g.code.length g.code g.code.length 0

def namesOk (most : Int) : List (List UInt8 × Int) → List (List UInt8) → Bool
  | [], _ => true
  | (n, k) :: r, seen => if isNameS n && !seen.contains n && decide (0 ≤ k) && decide (k ≤ most) then namesOk most r (seen ++ [n]) else false
def headL (sh : List Shape) : Nat → Nat → Bool
  | 0, _ => true
  | k + 1, i => if i < sh.length ∧ nth sh i = nth givenS i then headL sh k (i + 1) else false
def headsOk (sh : List Shape) : Bool := headL sh 7 0
def codesS (ng : Nat) (sh : List Shape) : List Glob → Int
  | [] => 0
  | g :: r => if checkCodeS ng sh g = 0 then codesS ng sh r else checkCodeS ng sh g
def checkS (t : Table) : Int :=
  if greatS t then 4 else
  if namesOk 8 (t.shapes.map fun s => (s.name, s.fields)) [] = false then 172 else
  if headsOk t.shapes = false then 172 else
  if namesOk 24 (t.globals.map fun g => (g.name, g.arity)) [] = false then 172 else
  codesS t.globals.length t.shapes t.globals

theorem namesOk_mem (most : Int) : ∀ (l : List (List UInt8 × Int)) (seen : List (List UInt8)), namesOk most l seen = true → ∀ p ∈ l, isNameS p.1 = true ∧ 0 ≤ p.2 ∧ p.2 ≤ most := by
  intro l
  induction l with
  | nil => intro seen _ p hp; simp at hp
  | cons q l ih =>
    obtain ⟨n, k⟩ := q
    intro seen h p hp
    simp only [namesOk] at h
    split at h
    · rename_i hc
      simp only [Bool.and_eq_true, decide_eq_true_eq] at hc
      rcases List.mem_cons.1 hp with rfl | hp
      · exact ⟨hc.1.1.1, hc.1.2, hc.2⟩
      · exact ih _ h p hp
    · cases h

theorem greatL_mem : ∀ (l : List Glob) (n m : Int), greatL l n = some m → ∀ g ∈ l, (g.code.length : Int) ≤ 8000 := by
  intro l
  induction l with
  | nil => intro n m _ g hg; simp at hg
  | cons q l ih =>
    intro n m h g hg
    simp only [greatL] at h
    split at h
    · cases h
    · rcases List.mem_cons.1 hg with rfl | hg
      · omega
      · exact ih _ _ h g hg

theorem greatS_f {t : Table} (h : greatS t = false) : t.shapes.length ≤ 2000 ∧ t.globals.length ≤ 2000 ∧ ∀ g ∈ t.globals, g.code.length ≤ 8000 := by
  unfold greatS at h
  cases hg : greatL t.globals 0 with
  | none => rw [hg] at h; cases h
  | some n =>
    rw [hg] at h
    simp only [Bool.or_eq_false_iff, decide_eq_false_iff_not] at h
    exact ⟨by omega, by omega, fun g hm => by have := greatL_mem _ _ _ hg g hm; omega⟩

end Go.Vm
end

section
namespace Go.Vm
/- 'sloth/peep.Peep' -/
def f9_L0 : C :=
 (.seq
  (.reg [⟨[], [(22, (.bin .lss (.sl 21) (.sl 20)))], [], none, [2, 5, 19, 20, 21], 1, [], [], []⟩])
  (.seq
   (.cond (.sl 22)
    .skip
    (.seq
     (.tidy 0 [2, 5])
     (.exit 0)))
   (.seq
    (.block 1
     (.seq
      (.reg [⟨[(7, .box (.agg (.cons (.str []) (.cons (.int .i64 0) (.cons (.nilsl 3) .nil)))))], [], [], some (none, .store 3 (.sl 7) (.ld 3 true (.ia 3 (.sl 19) (.sl 21)))), [2, 5, 7, 19, 20, 21], 4, [], [], []⟩])
      (.reg [⟨[(35, .lits 3 (.cons (.set 2 1 (.call 18 (.cons (.ld 1 false (.fa 2 (.sl 7))) .nil)) (.set 1 1 (.ld 1 false (.fa 1 (.sl 7))) (.set 0 1 (.ld 1 false (.fa 0 (.sl 7))) (.agg (.cons (.str []) (.cons (.int .i64 0) (.cons (.nilsl 3) .nil))))))) .nil))], [], [], some (some 36, .app 3 (.ld 1 false (.fa 1 (.sl 5))) (.sl 35)), [2, 5, 19, 20, 21], 12, [[], [0], [], [2], [], [4], [], [6], [6, 7], [7, 6, 8, 4, 5, 2, 3], [3, 2, 5, 4, 8, 6, 7, 9], [9, 7, 6, 8, 4, 5, 2, 3, 10, 0, 1], [11, 10, 9, 8, 7, 6, 5, 4, 3, 2, 1, 0], [0, 1, 2, 3, 4, 5, 6, 7, 8, 9, 10, 11, 12]], [], []⟩, ⟨[], [], [], some (none, .store 1 (.fa 1 (.sl 5)) (.sl 36)), [2, 5, 19, 20, 21], 2, [], [], []⟩])))
    (.reg [⟨[], [(21, (.bin .add (.sl 21) (.int .i64 1)))], [], none, [2, 5, 19, 20], 2, [], [], []⟩]))))
def f9 : Fun := ⟨
 (.seq
  (.reg [⟨[(1, .box (.sl 0)), (2, .box (.agg (.cons (.nilsl 2) (.cons (.nilsl 3) .nil))))], [], [(.int .i64 0)], none, [1, 2], 3, [], [], []⟩])
  (.seq
   (.seq
    (.reg [⟨[], [(4, (.call 12 (.cons (.ld 2 true (.sl 1)) .nil)))], [], none, [1, 2], 3, [], [], []⟩])
    (.seq
     (.reg [⟨[], [(11, (.bin .neq (.sl 4) (.int .i64 0)))], [], none, [1, 2, 4], 2, [], [], []⟩])
     (.cond (.sl 11)
      (.seq
       (.reg [⟨[], [(13, (.sl 4))], [], some (none, .store 2 (.sl 2) (.agg (.cons (.nilsl 2) (.cons (.nilsl 3) .nil)))), [2], 3, [], [], []⟩, ⟨[], [(3, (.sl 13))], [], none, [2], 1, [], [], []⟩])
       (.seq
        (.tidy 0 [2, 3])
        .ret))
      .skip)))
   (.seq
    (.reg [⟨[(5, .box (.agg (.cons (.nilsl 2) (.cons (.nilsl 3) .nil))))], [], [], some (none, .store 2 (.sl 5) (.set 0 1 (.call 17 (.cons (.ld 1 false (.fa 0 (.sl 1))) .nil)) (.agg (.cons (.nilsl 2) (.cons (.nilsl 3) .nil))))), [1, 2, 5], 6, [], [], []⟩])
    (.seq
     (.seq
      (.reg [⟨[], [(19, (.ld 1 false (.fa 1 (.sl 1)))), (20, (.len false (.ld 1 false (.fa 1 (.sl 1))))), (21, (.int .i64 0))], [], none, [2, 5], 4, [], [], []⟩])
      (.block 0
       (.seq (.tidy 0 [2, 5, 19, 20, 21]) (.loop (.seq (.tidy 0 [2, 5, 19, 20, 21]) f9_L0)))))
     (.seq
      (.reg [⟨[], [], [], some (none, .store 2 (.sl 2) (.ld 2 true (.sl 5))), [2], 2, [], [], []⟩, ⟨[], [(3, (.int .i64 0))], [], none, [2], 1, [], [], []⟩])
      (.seq
       (.tidy 0 [2, 3])
       .ret)))))),
 [(.ld 2 true (.sl 2)), (.sl 3)], false⟩
theorem f9_ok : funOk Go.Proofs.Try.prog 9 0 1 f9 = true := by kernel_rfl

/- 'sloth/slothlaw19.sameCode' -/
def f13_L0 : C :=
 (.seq
  (.seq
   (.reg [⟨[], [(14, (.bin .lss (.sl 5) (.len false (.sl 0))))], [], none, [0, 1, 5], 4, [], [], []⟩])
   (.cond (.sl 14)
    .skip
    (.seq
     (.tidy 0 [])
     (.exit 0))))
  (.seq
   (.block 1
    (.seq
     (.reg [⟨[], [(25, (.eqs true true [0, 0, 0] (.ld 3 true (.ia 3 (.sl 0) (.sl 5))) (.ld 3 true (.ia 3 (.sl 1) (.sl 5)))))], [], none, [0, 1, 5], 9, [[], [], [1, 0], [0, 1, 2], [], [], [5, 4], [4, 5, 6], [6, 5, 4, 7, 2, 1, 0, 3]], [], []⟩])
     (.cond (.sl 25)
      (.seq
       (.reg [⟨[], [(4, (.bool false))], [], none, [], 1, [], [], []⟩])
       (.seq
        (.tidy 0 [4])
        .ret))
      .skip)))
   (.reg [⟨[], [(5, (.bin .add (.sl 5) (.int .i64 1)))], [], none, [0, 1], 3, [], [], []⟩])))
def f13 : Fun := ⟨
 (.seq
  (.reg [⟨[], [], [(.bool false)], none, [0, 1], 1, [], [], []⟩])
  (.seq
   (.seq
    (.reg [⟨[], [(10, (.bin .neq (.len false (.sl 0)) (.len false (.sl 1))))], [], none, [0, 1], 5, [], [], []⟩])
    (.cond (.sl 10)
     (.seq
      (.reg [⟨[], [(4, (.bool false))], [], none, [], 1, [], [], []⟩])
      (.seq
       (.tidy 0 [4])
       .ret))
     .skip))
   (.seq
    (.seq
     (.reg [⟨[], [(5, (.int .i64 0))], [], none, [0, 1], 1, [], [], []⟩])
     (.block 0
      (.seq (.tidy 0 [0, 1, 5]) (.loop (.seq (.tidy 0 [0, 1, 5]) f13_L0)))))
    (.seq
     (.reg [⟨[], [(4, (.bool true))], [], none, [], 1, [], [], []⟩])
     (.seq
      (.tidy 0 [4])
      .ret))))),
 [(.sl 4)], false⟩
theorem f13_ok : funOk Go.Proofs.Try.prog 13 0 2 f13 = true := by kernel_rfl


def scOut (r : Bool) : Ex × S := if r then (.exit 0, ⟨[], [], 0, []⟩) else (.ret, ⟨[(4, .d false (.bool false))], [], 0, []⟩)

theorem sc_loop (K : Cx) (a b : List Instr) (hab : a.length = b.length) (hl : (a.length : Int) ≤ 9223372036854775807) (c c' : Bool) : ∀ (k i : Nat), i + k = a.length →
    lp K 0 [0, 1, 5] f13_L0 ⟨[(0, .d c (.sl 3 (a.map eInstr))), (1, .d c' (.sl 3 (b.map eInstr))), (5, .d false (.int .i64 i))], [], 0, []⟩ = some (scOut (decide (a.drop i = b.drop i))) := by
  intro k
  induction k with
  | zero =>
    intro i hi
    rw [lp_un f13_L0.eq_1, List.drop_of_length_le (by omega), List.drop_of_length_le (by omega)]
    simp only [decide_true]
    rw [show scOut true = (.exit 0, ⟨[], [], 0, []⟩) from rfl]
    simp (disch := first | decide | omega | (simp only [LN]; omega) | (simp only [LN]; done) | fail) only [SV, Nat.reduceBEq, beq_self_eq_true, evLen, evBin, intBin, decide_false, if_true, decide_true, Bool.and_self]
  | succ k ih =>
    intro i hi
    have hcast : ((i + 1 : Nat) : Int) = (i : Int) + 1 := by omega
    have ih := ih (i + 1) (by omega)
    rw [hcast] at ih
    rw [lp_un f13_L0.eq_1, drop_nth (by omega : i < a.length), drop_nth (by omega : i < b.length)]
    generalize hx : nth a (i : Int) = x
    generalize hy : nth b (i : Int) = y
    have hf : scOut false = (.ret, ⟨[(4, .d false (.bool false))], [], 0, []⟩) := rfl
    by_cases e : x = y
    · subst e
      rw [show decide (x :: a.drop (i + 1) = x :: b.drop (i + 1)) = decide (a.drop (i + 1) = b.drop (i + 1)) by simp]
      simp (disch := first | decide | omega | (simp only [LN]; omega) | (simp only [LN]; done) | fail) only [SV, Nat.reduceBEq, beq_self_eq_true, evLen, evBin, intBin, decide_true, if_true, hx, eInstr_eq, D.flat, Nat.zero_add, Nat.reduceAdd, Nat.le_refl, hy, evEqs, cellsEq, cellEq, Bool.and_self, Bool.not_true, V.refs]
      exact ih
    · have hd : decide (x :: a.drop (i + 1) = y :: b.drop (i + 1)) = false := by simp [e]
      rw [hd, hf]
      by_cases e1 : x.op = y.op
      · by_cases e2 : x.a = y.a
        · have e3 : (x.b == y.b) = false := by
            simp only [beq_eq_false_iff_ne]; intro e3; apply e; cases x; cases y; simp_all
          have e2 : (x.a == y.a) = true := by simpa using e2
          have e1 : (x.op == y.op) = true := by simpa using e1
          simp (disch := first | decide | omega | (simp only [LN]; omega) | (simp only [LN]; done) | fail) only [SV, Nat.reduceBEq, beq_self_eq_true, evLen, evBin, intBin, decide_true, if_true, hx, eInstr_eq, D.flat, Nat.zero_add, Nat.reduceAdd, Nat.le_refl, hy, evEqs, cellsEq, cellEq, e1, e2, e3, Bool.and_true, Bool.and_false, Bool.not_false, V.refs, Bool.and_self]
        · have e2 : (x.a == y.a) = false := by simpa using e2
          have e1 : (x.op == y.op) = true := by simpa using e1
          simp (disch := first | decide | omega | (simp only [LN]; omega) | (simp only [LN]; done) | fail) only [SV, Nat.reduceBEq, beq_self_eq_true, evLen, evBin, intBin, decide_true, if_true, hx, eInstr_eq, D.flat, Nat.zero_add, Nat.reduceAdd, Nat.le_refl, hy, evEqs, cellsEq, cellEq, e1, e2, Bool.and_true, Bool.false_and, Bool.and_false, Bool.not_false, V.refs, Bool.and_self]
      · have e1 : (x.op == y.op) = false := by simpa using e1
        simp (disch := first | decide | omega | (simp only [LN]; omega) | (simp only [LN]; done) | fail) only [SV, Nat.reduceBEq, beq_self_eq_true, evLen, evBin, intBin, decide_true, if_true, hx, eInstr_eq, D.flat, Nat.zero_add, Nat.reduceAdd, Nat.le_refl, hy, evEqs, cellsEq, cellEq, e1, Bool.and_true, Bool.false_and, Bool.not_false, V.refs, Bool.and_self]

theorem ev_sameCode (K : Cx) (a b : List Instr) (hl : (a.length : Int) ≤ 9223372036854775807) (c c' : Bool) :
    runFun K f13 [.d c (.sl 3 (a.map eInstr)), .d c' (.sl 3 (b.map eInstr))] [] = some (.d false (.bool (decide (a = b))), [], []) := by
  by_cases hab : a.length = b.length
  · have l0 := sc_loop K a b hab hl c c' a.length 0 (by omega)
    simp only [Int.natCast_zero, List.drop_zero] at l0
    have hn : ((a.length : Int) != (b.length : Int)) = false := by simp [hab]
    cases hd : decide (a = b) with
    | false =>
      rw [hd] at l0
      rw [show scOut false = (.ret, ⟨[(4, .d false (.bool false))], [], 0, []⟩) from rfl] at l0
      clear hab
      simp (disch := first | decide | omega | (simp only [LN]; omega) | (simp only [LN]; done) | fail) only [SV, f13, Nat.zero_add, Nat.reduceAdd, Bool.and_self, beq_self_eq_true, Nat.reduceBEq, evLen, evBin, intBin, hn, if_true, V.refs, decide_true, l0, oneOr, Bool.false_eq_true, if_false, finV, finA, finC]
    | true =>
      rw [hd] at l0
      rw [show scOut true = (.exit 0, ⟨[], [], 0, []⟩) from rfl] at l0
      clear hab
      simp (disch := first | decide | omega | (simp only [LN]; omega) | (simp only [LN]; done) | fail) only [SV, f13, Nat.zero_add, Nat.reduceAdd, Bool.and_self, beq_self_eq_true, Nat.reduceBEq, evLen, evBin, intBin, hn, if_true, V.refs, decide_true, l0, oneOr, Bool.false_eq_true, if_false, finV, finA, finC]
  · have hd : decide (a = b) = false := by
      simp only [decide_eq_false_iff_not]; intro h; exact hab (by rw [h])
    have hn : ((a.length : Int) != (b.length : Int)) = true := by simp; omega
    rw [hd]
    clear hab
    simp (disch := first | decide | omega | (simp only [LN]; omega) | (simp only [LN]; done) | fail) only [SV, f13, Nat.zero_add, Nat.reduceAdd, Bool.and_self, beq_self_eq_true, Nat.reduceBEq, evLen, evBin, intBin, hn, if_true, V.refs, decide_true, oneOr, Bool.false_eq_true, if_false, finV, finA, finC]

end Go.Vm
end

section
namespace Go.Vm
/- 'sloth/code.Check' -/
def f12_L0 : C :=
 (.seq
  (.reg [⟨[], [(20, (.bin .lss (.sl 19) (.sl 18)))], [], none, [1, 3, 17, 18, 19], 1, [], [], []⟩])
  (.seq
   (.cond (.sl 20)
    .skip
    (.seq
     (.tidy 0 [1, 3])
     (.exit 0)))
   (.seq
    (.block 1
     (.seq
      (.reg [⟨[(5, .box (.agg (.cons (.str []) (.cons (.int .i64 0) .nil))))], [], [], some (none, .store 2 (.sl 5) (.ld 2 true (.ia 2 (.sl 17) (.sl 19)))), [1, 3, 5, 17, 18, 19], 4, [], [], []⟩])
      (.seq
       (.seq
        (.reg [⟨[], [(43, (.or (.or (.or (.un .not (.call 21 (.cons (.ld 1 false (.fa 0 (.sl 5))) .nil))) (.bin .gtr (.lkp false 2 (.int .i64 0) (.sl 3) (.ld 1 false (.fa 0 (.sl 5)))) (.int .i64 0))) (.bin .lss (.ld 1 false (.fa 1 (.sl 5))) (.int .i64 0))) (.bin .gtr (.ld 1 false (.fa 1 (.sl 5))) (.int .i64 8))))], [], none, [1, 3, 5, 17, 18, 19], 21, [], [], []⟩])
        (.cond (.sl 43)
         (.seq
          (.reg [⟨[], [(2, (.int .i64 172))], [], none, [], 1, [], [], []⟩])
          (.seq
           (.tidy 0 [2])
           .ret))
         .skip))
       (.reg [⟨[], [], [], some (none, .mset 2 (.sl 3) (.ld 1 false (.fa 0 (.sl 5))) (.int .i64 1)), [1, 3, 17, 18, 19], 4, [], [], []⟩]))))
    (.reg [⟨[], [(19, (.bin .add (.sl 19) (.int .i64 1)))], [], none, [1, 3, 17, 18], 2, [], [], []⟩]))))
def f12_L1 : C :=
 (.seq
  (.reg [⟨[], [(51, (.bin .lss (.sl 50) (.sl 49)))], [], none, [1, 3, 48, 49, 50], 1, [], [], []⟩])
  (.seq
   (.cond (.sl 51)
    .skip
    (.seq
     (.tidy 0 [1, 3])
     (.exit 2)))
   (.seq
    (.block 3
     (.seq
      (.reg [⟨[(7, .box (.agg (.cons (.str []) (.cons (.int .i64 0) .nil))))], [(6, (.sl 50))], [], some (none, .store 2 (.sl 7) (.ld 2 true (.ia 2 (.sl 48) (.sl 50)))), [1, 3, 7, 48, 49, 50], 6, [], [], []⟩])
      (.seq
       (.reg [⟨[], [(68, (.or (.bin .geq (.sl 6) (.len false (.ld 1 false (.fa 0 (.sl 1))))) (.eqs true true [2, 0] (.ld 2 true (.ia 2 (.ld 1 false (.fa 0 (.sl 1))) (.sl 6))) (.ld 2 true (.sl 7)))))], [], none, [1, 3, 48, 49, 50], 14, [[], [], [1], [1, 2], [2, 1, 3, 0], [0, 3, 1, 2, 4], [4, 2, 1, 3, 0, 5], [5, 0, 3, 1, 2, 4, 6], [4, 2, 1, 3, 0, 5], [8, 6, 4, 2, 1, 3, 0, 5, 7], [7, 5, 0, 3, 1, 2, 4, 6, 8, 9], [4, 2, 1, 3, 0, 5], [11, 9, 8, 6, 4, 2, 1, 3, 0, 5, 7, 10], [10, 7, 6, 8, 9, 11, 12, 4, 2, 1, 3, 0, 5]], [], []⟩])
       (.cond (.sl 68)
        (.seq
         (.reg [⟨[], [(2, (.int .i64 172))], [], none, [], 1, [], [], []⟩])
         (.seq
          (.tidy 0 [2])
          .ret))
        .skip))))
    (.reg [⟨[], [(50, (.bin .add (.sl 50) (.int .i64 1)))], [], none, [1, 3, 48, 49], 2, [], [], []⟩]))))
def f12_L2 : C :=
 (.seq
  (.reg [⟨[], [(75, (.bin .lss (.sl 74) (.sl 73)))], [], none, [1, 3, 72, 73, 74], 1, [], [], []⟩])
  (.seq
   (.cond (.sl 75)
    .skip
    (.seq
     (.tidy 0 [1])
     (.exit 4)))
   (.seq
    (.block 5
     (.seq
      (.reg [⟨[(9, .box (.agg (.cons (.str []) (.cons (.int .i64 0) (.cons (.nilsl 3) .nil)))))], [], [], some (none, .store 3 (.sl 9) (.ld 3 true (.ia 3 (.sl 72) (.sl 74)))), [1, 3, 9, 72, 73, 74], 4, [], [], []⟩])
      (.seq
       (.seq
        (.reg [⟨[], [(98, (.or (.or (.or (.un .not (.call 21 (.cons (.ld 1 false (.fa 0 (.sl 9))) .nil))) (.bin .gtr (.lkp false 2 (.int .i64 0) (.sl 3) (.ld 1 false (.fa 0 (.sl 9)))) (.int .i64 0))) (.bin .lss (.ld 1 false (.fa 1 (.sl 9))) (.int .i64 0))) (.bin .gtr (.ld 1 false (.fa 1 (.sl 9))) (.int .i64 24))))], [], none, [1, 3, 9, 72, 73, 74], 21, [], [], []⟩])
        (.cond (.sl 98)
         (.seq
          (.reg [⟨[], [(2, (.int .i64 172))], [], none, [], 1, [], [], []⟩])
          (.seq
           (.tidy 0 [2])
           .ret))
         .skip))
       (.reg [⟨[], [], [], some (none, .mset 2 (.sl 3) (.ld 1 false (.fa 0 (.sl 9))) (.int .i64 1)), [1, 3, 72, 73, 74], 4, [], [], []⟩]))))
    (.reg [⟨[], [(74, (.bin .add (.sl 74) (.int .i64 1)))], [], none, [1, 3, 72, 73], 2, [], [], []⟩]))))
def f12_L3 : C :=
 (.seq
  (.reg [⟨[], [(107, (.bin .lss (.sl 106) (.sl 105)))], [], none, [1, 104, 105, 106], 1, [], [], []⟩])
  (.seq
   (.cond (.sl 107)
    .skip
    (.seq
     (.tidy 0 [])
     (.exit 6)))
   (.seq
    (.block 7
     (.seq
      (.reg [⟨[(11, .box (.agg (.cons (.str []) (.cons (.int .i64 0) (.cons (.nilsl 3) .nil)))))], [], [], some (none, .store 3 (.sl 11) (.ld 3 true (.ia 3 (.sl 104) (.sl 106)))), [1, 11, 104, 105, 106], 4, [], [], []⟩])
      (.seq
       (.reg [⟨[], [(12, (.call 23 (.cons (.ld 2 true (.sl 1)) (.cons (.ld 3 true (.sl 11)) .nil))))], [], none, [1, 104, 105, 106], 4, [], [], []⟩])
       (.seq
        (.reg [⟨[], [(114, (.bin .neq (.sl 12) (.int .i64 0)))], [], none, [1, 12, 104, 105, 106], 2, [], [], []⟩])
        (.cond (.sl 114)
         (.seq
          (.reg [⟨[], [(2, (.sl 12))], [], none, [], 2, [], [], []⟩])
          (.seq
           (.tidy 0 [2])
           .ret))
         .skip)))))
    (.reg [⟨[], [(106, (.bin .add (.sl 106) (.int .i64 1)))], [], none, [1, 104, 105], 2, [], [], []⟩]))))
def f12 : Fun := ⟨
 (.seq
  (.reg [⟨[(1, .box (.sl 0))], [], [(.int .i64 0)], none, [1], 2, [], [], []⟩])
  (.seq
   (.seq
    (.reg [⟨[], [(14, (.call 20 (.cons (.ld 2 true (.sl 1)) .nil)))], [], none, [1], 2, [], [], []⟩])
    (.cond (.sl 14)
     (.seq
      (.reg [⟨[], [(2, (.int .i64 4))], [], none, [], 1, [], [], []⟩])
      (.seq
       (.tidy 0 [2])
       .ret))
     .skip))
   (.seq
    (.reg [⟨[(15, .mkm)], [(3, (.sl 15))], [], none, [1], 2, [], [], []⟩])
    (.seq
     (.seq
      (.reg [⟨[], [(17, (.ld 1 false (.fa 0 (.sl 1)))), (18, (.len false (.ld 1 false (.fa 0 (.sl 1))))), (19, (.int .i64 0))], [], none, [1, 3], 4, [], [], []⟩])
      (.block 0
       (.seq (.tidy 0 [1, 3, 17, 18, 19]) (.loop (.seq (.tidy 0 [1, 3, 17, 18, 19]) f12_L0)))))
     (.seq
      (.seq
       (.reg [⟨[(48, .callo 22 .nil)], [(49, (.len false (.sl 48))), (50, (.int .i64 0))], [], none, [1, 3, 48], 3, [], [], []⟩])
       (.block 2
        (.seq (.tidy 0 [1, 3, 48, 49, 50]) (.loop (.seq (.tidy 0 [1, 3, 48, 49, 50]) f12_L1)))))
      (.seq
       (.reg [⟨[], [], [], some (none, .mclr (.sl 3)), [1, 3], 2, [], [], []⟩])
       (.seq
        (.seq
         (.reg [⟨[], [(72, (.ld 1 false (.fa 1 (.sl 1)))), (73, (.len false (.ld 1 false (.fa 1 (.sl 1))))), (74, (.int .i64 0))], [], none, [1, 3], 4, [], [], []⟩])
         (.block 4
          (.seq (.tidy 0 [1, 3, 72, 73, 74]) (.loop (.seq (.tidy 0 [1, 3, 72, 73, 74]) f12_L2)))))
        (.seq
         (.seq
          (.reg [⟨[], [(104, (.ld 1 false (.fa 1 (.sl 1)))), (105, (.len false (.ld 1 false (.fa 1 (.sl 1))))), (106, (.int .i64 0))], [], none, [1], 4, [], [], []⟩])
          (.block 6
           (.seq (.tidy 0 [1, 104, 105, 106]) (.loop (.seq (.tidy 0 [1, 104, 105, 106]) f12_L3)))))
         (.seq
          (.reg [⟨[], [(2, (.int .i64 0))], [], none, [], 1, [], [], []⟩])
          (.seq
           (.tidy 0 [2])
           .ret)))))))))),
 [(.sl 2)], false⟩
theorem f12_ok : funOk Go.Proofs.Try.prog 12 0 1 f12 = true := by kernel_rfl


def K21 (K : Cx) : Prop := ∀ s : List UInt8, (s.length : Int) ≤ 9223372036854775807 → K.call 21 [.d false (.str s)] = some (.d false (.bool (isNameS s)), [])

def shapesOut (t : Table) (r : Bool × List (List UInt8)) : Ex × S := if r.1 then (.exit 0, ⟨[(1, .ptr 0 0 0), (3, .map 1)], [(0, .mix 2 [[.d false (.sl 2 (t.shapes.map eShape)), .d false (.sl 3 (t.globals.map eGlob))]]), (1, .map (seenE r.2))], 2, []⟩) else (.ret, ⟨[(2, .d false (.int .i64 172))], [], 0, []⟩)
theorem shapesOut_f (t m) : shapesOut t (false, m) = (.ret, ⟨[(2, .d false (.int .i64 172))], [], 0, []⟩) := rfl
theorem shapesOut_t (t m) : shapesOut t (true, m) = (.exit 0, ⟨[(1, .ptr 0 0 0), (3, .map 1)], [(0, .mix 2 [[.d false (.sl 2 (t.shapes.map eShape)), .d false (.sl 3 (t.globals.map eGlob))]]), (1, .map (seenE m))], 2, []⟩) := rfl

theorem shapes_loop (K : Cx) (h21 : K21 K) (t : Table) (hl : t.shapes.length ≤ 2000) (hn : ∀ s ∈ t.shapes, (s.name.length : Int) ≤ 9223372036854775807) : ∀ (k i : Nat) (seen : List (List UInt8)), i + k = t.shapes.length →
    lp K 0 [1, 3, 17, 18, 19] f12_L0 ⟨[(1, .ptr 0 0 0), (3, .map 1), (17, .d false (.sl 2 (t.shapes.map eShape))), (18, .d false (.int .i64 t.shapes.length)), (19, .d false (.int .i64 i))], [(0, .mix 2 [[.d false (.sl 2 (t.shapes.map eShape)), .d false (.sl 3 (t.globals.map eGlob))]]), (1, .map (seenE seen))], 2, []⟩ =
    some (shapesOut t (namesOk 8 ((t.shapes.drop i).map fun s => (s.name, s.fields)) seen, seen ++ (t.shapes.drop i).map (·.name))) := by
  intro k
  induction k with
  | zero =>
    intro i seen hi
    rw [lp_un f12_L0.eq_1, List.drop_of_length_le (by omega)]
    simp only [List.map_nil, namesOk, List.append_nil]
    simp (disch := first | decide | omega | (simp only [LN]; omega) | (simp only [LN]; done) | fail) only [SV, Nat.reduceBEq, beq_self_eq_true, evBin, intBin, decide_false, if_true, V.refs, Bool.or_self, reduceCtorEq, or_self, not_false_eq_true, and_self, decide_true, Bool.and_self, Bool.or_false, Bool.or_true, cond_false, cond_true, Nat.zero_add, Nat.reduceAdd, shapesOut_t]
  | succ k ih =>
    intro i seen hi
    have hcast : ((i + 1 : Nat) : Int) = (i : Int) + 1 := by omega
    have hlt : i < t.shapes.length := by omega
    rw [lp_un f12_L0.eq_1, drop_nth hlt]
    have hnm := hn _ (nth_mem (l := t.shapes) (i := (i : Int)) (by omega) (by omega))
    have hc := h21 _ hnm
    have ih := fun seen => ih (i + 1) seen (by omega)
    rw [hcast] at ih
    simp only [List.map_cons, namesOk]
    generalize hs : nth t.shapes (i : Int) = s at hc hnm
    generalize isNameS s.name = b1 at hc
    clear hnm hn
    cases hse : seen.contains s.name with
    | true =>
      cases b1 with
      | false =>
        simp only [Bool.false_and]
        simp (disch := first | decide | omega | (simp only [LN]; omega) | (simp only [LN]; done) | fail) only [SV, Nat.reduceBEq, beq_self_eq_true, evBin, intBin, decide_true, if_true, V.laid, V.cells, Nat.zero_add, Nat.reduceAdd, hs, eShape_eq, D.flat, Nat.le_refl, Bool.and_self, lose, evFa, Nat.add_zero, List.getElem?_cons_zero, V.own, V.own1, Bool.or_self, V.new, V.new1, Bool.or_true, V.flatV, V.flat1, Bool.not_true, Bool.and_false, Bool.false_and, view, viewD, hc, Bool.false_eq_true, if_false, evUn, Bool.not_false, hse, Bool.true_or, V.refs, shapesOut_f]
      | true =>
        simp only [Bool.not_true, Bool.and_false, Bool.false_and]
        simp (disch := first | decide | omega | (simp only [LN]; omega) | (simp only [LN]; done) | fail) only [SV, Nat.reduceBEq, beq_self_eq_true, evBin, intBin, decide_true, if_true, V.laid, V.cells, Nat.zero_add, Nat.reduceAdd, hs, eShape_eq, D.flat, Nat.le_refl, Bool.and_self, lose, evFa, Nat.add_zero, List.getElem?_cons_zero, V.own, V.own1, Bool.or_self, V.new, V.new1, Bool.or_true, V.flatV, V.flat1, Bool.not_true, Bool.and_false, Bool.false_and, view, viewD, hc, Bool.false_eq_true, if_false, evUn, hse, Bool.true_or, V.refs, shapesOut_f]
    | false =>
      cases b1 with
      | false =>
        simp only [Bool.false_and]
        simp (disch := first | decide | omega | (simp only [LN]; omega) | (simp only [LN]; done) | fail) only [SV, Nat.reduceBEq, beq_self_eq_true, evBin, intBin, decide_true, if_true, V.laid, V.cells, Nat.zero_add, Nat.reduceAdd, hs, eShape_eq, D.flat, Nat.le_refl, Bool.and_self, lose, evFa, Nat.add_zero, List.getElem?_cons_zero, V.own, V.own1, Bool.or_self, V.new, V.new1, Bool.or_true, V.flatV, V.flat1, Bool.not_true, Bool.and_false, Bool.false_and, view, viewD, hc, Bool.false_eq_true, if_false, evUn, Bool.not_false, hse, decide_false, Bool.or_false, Bool.true_or, V.refs, shapesOut_f]
      | true =>
        by_cases g1 : 0 ≤ s.fields
        · by_cases g2 : s.fields ≤ 8
          · have ih := ih (seen ++ [s.name])
            have e1 : decide (0 ≤ s.fields) = true := by simpa using g1
            have e2 : decide (s.fields ≤ 8) = true := by simpa using g2
            have hset := setE_seen s.name seen hse
            simp only [e1, e2, Bool.not_false, Bool.and_self, if_true]
            rw [List.append_assoc] at ih
            simp (disch := first | decide | omega | (simp only [LN]; omega) | (simp only [LN]; done) | fail) only [SV, Nat.reduceBEq, beq_self_eq_true, evBin, intBin, decide_true, if_true, V.laid, V.cells, Nat.zero_add, Nat.reduceAdd, hs, eShape_eq, D.flat, Nat.le_refl, Bool.and_self, lose, evFa, Nat.add_zero, List.getElem?_cons_zero, V.own, V.own1, Bool.or_self, V.new, V.new1, Bool.or_true, V.flatV, V.flat1, Bool.not_true, Bool.and_false, Bool.false_and, view, viewD, hc, Bool.false_eq_true, if_false, evUn, hse, decide_false, evWr_mset, wrMset_map, V.cell, msB_map, hset, stM_some, V.refs, reduceCtorEq, or_self, not_false_eq_true, and_self, Bool.or_false, cond_false, cond_true]
            exact ih
          · have e2 : decide (s.fields ≤ 8) = false := by simpa using g2
            simp only [e2, Bool.and_false]
            simp (disch := first | decide | omega | (simp only [LN]; omega) | (simp only [LN]; done) | fail) only [SV, Nat.reduceBEq, beq_self_eq_true, evBin, intBin, decide_true, if_true, V.laid, V.cells, Nat.zero_add, Nat.reduceAdd, hs, eShape_eq, D.flat, Nat.le_refl, Bool.and_self, lose, evFa, Nat.add_zero, List.getElem?_cons_zero, V.own, V.own1, Bool.or_self, V.new, V.new1, Bool.or_true, V.flatV, V.flat1, Bool.not_true, Bool.and_false, Bool.false_and, view, viewD, hc, Bool.false_eq_true, if_false, evUn, hse, decide_false, V.refs, shapesOut_f]
        · have e2 : decide (0 ≤ s.fields) = false := by simpa using g1
          simp only [e2, Bool.and_false, Bool.false_and]
          simp (disch := first | decide | omega | (simp only [LN]; omega) | (simp only [LN]; done) | fail) only [SV, Nat.reduceBEq, beq_self_eq_true, evBin, intBin, decide_true, if_true, V.laid, V.cells, Nat.zero_add, Nat.reduceAdd, hs, eShape_eq, D.flat, Nat.le_refl, Bool.and_self, lose, evFa, Nat.add_zero, List.getElem?_cons_zero, V.own, V.own1, Bool.or_self, V.new, V.new1, Bool.or_true, V.flatV, V.flat1, Bool.not_true, Bool.and_false, Bool.false_and, view, viewD, hc, Bool.false_eq_true, if_false, evUn, hse, decide_false, Bool.or_false, V.refs, shapesOut_f]


def globsOut (t : Table) (r : Bool) : Ex × S := if r then (.exit 4, ⟨[(1, .ptr 0 0 0)], [(0, .mix 2 [[.d false (.sl 2 (t.shapes.map eShape)), .d false (.sl 3 (t.globals.map eGlob))]])], 1, []⟩) else (.ret, ⟨[(2, .d false (.int .i64 172))], [], 0, []⟩)
theorem globsOut_f (t) : globsOut t false = (.ret, ⟨[(2, .d false (.int .i64 172))], [], 0, []⟩) := rfl
theorem globsOut_t (t) : globsOut t true = (.exit 4, ⟨[(1, .ptr 0 0 0)], [(0, .mix 2 [[.d false (.sl 2 (t.shapes.map eShape)), .d false (.sl 3 (t.globals.map eGlob))]])], 1, []⟩) := rfl

theorem globs_loop (K : Cx) (h21 : K21 K) (t : Table) (hl : t.globals.length ≤ 2000) (hn : ∀ s ∈ t.globals, (s.name.length : Int) ≤ 9223372036854775807) : ∀ (k i : Nat) (seen : List (List UInt8)), i + k = t.globals.length →
    lp K 0 [1, 3, 72, 73, 74] f12_L2 ⟨[(1, .ptr 0 0 0), (3, .map 1), (72, .d false (.sl 3 (t.globals.map eGlob))), (73, .d false (.int .i64 t.globals.length)), (74, .d false (.int .i64 i))], [(0, .mix 2 [[.d false (.sl 2 (t.shapes.map eShape)), .d false (.sl 3 (t.globals.map eGlob))]]), (1, .map (seenE seen))], 2, []⟩ =
    some (globsOut t (namesOk 24 ((t.globals.drop i).map fun s => (s.name, s.arity)) seen)) := by
  intro k
  induction k with
  | zero =>
    intro i seen hi
    rw [lp_un f12_L2.eq_1, List.drop_of_length_le (by omega)]
    simp only [List.map_nil, namesOk]
    simp (disch := first | decide | omega | (simp only [LN]; omega) | (simp only [LN]; done) | fail) only [SV, Nat.reduceBEq, beq_self_eq_true, evBin, intBin, decide_false, if_true, V.refs, not_false_eq_true, and_self, decide_true, Bool.and_self, Bool.or_false, cond_true, Nat.zero_add, globsOut_t]
  | succ k ih =>
    intro i seen hi
    have hcast : ((i + 1 : Nat) : Int) = (i : Int) + 1 := by omega
    have hlt : i < t.globals.length := by omega
    rw [lp_un f12_L2.eq_1, drop_nth hlt]
    have hnm := hn _ (nth_mem (l := t.globals) (i := (i : Int)) (by omega) (by omega))
    have hc := h21 _ hnm
    have ih := fun seen => ih (i + 1) seen (by omega)
    rw [hcast] at ih
    simp only [List.map_cons, namesOk]
    generalize hs : nth t.globals (i : Int) = s at hc hnm
    generalize isNameS s.name = b1 at hc
    clear hnm hn
    cases hse : seen.contains s.name with
    | true =>
      cases b1 with
      | false =>
        simp only [Bool.false_and]
        simp (disch := first | decide | omega | (simp only [LN]; omega) | (simp only [LN]; done) | fail) only [SV, Nat.reduceBEq, beq_self_eq_true, evBin, intBin, decide_true, if_true, V.laid, V.cells, Nat.zero_add, Nat.reduceAdd, hs, eGlob_eq, D.flat, Bool.false_eq_true, if_false, Nat.le_refl, Bool.and_self, lose, evFa, Nat.add_zero, List.getElem?_cons_zero, V.own, V.own1, Bool.or_self, V.new, V.new1, Bool.or_true, V.flatV, V.flat1, Bool.not_true, Bool.and_false, Bool.false_and, view, viewD, hc, evUn, Bool.not_false, hse, Bool.true_or, V.refs, globsOut_f]
      | true =>
        simp only [Bool.not_true, Bool.and_false, Bool.false_and]
        simp (disch := first | decide | omega | (simp only [LN]; omega) | (simp only [LN]; done) | fail) only [SV, Nat.reduceBEq, beq_self_eq_true, evBin, intBin, decide_true, if_true, V.laid, V.cells, Nat.zero_add, Nat.reduceAdd, hs, eGlob_eq, D.flat, Bool.false_eq_true, if_false, Nat.le_refl, Bool.and_self, lose, evFa, Nat.add_zero, List.getElem?_cons_zero, V.own, V.own1, Bool.or_self, V.new, V.new1, Bool.or_true, V.flatV, V.flat1, Bool.not_true, Bool.and_false, Bool.false_and, view, viewD, hc, evUn, hse, Bool.true_or, V.refs, globsOut_f]
    | false =>
      cases b1 with
      | false =>
        simp only [Bool.false_and]
        simp (disch := first | decide | omega | (simp only [LN]; omega) | (simp only [LN]; done) | fail) only [SV, Nat.reduceBEq, beq_self_eq_true, evBin, intBin, decide_true, if_true, V.laid, V.cells, Nat.zero_add, Nat.reduceAdd, hs, eGlob_eq, D.flat, Bool.false_eq_true, if_false, Nat.le_refl, Bool.and_self, lose, evFa, Nat.add_zero, List.getElem?_cons_zero, V.own, V.own1, Bool.or_self, V.new, V.new1, Bool.or_true, V.flatV, V.flat1, Bool.not_true, Bool.and_false, Bool.false_and, view, viewD, hc, evUn, Bool.not_false, hse, decide_false, Bool.or_false, Bool.true_or, V.refs, globsOut_f]
      | true =>
        by_cases g1 : 0 ≤ s.arity
        · by_cases g2 : s.arity ≤ 24
          · have ih := ih (seen ++ [s.name])
            have e1 : decide (0 ≤ s.arity) = true := by simpa using g1
            have e2 : decide (s.arity ≤ 24) = true := by simpa using g2
            have hset := setE_seen s.name seen hse
            simp only [e1, e2, Bool.not_false, Bool.and_self, if_true]
            simp (disch := first | decide | omega | (simp only [LN]; omega) | (simp only [LN]; done) | fail) only [SV, Nat.reduceBEq, beq_self_eq_true, evBin, intBin, decide_true, if_true, V.laid, V.cells, Nat.zero_add, Nat.reduceAdd, hs, eGlob_eq, D.flat, Bool.false_eq_true, if_false, Nat.le_refl, Bool.and_self, lose, evFa, Nat.add_zero, List.getElem?_cons_zero, V.own, V.own1, Bool.or_self, V.new, V.new1, Bool.or_true, V.flatV, V.flat1, Bool.not_true, Bool.and_false, Bool.false_and, view, viewD, hc, evUn, hse, decide_false, evWr_mset, wrMset_map, V.cell, msB_map, hset, stM_some, V.refs, reduceCtorEq, or_self, not_false_eq_true, and_self, Bool.or_false, cond_false, cond_true]
            exact ih
          · have e2 : decide (s.arity ≤ 24) = false := by simpa using g2
            simp only [e2, Bool.and_false]
            simp (disch := first | decide | omega | (simp only [LN]; omega) | (simp only [LN]; done) | fail) only [SV, Nat.reduceBEq, beq_self_eq_true, evBin, intBin, decide_true, if_true, V.laid, V.cells, Nat.zero_add, Nat.reduceAdd, hs, eGlob_eq, D.flat, Bool.false_eq_true, if_false, Nat.le_refl, Bool.and_self, lose, evFa, Nat.add_zero, List.getElem?_cons_zero, V.own, V.own1, Bool.or_self, V.new, V.new1, Bool.or_true, V.flatV, V.flat1, Bool.not_true, Bool.and_false, Bool.false_and, view, viewD, hc, evUn, hse, decide_false, V.refs, globsOut_f]
        · have e2 : decide (0 ≤ s.arity) = false := by simpa using g1
          simp only [e2, Bool.and_false, Bool.false_and]
          simp (disch := first | decide | omega | (simp only [LN]; omega) | (simp only [LN]; done) | fail) only [SV, Nat.reduceBEq, beq_self_eq_true, evBin, intBin, decide_true, if_true, V.laid, V.cells, Nat.zero_add, Nat.reduceAdd, hs, eGlob_eq, D.flat, Bool.false_eq_true, if_false, Nat.le_refl, Bool.and_self, lose, evFa, Nat.add_zero, List.getElem?_cons_zero, V.own, V.own1, Bool.or_self, V.new, V.new1, Bool.or_true, V.flatV, V.flat1, Bool.not_true, Bool.and_false, Bool.false_and, view, viewD, hc, evUn, hse, decide_false, Bool.or_false, V.refs, globsOut_f]

def headOut (t : Table) (seen : List (List UInt8)) (r : Bool) : Ex × S := if r then (.exit 2, ⟨[(1, .ptr 0 0 0), (3, .map 1)], [(0, .mix 2 [[.d false (.sl 2 (t.shapes.map eShape)), .d false (.sl 3 (t.globals.map eGlob))]]), (1, .map (seenE seen))], 2, []⟩) else (.ret, ⟨[(2, .d false (.int .i64 172))], [], 0, []⟩)
theorem headOut_f (t m) : headOut t m false = (.ret, ⟨[(2, .d false (.int .i64 172))], [], 0, []⟩) := rfl
theorem headOut_t (t m) : headOut t m true = (.exit 2, ⟨[(1, .ptr 0 0 0), (3, .map 1)], [(0, .mix 2 [[.d false (.sl 2 (t.shapes.map eShape)), .d false (.sl 3 (t.globals.map eGlob))]]), (1, .map (seenE m))], 2, []⟩) := rfl

theorem head_loop (K : Cx) (t : Table) (hl : t.shapes.length ≤ 2000) (seen : List (List UInt8)) : ∀ (k i : Nat), i + k = 7 →
    lp K 0 [1, 3, 48, 49, 50] f12_L1 ⟨[(1, .ptr 0 0 0), (3, .map 1), (48, .bsl 2 0 7), (49, .d false (.int .i64 7)), (50, .d false (.int .i64 i))], [(0, .mix 2 [[.d false (.sl 2 (t.shapes.map eShape)), .d false (.sl 3 (t.globals.map eGlob))]]), (1, .map (seenE seen)), (2, .dat true 2 (givenS.map eShape))], 3, []⟩ =
    some (headOut t seen (headL t.shapes k i)) := by
  have h7 : givenS.length = 7 := rfl
  intro k
  induction k with
  | zero =>
    intro i hi
    rw [lp_un f12_L1.eq_1]
    simp only [headL]
    simp (disch := first | decide | omega | (simp only [LN]; omega) | (simp only [LN]; done) | fail) only [SV, Nat.reduceBEq, beq_self_eq_true, evBin, intBin, decide_false, if_true, V.refs, Bool.or_self, reduceCtorEq, or_self, not_false_eq_true, and_self, decide_true, Bool.and_self, Bool.or_false, Bool.or_true, cond_false, cond_true, Nat.zero_add, Nat.reduceAdd, headOut_t]
  | succ k ih =>
    intro i hi
    have hcast : ((i + 1 : Nat) : Int) = (i : Int) + 1 := by omega
    have ih := ih (i + 1) (by omega)
    rw [hcast] at ih
    rw [lp_un f12_L1.eq_1]
    simp only [headL]
    by_cases g : i < t.shapes.length
    · generalize hs : nth t.shapes (i : Int) = s
      generalize hg : nth givenS (i : Int) = s'
      by_cases e1 : s.name = s'.name
      · by_cases e2 : s.fields = s'.fields
        · have e : s = s' := by cases s; cases s'; simp at e1 e2; subst e1; subst e2; rfl
          rw [if_pos ⟨g, e⟩]
          subst e
          simp (disch := first | decide | omega | (simp only [LN]; omega) | (simp only [LN]; done) | fail) only [SV, Nat.reduceBEq, beq_self_eq_true, evBin, intBin, decide_true, if_true, V.laid, V.cells, Nat.zero_add, Nat.reduceAdd, Int.toNat_natCast, hg, eShape_eq, D.flat, Nat.le_refl, Bool.and_self, lose, evFa, Nat.add_zero, List.getElem?_cons_zero, evLen, decide_false, hs, evEqs, cellsEq, cellEq, Bool.not_true, Bool.or_self, V.refs, reduceCtorEq, or_self, not_false_eq_true, Nat.reduceEqDiff, and_self, Bool.or_false, Bool.or_true, cond_false, cond_true]
          exact ih
        · rw [if_neg (fun h => e2 (by rw [h.2]))]
          have d2 : (s.fields == s'.fields) = false := by simpa using e2
          clear e2
          simp (disch := first | decide | omega | (simp only [LN]; omega) | (simp only [LN]; done) | fail) only [SV, Nat.reduceBEq, beq_self_eq_true, evBin, intBin, decide_true, if_true, V.laid, V.cells, Nat.zero_add, Nat.reduceAdd, Int.toNat_natCast, hg, eShape_eq, D.flat, Nat.le_refl, Bool.and_self, lose, evFa, Nat.add_zero, List.getElem?_cons_zero, evLen, decide_false, hs, e1, evEqs, cellsEq, cellEq, d2, Bool.and_true, Bool.and_false, Bool.not_false, Bool.or_true, V.refs, headOut_f]
      · rw [if_neg (fun h => e1 (by rw [h.2]))]
        have d1 : decide (s.name = s'.name) = false := by simpa using e1
        simp (disch := first | decide | omega | (simp only [LN]; omega) | (simp only [LN]; done) | fail) only [SV, Nat.reduceBEq, beq_self_eq_true, evBin, intBin, decide_true, if_true, V.laid, V.cells, Nat.zero_add, Nat.reduceAdd, Int.toNat_natCast, hg, eShape_eq, D.flat, Nat.le_refl, Bool.and_self, lose, evFa, Nat.add_zero, List.getElem?_cons_zero, evLen, decide_false, hs, evEqs, cellsEq, cellEq, d1, Bool.and_true, Bool.false_and, Bool.not_false, Bool.or_true, V.refs, headOut_f]
    · rw [if_neg (fun h => g h.1)]
      simp (disch := first | decide | omega | (simp only [LN]; omega) | (simp only [LN]; done) | fail) only [SV, Nat.reduceBEq, beq_self_eq_true, evBin, intBin, decide_true, if_true, V.laid, V.cells, Nat.zero_add, Nat.reduceAdd, Int.toNat_natCast, eShape_eq, D.flat, Nat.le_refl, Bool.and_self, lose, evFa, Nat.add_zero, List.getElem?_cons_zero, evLen, orV_true, V.refs, headOut_f]

end Go.Vm
end

section
namespace Go.Vm

structure TabOk (t : Table) : Prop where
  sh : (t.shapes.length : Int) ≤ 9223372036854775807
  gl : (t.globals.length : Int) ≤ 9223372036854775807
  cd : ∀ g ∈ t.globals, (g.code.length : Int) ≤ 9223372036854775807
  sn : ∀ s ∈ t.shapes, (s.name.length : Int) ≤ 9223372036854775807
  gn : ∀ g ∈ t.globals, (g.name.length : Int) ≤ 9223372036854775807
  wd : ∀ g ∈ t.globals, ∀ x ∈ g.code, x.a ≤ 9223372036854775807

def K20 (K : Cx) : Prop := ∀ (t : Table), TabOk t → K.call 20 [.agg [.d false (.sl 2 (t.shapes.map eShape)), .d false (.sl 3 (t.globals.map eGlob))]] = some (.d false (.bool (greatS t)), [])
def K22 (K : Cx) : Prop := K.call 22 [] = some (.bsl 0 0 7, [.dat true 2 (givenS.map eShape)])
def K23 (K : Cx) : Prop := ∀ (sh : List Shape) (gl : List Glob) (nm : List UInt8) (ar : Int) (cd : List Instr), ShOk sh → cd.length ≤ 8000 → 0 ≤ ar ∧ ar ≤ 24 → (∀ x ∈ cd, x.a ≤ 9223372036854775807) →
  K.call 23 [.agg [.d false (.sl 2 (sh.map eShape)), .d false (.sl 3 (gl.map eGlob))], .agg [.d false (.str nm), .d false (.int .i64 ar), .d false (.sl 3 (cd.map eInstr))]] = some (.d false (.int .i64 (checkCodeS gl.length sh ⟨nm, ar, cd⟩)), [])

def codesOut (r : Int) : Ex × S := if r = 0 then (.exit 6, ⟨[], [], 0, []⟩) else (.ret, ⟨[(2, .d false (.int .i64 r))], [], 0, []⟩)

theorem codes_loop (K : Cx) (h23 : K23 K) (t : Table) (hl : t.globals.length ≤ 2000) (hs : ShOk t.shapes) (hg : ∀ g ∈ t.globals, g.code.length ≤ 8000 ∧ (0 ≤ g.arity ∧ g.arity ≤ 24) ∧ ∀ x ∈ g.code, x.a ≤ 9223372036854775807) : ∀ (k i : Nat), i + k = t.globals.length →
    lp K 0 [1, 104, 105, 106] f12_L3 ⟨[(1, .ptr 0 0 0), (104, .d false (.sl 3 (t.globals.map eGlob))), (105, .d false (.int .i64 t.globals.length)), (106, .d false (.int .i64 i))], [(0, .mix 2 [[.d false (.sl 2 (t.shapes.map eShape)), .d false (.sl 3 (t.globals.map eGlob))]])], 1, []⟩ =
    some (codesOut (codesS t.globals.length t.shapes (t.globals.drop i))) := by
  intro k
  induction k with
  | zero =>
    intro i hi
    rw [lp_un f12_L3.eq_1, List.drop_of_length_le (by omega)]
    simp only [codesS]
    rw [show codesOut 0 = (.exit 6, ⟨[], [], 0, []⟩) from rfl]
    simp (disch := first | decide | omega | (simp only [LN]; omega) | (simp only [LN]; done) | fail) only [SV, Nat.reduceBEq, beq_self_eq_true, evBin, intBin, decide_false, if_true, decide_true, Bool.and_self]
  | succ k ih =>
    intro i hi
    have hcast : ((i + 1 : Nat) : Int) = (i : Int) + 1 := by omega
    have hlt : i < t.globals.length := by omega
    rw [lp_un f12_L3.eq_1, drop_nth hlt]
    obtain ⟨g1, g2, g3⟩ := hg _ (nth_mem (l := t.globals) (i := (i : Int)) (by omega) (by omega))
    have ih := ih (i + 1) (by omega)
    rw [hcast] at ih
    simp only [codesS]
    generalize hgg : nth t.globals (i : Int) = g at g1 g2 g3
    have hc := h23 t.shapes t.globals g.name g.arity g.code hs g1 g2 g3
    rw [show (⟨g.name, g.arity, g.code⟩ : Glob) = g from rfl] at hc
    generalize checkCodeS t.globals.length t.shapes g = r at hc
    clear g1 g2 g3 hg
    by_cases g0 : r = 0
    · subst g0
      rw [if_pos rfl]
      simp (disch := first | decide | omega | (simp only [LN]; omega) | (simp only [LN]; done) | fail) only [SV, Nat.reduceBEq, beq_self_eq_true, evBin, intBin, decide_true, if_true, V.laid, V.cells, Nat.zero_add, Nat.reduceAdd, hgg, eGlob_eq, D.flat, Bool.false_eq_true, if_false, Nat.le_refl, Bool.and_self, lose, List.getElem?_cons_zero, V.own, V.own1, Bool.or_self, V.new, V.new1, Bool.and_true, Bool.or_true, Bool.and_false, V.flatV, V.flat1, Bool.not_false, Bool.false_and, view, viewD, hc, Bool.not_true, bne_self_eq_false, V.refs, not_false_eq_true, and_self, Bool.or_false, cond_true]
      exact ih
    · rw [if_neg g0]
      have d0 : (r != 0) = true := by simpa using g0
      have ho : codesOut r = (.ret, ⟨[(2, .d false (.int .i64 r))], [], 0, []⟩) := by unfold codesOut; rw [if_neg g0]
      clear g0
      simp (disch := first | decide | omega | (simp only [LN]; omega) | (simp only [LN]; done) | fail) only [SV, Nat.reduceBEq, beq_self_eq_true, evBin, intBin, decide_true, if_true, V.laid, V.cells, Nat.zero_add, Nat.reduceAdd, hgg, eGlob_eq, D.flat, Bool.false_eq_true, if_false, Nat.le_refl, Bool.and_self, lose, List.getElem?_cons_zero, V.own, V.own1, Bool.or_self, V.new, V.new1, Bool.and_true, Bool.or_true, Bool.and_false, V.flatV, V.flat1, Bool.not_false, Bool.false_and, view, viewD, hc, Bool.not_true, d0, V.refs, ho]

theorem ev_check (K : Cx) (h20 : K20 K) (h21 : K21 K) (h22 : K22 K) (h23 : K23 K) (t : Table) (ht : TabOk t) :
    runFun K f12 [.agg [.d false (.sl 2 (t.shapes.map eShape)), .d false (.sl 3 (t.globals.map eGlob))]] [] = some (.d false (.int .i64 (checkS t)), [], []) := by
  have hc := h20 t ht
  unfold checkS
  cases hgr : greatS t with
  | true =>
    rw [hgr] at hc
    rw [if_pos rfl]
    simp (disch := first | decide | omega | (simp only [LN]; omega) | (simp only [LN]; done) | fail) only [SV, f12, Nat.zero_add, beq_self_eq_true, V.laid, V.cells, Nat.reduceAdd, if_true, Nat.reduceBEq, Bool.and_self, List.getElem?_cons_zero, Nat.le_refl, V.own, V.own1, Bool.or_self, V.new, V.new1, D.flat, Bool.and_true, V.flatV, V.flat1, Bool.not_false, Bool.false_and, view, viewD, hc, Bool.or_true, Bool.not_true, Bool.false_eq_true, if_false, V.refs, decide_true, oneOr, finV, finA, finC]
  | false =>
    rw [hgr] at hc
    rw [if_neg (by simp)]
    obtain ⟨q1, q2, q3⟩ := greatS_f hgr
    have l0 := shapes_loop K h21 t q1 ht.sn t.shapes.length 0 [] (by omega)
    simp only [Int.natCast_zero, List.drop_zero, seenE_nil, List.nil_append] at l0
    cases hn1 : namesOk 8 (t.shapes.map fun s => (s.name, s.fields)) [] with
    | false =>
      rw [if_pos rfl]
      rw [hn1, shapesOut_f] at l0
      clear hgr
      simp (disch := first | decide | omega | (simp only [LN]; omega) | (simp only [LN]; done) | fail) only [SV, f12, Nat.zero_add, beq_self_eq_true, V.laid, V.cells, Nat.reduceAdd, if_true, Nat.reduceBEq, Bool.and_self, List.getElem?_cons_zero, Nat.le_refl, V.own, V.own1, Bool.or_self, V.new, V.new1, D.flat, Bool.and_true, V.flatV, V.flat1, Bool.not_false, Bool.false_and, view, viewD, hc, Bool.or_true, Bool.not_true, Bool.false_eq_true, if_false, evFa, Nat.add_zero, evLen, V.refs, reduceCtorEq, or_self, not_false_eq_true, and_self, decide_true, Bool.or_false, cond_false, cond_true, l0, oneOr, finV, finA, finC]
    | true =>
      rw [if_neg (by simp)]
      rw [hn1, shapesOut_t] at l0
      have l1 := head_loop K t q1 (t.shapes.map (·.name)) 7 0 rfl
      simp only [Int.natCast_zero] at l1
      unfold headsOk
      cases hh : headL t.shapes 7 0 with
      | false =>
        rw [if_pos rfl]
        rw [hh, headOut_f] at l1
        unfold K22 at h22
        simp (disch := first | decide | omega | (simp only [LN]; omega) | (simp only [LN]; done) | fail) only [SV, f12, Nat.zero_add, beq_self_eq_true, V.laid, V.cells, Nat.reduceAdd, if_true, Nat.reduceBEq, Bool.and_self, List.getElem?_cons_zero, Nat.le_refl, V.own, V.own1, Bool.or_self, V.new, V.new1, D.flat, Bool.and_true, V.flatV, V.flat1, Bool.not_false, Bool.false_and, view, viewD, hc, Bool.or_true, Bool.not_true, Bool.false_eq_true, if_false, evFa, Nat.add_zero, evLen, V.refs, reduceCtorEq, or_self, not_false_eq_true, and_self, decide_true, Bool.or_false, cond_false, cond_true, l0, h22, V.new2, V.newR, V.shift, Nat.reduceEqDiff, l1, oneOr, finV, finA, finC]
      | true =>
        rw [if_neg (by simp)]
        rw [hh, headOut_t] at l1
        unfold K22 at h22
        have l2 := globs_loop K h21 t q2 ht.gn t.globals.length 0 [] (by omega)
        simp only [Int.natCast_zero, List.drop_zero, seenE_nil] at l2
        cases hn2 : namesOk 24 (t.globals.map fun g => (g.name, g.arity)) [] with
        | false =>
          rw [if_pos rfl]
          rw [hn2, globsOut_f] at l2
          simp (disch := first | decide | omega | (simp only [LN]; omega) | (simp only [LN]; done) | fail) only [SV, f12, Nat.zero_add, beq_self_eq_true, V.laid, V.cells, Nat.reduceAdd, if_true, Nat.reduceBEq, Bool.and_self, List.getElem?_cons_zero, Nat.le_refl, V.own, V.own1, Bool.or_self, V.new, V.new1, D.flat, Bool.and_true, V.flatV, V.flat1, Bool.not_false, Bool.false_and, view, viewD, hc, Bool.or_true, Bool.not_true, Bool.false_eq_true, if_false, evFa, Nat.add_zero, evLen, V.refs, reduceCtorEq, or_self, not_false_eq_true, and_self, decide_true, Bool.or_false, cond_false, cond_true, l0, h22, V.new2, V.newR, V.shift, Nat.reduceEqDiff, l1, lose, l2, oneOr, finV, finA, finC]
        | true =>
          rw [if_neg (by simp)]
          rw [hn2, globsOut_t] at l2
          have m1 := namesOk_mem _ _ _ hn1
          have m2 := namesOk_mem _ _ _ hn2
          have l3 := codes_loop K h23 t q2 (fun s hs => (m1 (s.name, s.fields) (List.mem_map.2 ⟨s, hs, rfl⟩)).2) (fun g hg => ⟨q3 g hg, (m2 (g.name, g.arity) (List.mem_map.2 ⟨g, hg, rfl⟩)).2, ht.wd g hg⟩) t.globals.length 0 (by omega)
          simp only [Int.natCast_zero, List.drop_zero] at l3
          generalize codesS t.globals.length t.shapes t.globals = r at l3
          by_cases g0 : r = 0
          · subst g0
            rw [show codesOut 0 = (.exit 6, ⟨[], [], 0, []⟩) from rfl] at l3
            clear m1 m2 q3
            simp (disch := first | decide | omega | (simp only [LN]; omega) | (simp only [LN]; done) | fail) only [SV, f12, Nat.zero_add, beq_self_eq_true, V.laid, V.cells, Nat.reduceAdd, if_true, Nat.reduceBEq, Bool.and_self, List.getElem?_cons_zero, Nat.le_refl, V.own, V.own1, Bool.or_self, V.new, V.new1, D.flat, Bool.and_true, V.flatV, V.flat1, Bool.not_false, Bool.false_and, view, viewD, hc, Bool.or_true, Bool.not_true, Bool.false_eq_true, if_false, evFa, Nat.add_zero, evLen, V.refs, reduceCtorEq, or_self, not_false_eq_true, and_self, decide_true, Bool.or_false, cond_false, cond_true, l0, h22, V.new2, V.newR, V.shift, Nat.reduceEqDiff, l1, lose, l2, l3, oneOr, finV, finA, finC]
          · rw [show codesOut r = (.ret, ⟨[(2, .d false (.int .i64 r))], [], 0, []⟩) by unfold codesOut; rw [if_neg g0]] at l3
            clear m1 m2 q3 g0
            simp (disch := first | decide | omega | (simp only [LN]; omega) | (simp only [LN]; done) | fail) only [SV, f12, Nat.zero_add, beq_self_eq_true, V.laid, V.cells, Nat.reduceAdd, if_true, Nat.reduceBEq, Bool.and_self, List.getElem?_cons_zero, Nat.le_refl, V.own, V.own1, Bool.or_self, V.new, V.new1, D.flat, Bool.and_true, V.flatV, V.flat1, Bool.not_false, Bool.false_and, view, viewD, hc, Bool.or_true, Bool.not_true, Bool.false_eq_true, if_false, evFa, Nat.add_zero, evLen, V.refs, reduceCtorEq, or_self, not_false_eq_true, and_self, decide_true, Bool.or_false, cond_false, cond_true, l0, h22, V.new2, V.newR, V.shift, Nat.reduceEqDiff, l1, lose, l2, l3, oneOr, finV, finA, finC]

end Go.Vm
end

section
namespace Go.Vm

def K12 (K : Cx) : Prop := ∀ t : Table, TabOk t → K.call 12 [.agg [.d false (.sl 2 (t.shapes.map eShape)), .d false (.sl 3 (t.globals.map eGlob))]] = some (.d false (.int .i64 (checkS t)), [])
def K17 (K : Cx) : Prop := ∀ l : List Shape, l ≠ [] → l.length ≤ 100000 → K.call 17 [.d false (.sl 2 (l.map eShape))] = some (.d true (.sl 2 (l.map eShape)), [])
def K18 (K : Cx) (B : List Instr → List Instr) (t : Table) : Prop := ∀ g ∈ t.globals, K.call 18 [.d false (.sl 3 (g.code.map eInstr))] = some (.fs true 3 ((B g.code).map eInstr), [])

def doneG (B : List Instr → List Instr) (g : Glob) : Glob := ⟨g.name, g.arity, B g.code⟩
theorem fGlobA1 (l : List Glob) (n a c) : l.map eGlob ++ [[D.str n, .int .i64 a, .sl 3 (List.map eInstr c)]] = (l ++ [(⟨n, a, c⟩ : Glob)]).map eGlob := by simp [eGlob]

theorem peep_loop (K : Cx) (B : List Instr → List Instr) (t : Table) (h18 : K18 K B t) (hl : t.globals.length ≤ 2000) : ∀ (k i : Nat) (X : List Glob), i + k = t.globals.length → X.length = i →
    lp K 0 [2, 5, 19, 20, 21] f9_L0 ⟨[(2, .ptr 0 0 0), (5, .ptr 1 0 0), (19, .d false (.sl 3 (t.globals.map eGlob))), (20, .d false (.int .i64 t.globals.length)), (21, .d false (.int .i64 i))],
      [(0, .mix 2 [[.fs true 2 [], .fs true 3 []]]), (1, .mix 2 [[.d true (.sl 2 (t.shapes.map eShape)), .bsl 2 0 i]]), (2, .dat true 3 (X.map eGlob))], 3, []⟩ =
    some (.exit 0, ⟨[(2, .ptr 0 0 0), (5, .ptr 1 0 0)], [(0, .mix 2 [[.fs true 2 [], .fs true 3 []]]), (1, .mix 2 [[.d true (.sl 2 (t.shapes.map eShape)), .bsl 2 0 t.globals.length]]), (2, .dat true 3 ((X ++ (t.globals.drop i).map (doneG B)).map eGlob))], 3, []⟩) := by
  intro k
  induction k with
  | zero =>
    intro i X hi hX
    rw [lp_un f9_L0.eq_1, List.drop_of_length_le (by omega), List.map_nil, List.append_nil]
    have : i = t.globals.length := by omega
    subst this
    simp (disch := first | decide | omega | (simp only [LN]; omega) | (simp only [LN]; done) | fail) only [SV, Nat.reduceBEq, beq_self_eq_true, evBin, intBin, decide_false, if_true, V.refs, Bool.or_self, reduceCtorEq, or_self, not_false_eq_true, Nat.reduceEqDiff, and_self, decide_true, Bool.and_self, Bool.or_false, Bool.or_true, cond_false, cond_true, Nat.zero_add, Nat.reduceAdd]
  | succ k ih =>
    intro i X hi hX
    have hcast : ((i + 1 : Nat) : Int) = (i : Int) + 1 := by omega
    have hlt : i < t.globals.length := by omega
    have hc := h18 _ (nth_mem (l := t.globals) (i := (i : Int)) (by omega) (by omega))
    have ih := ih (i + 1) (X ++ [doneG B (nth t.globals i)]) (by omega) (by simp [hX])
    rw [hcast] at ih
    rw [lp_un f9_L0.eq_1, drop_nth hlt, List.map_cons]
    rw [List.append_assoc] at ih
    simp only [List.cons_append, List.nil_append] at ih
    generalize hg : nth t.globals (i : Int) = g at hc ih
    generalize hQ : X ++ doneG B g :: (t.globals.drop (i + 1)).map (doneG B) = Q at ih
    unfold doneG at ih
    simp (disch := first | decide | omega | (simp only [LN]; omega) | (simp only [LN]; done) | fail) only [SV, Nat.reduceBEq, beq_self_eq_true, evBin, intBin, decide_true, if_true, V.laid, V.cells, Nat.zero_add, Nat.reduceAdd, hg, eGlob_eq, D.flat, Bool.false_eq_true, if_false, Nat.le_refl, Bool.and_self, lose, evFa, List.getElem?_cons_zero, V.own, V.own1, Bool.or_self, V.new, V.new1, Bool.and_true, V.flatV, V.flat1, Bool.not_false, Bool.false_and, view, viewD, hc, Bool.not_true, Nat.add_zero, evSet, V.cell, asD, Bool.or_true, Bool.and_false, Bool.or_false, fGlobA1, V.forget, V.drop1, beq_iff_eq, V.ref0, reduceCtorEq, Nat.reduceEqDiff, V.refs, or_self, not_false_eq_true, and_self, cond_false, cond_true]
    exact ih

def outGl (l : List Glob) : V := if l = [] then .fs true 3 [] else .d true (.sl 3 (l.map eGlob))
theorem outGl_cons (g l) : outGl (g :: l) = .d true (.sl 3 ((g :: l).map eGlob)) := rfl

theorem ev_peep (K : Cx) (B : List Instr → List Instr) (h12 : K12 K) (h17 : K17 K) (t : Table) (ht : TabOk t) (h18 : checkS t = 0 → K18 K B t) (hsh : checkS t = 0 → t.shapes ≠ [] ∧ t.shapes.length ≤ 100000) (hgl : checkS t = 0 → t.globals.length ≤ 2000) :
    runFun K f9 [.agg [.d false (.sl 2 (t.shapes.map eShape)), .d false (.sl 3 (t.globals.map eGlob))]] [] =
      some (if checkS t = 0 then .tup [.agg [.d true (.sl 2 (t.shapes.map eShape)), outGl (t.globals.map (doneG B))], .d false (.int .i64 0)]
        else .tup [.agg [.fs true 2 [], .fs true 3 []], .d false (.int .i64 (checkS t))], [], []) := by
  have c0 := h12 t ht
  by_cases hz : checkS t = 0
  · rw [if_pos hz]
    have h18 := h18 hz
    have c1 := h17 t.shapes (hsh hz).1 (hsh hz).2
    have hgl := hgl hz
    rw [hz] at c0
    clear hz hsh ht
    by_cases hn : t.globals = []
    · have hn0 : t.globals.length = 0 := by rw [hn]; rfl
      have e1 : (List.map (doneG B) t.globals) = [] := by rw [hn]; rfl
      rw [e1, show outGl [] = .fs true 3 [] from rfl]
      clear hn e1
      simp (disch := first | decide | omega | (simp only [LN]; omega) | (simp only [LN]; done) | fail) only [SV, f9, Nat.zero_add, beq_self_eq_true, V.laid, V.cells, Nat.reduceAdd, if_true, Nat.reduceBEq, Bool.and_self, List.getElem?_cons_zero, Nat.le_refl, V.own, V.own1, Bool.or_self, V.new, V.new1, D.flat, Bool.and_true, V.flatV, V.flat1, Bool.not_false, Bool.false_and, view, viewD, c0, Bool.or_true, Bool.not_true, Bool.false_eq_true, if_false, evBin, intBin, bne_self_eq_false, evFa, Nat.add_zero, c1, Bool.or_false, evSet, V.cell, decide_true, lose, evLen, V.refs, Nat.reduceEqDiff, or_self, not_false_eq_true, and_self, cond_false, cond_true, reduceCtorEq]
      rw [lp_un f9_L0.eq_1]
      simp (disch := first | decide | omega | (simp only [LN]; omega) | (simp only [LN]; done) | fail) only [SV, Nat.reduceBEq, beq_self_eq_true, evBin, intBin, decide_false, if_true, V.refs, Bool.or_self, reduceCtorEq, or_self, not_false_eq_true, and_self, decide_true, Bool.and_self, Bool.or_false, Bool.or_true, cond_false, cond_true, Nat.zero_add, Nat.reduceAdd, List.getElem?_cons_zero, Nat.le_refl, V.laid, V.cells, lose, oneOr, Bool.false_eq_true, if_false, finV, finA, finC]
    · have hpos : 0 < t.globals.length := by
        cases h : t.globals with
        | nil => exact absurd h hn
        | cons a b => simp
      have hg0 := h18 _ (nth_mem (l := t.globals) (i := 0) (by omega) (by omega))
      have hsp : t.globals.map (doneG B) = [doneG B (nth t.globals 0)] ++ (t.globals.drop 1).map (doneG B) := by
        have h0 := drop_nth (l := t.globals) (i := 0) hpos
        simp only [List.drop_zero] at h0
        conv => lhs; rw [h0]
        rfl
      have ho : outGl (t.globals.map (doneG B)) = .d true (.sl 3 ((t.globals.map (doneG B)).map eGlob)) := by
        unfold outGl
        rw [if_neg (by simpa using hn)]
      rw [ho]
      have l0 := peep_loop K B t h18 hgl (t.globals.length - 1) 1 [doneG B (nth t.globals 0)] (by omega) rfl
      rw [← hsp] at l0
      generalize hQ : t.globals.map (doneG B) = Q at l0
      have hQl : Q.length = t.globals.length := by rw [← hQ]; simp
      generalize hgg : nth t.globals 0 = g at l0 hg0
      have hgg' : nth t.globals ((0 : Nat) : Int) = g := hgg
      simp only [List.map_cons, List.map_nil, eGlob_eq, doneG, Int.natCast_one] at l0
      clear hsp ho hQ hn h18
      simp (disch := first | decide | omega | (simp only [LN]; omega) | (simp only [LN]; done) | fail) only [SV, f9, Nat.zero_add, beq_self_eq_true, V.laid, V.cells, Nat.reduceAdd, if_true, Nat.reduceBEq, Bool.and_self, List.getElem?_cons_zero, Nat.le_refl, V.own, V.own1, Bool.or_self, V.new, V.new1, D.flat, Bool.and_true, V.flatV, V.flat1, Bool.not_false, Bool.false_and, view, viewD, c0, Bool.or_true, Bool.not_true, Bool.false_eq_true, if_false, evBin, intBin, bne_self_eq_false, evFa, Nat.add_zero, c1, Bool.or_false, evSet, V.cell, decide_true, lose, evLen, V.refs, Nat.reduceEqDiff, or_self, not_false_eq_true, and_self, cond_false, cond_true, reduceCtorEq]
      rw [lp_un f9_L0.eq_1]
      simp (disch := first | decide | omega | (simp only [LN]; omega) | (simp only [LN]; done) | fail) only [SV, Nat.reduceBEq, beq_self_eq_true, evBin, intBin, decide_true, if_true, V.laid, V.cells, Nat.zero_add, Nat.reduceAdd, hgg, eGlob_eq, D.flat, Bool.false_eq_true, if_false, Nat.le_refl, Bool.and_self, lose, evFa, List.getElem?_cons_zero, V.own, V.own1, Bool.or_self, V.new, V.new1, Bool.and_true, V.flatV, V.flat1, Bool.not_false, Bool.false_and, view, viewD, hg0, Bool.not_true, Nat.add_zero, evSet, V.cell, asD, Bool.or_true, Bool.and_false, Bool.or_false, Int.reduceAdd, V.refs, reduceCtorEq, or_self, not_false_eq_true, Nat.reduceEqDiff, and_self, cond_false, cond_true]
      rw [l0]
      simp (disch := first | decide | omega | (simp only [LN]; omega) | (simp only [LN]; done) | fail) only [SV, if_true, beq_self_eq_true, Nat.reduceBEq, List.getElem?_cons_zero, Nat.zero_add, Nat.reduceAdd, Nat.le_refl, V.laid, V.cells, Bool.and_self, lose, V.refs, Bool.or_self, reduceCtorEq, or_self, not_false_eq_true, and_self, decide_true, Bool.or_false, Bool.or_true, cond_false, cond_true, oneOr, Bool.false_eq_true, if_false, finV, finA, finC, hNew, V.forget, V.drop1, V.ref0, Bool.not_false, V.newR, V.new1, D.flat, viewD]
  · rw [if_neg hz]
    have d0 : (checkS t != 0) = true := by simpa using hz
    clear hz hsh hgl h18
    simp (disch := first | decide | omega | (simp only [LN]; omega) | (simp only [LN]; done) | fail) only [SV, f9, Nat.zero_add, beq_self_eq_true, V.laid, V.cells, Nat.reduceAdd, if_true, Nat.reduceBEq, Bool.and_self, List.getElem?_cons_zero, Nat.le_refl, V.own, V.own1, Bool.or_self, V.new, V.new1, D.flat, Bool.and_true, V.flatV, V.flat1, Bool.not_false, Bool.false_and, view, viewD, c0, Bool.or_true, Bool.not_true, Bool.false_eq_true, if_false, evBin, intBin, d0, lose, V.refs, not_false_eq_true, and_self, decide_true, Bool.or_false, cond_true, oneOr, finV, finA, finC]

end Go.Vm
end

section
namespace Go.Vm
/- 'sloth/slothlaw19.shapes' -/
def f14 : Fun := ⟨
 (.seq
  (.reg [⟨[], [], [(.nilsl 2)], none, [], 1, [], [], []⟩])
  (.seq
   (.reg [⟨[(8, .lits 2 (.cons (.set 0 1 (.str [70, 97, 108, 115, 101]) (.agg (.cons (.str []) (.cons (.int .i64 0) .nil)))) (.cons (.set 0 1 (.str [84, 114, 117, 101]) (.agg (.cons (.str []) (.cons (.int .i64 0) .nil)))) (.cons (.set 0 1 (.str [85, 110, 105, 116]) (.agg (.cons (.str []) (.cons (.int .i64 0) .nil)))) (.cons (.set 0 1 (.str [78, 105, 108]) (.agg (.cons (.str []) (.cons (.int .i64 0) .nil)))) (.cons (.set 1 1 (.int .i64 2) (.set 0 1 (.str [67, 111, 110, 115]) (.agg (.cons (.str []) (.cons (.int .i64 0) .nil))))) (.cons (.set 1 1 (.int .i64 2) (.set 0 1 (.str [80, 97, 105, 114]) (.agg (.cons (.str []) (.cons (.int .i64 0) .nil))))) (.cons (.set 1 1 (.int .i64 3) (.set 0 1 (.str [84, 114, 105, 112, 108, 101]) (.agg (.cons (.str []) (.cons (.int .i64 0) .nil))))) .nil))))))))], [(0, (.sl 8))], [], none, [], 9, [], [], []⟩])
   (.seq
    (.tidy 0 [0])
    .ret))),
 [(.sl 0)], true⟩
theorem f14_ok : funOk Go.Proofs.Try.prog 14 0 0 f14 = true := by kernel_rfl

/- 'slices.Clone[[]sloth/api.Shape,sloth/api.Shape]' -/
def f17 : Fun := ⟨
 (.seq
  (.reg [⟨[], [], [(.nilsl 2)], none, [0], 1, [], [], []⟩])
  (.seq
   (.seq
    (.reg [⟨[], [(4, (.eqs false false [3] (.sl 0) (.nilsl 2)))], [], none, [0], 2, [], [], []⟩])
    (.cond (.sl 4)
     (.seq
      (.reg [⟨[], [(2, (.nilsl 2))], [], none, [], 1, [], [], []⟩])
      (.seq
       (.tidy 0 [2])
       .ret))
     .skip))
   (.seq
    (.reg [⟨[(5, .lits 2 .nil)], [], [], some (some 7, .app 2 (.sl 5) (.sl 0)), [], 3, [], [], []⟩, ⟨[], [(2, (.sl 7))], [], none, [], 1, [], [], []⟩])
    (.seq
     (.tidy 0 [2])
     .ret)))),
 [(.sl 2)], false⟩
theorem f17_ok : funOk Go.Proofs.Try.prog 17 0 1 f17 = true := by kernel_rfl

/- 'slices.Clone[[]sloth/api.Instr,sloth/api.Instr]' -/
def f33 : Fun := ⟨
 (.seq
  (.reg [⟨[], [], [(.nilsl 3)], none, [0], 1, [], [], []⟩])
  (.seq
   (.seq
    (.reg [⟨[], [(4, (.eqs false false [3] (.sl 0) (.nilsl 3)))], [], none, [0], 2, [], [], []⟩])
    (.cond (.sl 4)
     (.seq
      (.reg [⟨[], [(2, (.nilsl 3))], [], none, [], 1, [], [], []⟩])
      (.seq
       (.tidy 0 [2])
       .ret))
     .skip))
   (.seq
    (.reg [⟨[(5, .lits 3 .nil)], [], [], some (some 7, .app 3 (.sl 5) (.sl 0)), [], 3, [], [], []⟩, ⟨[], [(2, (.sl 7))], [], none, [], 1, [], [], []⟩])
    (.seq
     (.tidy 0 [2])
     .ret)))),
 [(.sl 2)], false⟩
theorem f33_ok : funOk Go.Proofs.Try.prog 33 0 1 f33 = true := by kernel_rfl


theorem ev_clone33 (K : Cx) (l : List Instr) (h : l ≠ []) (hl : l.length ≤ 100000) : runFun K f33 [.d false (.sl 3 (l.map eInstr))] [] = some (.d true (.sl 3 (l.map eInstr)), [], []) := by
  cases l with
  | nil => exact absurd rfl h
  | cons x l =>
    clear h
    generalize hL : x :: l = L at *
    have h0 : 0 < L.length := by rw [← hL]; simp
    have e0 : (L.map eInstr).isEmpty = false := by rw [← hL]; rfl
    clear hL
    simp (disch := first | decide | omega | (simp only [LN]; omega) | (simp only [LN]; done) | fail) only [SV, f33, Nat.zero_add, Bool.and_self, beq_self_eq_true, evEqs, Bool.false_eq_true, cellsEq, cellEq, V.isNilS, e0, if_false, Bool.and_true, Bool.not_false, V.laid, V.cell, V.cells, decide_true, if_true, Nat.reduceBEq, flat_Instr, Bool.or_true, lose, V.forget, V.drop1, beq_iff_eq, V.ref0, V.refs, not_false_eq_true, and_self, Bool.or_false, cond_true, oneOr, finV, finA, finC, hNew, V.newR, V.new1, D.flat, viewD, Nat.le_refl]

theorem ev_clone17 (K : Cx) (l : List Shape) (h : l ≠ []) (hl : l.length ≤ 100000) : runFun K f17 [.d false (.sl 2 (l.map eShape))] [] = some (.d true (.sl 2 (l.map eShape)), [], []) := by
  cases l with
  | nil => exact absurd rfl h
  | cons x l =>
    clear h
    generalize hL : x :: l = L at *
    have h0 : 0 < L.length := by rw [← hL]; simp
    have e0 : (L.map eShape).isEmpty = false := by rw [← hL]; rfl
    clear hL
    simp (disch := first | decide | omega | (simp only [LN]; omega) | (simp only [LN]; done) | fail) only [SV, f17, Nat.zero_add, Bool.and_self, beq_self_eq_true, evEqs, Bool.false_eq_true, cellsEq, cellEq, V.isNilS, e0, if_false, Bool.and_true, Bool.not_false, V.laid, V.cell, V.cells, decide_true, if_true, Nat.reduceBEq, flat_Shape, Bool.or_true, lose, V.forget, V.drop1, beq_iff_eq, V.ref0, V.refs, not_false_eq_true, and_self, Bool.or_false, cond_true, oneOr, finV, finA, finC, hNew, V.newR, V.new1, D.flat, viewD, Nat.le_refl]

theorem ev_shapes (K : Cx) : runFun K f14 [] [] = some (.bsl 0 0 7, [.dat true 2 (givenS.map eShape)], []) := by
  simp (disch := first | decide | omega | (simp only [LN]; omega) | (simp only [LN]; done) | fail) only [SV, f14, Bool.and_self, evSet, V.laid, V.cell, V.cells, Nat.zero_add, beq_self_eq_true, Nat.reduceAdd, decide_true, if_true, Nat.le_refl, asD, V.new1, D.flat, Bool.or_true, V.refs, not_false_eq_true, and_self, Bool.or_false, cond_true, oneOr, finV, finA, finC, hNew, V.forget, V.drop1, beq_iff_eq, V.ref0, Bool.not_true, Bool.false_eq_true, if_false, V.newR, viewD, givenS, eShape_eq]

end Go.Vm
end

section
namespace Go.Vm
/- 'sloth/slothlaw19.same' -/
def f10_L0 : C :=
 (.seq
  (.seq
   (.reg [⟨[], [(28, (.bin .lss (.sl 5) (.len false (.ld 1 false (.fa 0 (.sl 2))))))], [], none, [2, 3, 5], 5, [], [], []⟩])
   (.cond (.sl 28)
    .skip
    (.seq
     (.tidy 0 [2, 3])
     (.exit 0))))
  (.seq
   (.block 1
    (.seq
     (.reg [⟨[], [(41, (.eqs true true [2, 0] (.ld 2 true (.ia 2 (.ld 1 false (.fa 0 (.sl 2))) (.sl 5))) (.ld 2 true (.ia 2 (.ld 1 false (.fa 0 (.sl 3))) (.sl 5)))))], [], none, [2, 3, 5], 11, [[], [0], [], [2, 0, 1], [1, 0, 2, 3], [], [5], [], [7, 5, 6], [6, 5, 7, 8], [8, 7, 5, 6, 9, 3, 2, 0, 1, 4]], [], []⟩])
     (.cond (.sl 41)
      (.seq
       (.reg [⟨[], [(4, (.bool false))], [], none, [], 1, [], [], []⟩])
       (.seq
        (.tidy 0 [4])
        .ret))
      .skip)))
   (.reg [⟨[], [(5, (.bin .add (.sl 5) (.int .i64 1)))], [], none, [2, 3], 3, [], [], []⟩])))
def f10_L1 : C :=
 (.seq
  (.seq
   (.reg [⟨[], [(46, (.bin .lss (.sl 6) (.len false (.ld 1 false (.fa 1 (.sl 2))))))], [], none, [2, 3, 6], 5, [], [], []⟩])
   (.cond (.sl 46)
    .skip
    (.seq
     (.tidy 0 [])
     (.exit 2))))
  (.seq
   (.block 3
    (.seq
     (.reg [⟨[], [(7, (.call 13 (.cons (.ld 1 false (.fa 2 (.ia 3 (.ld 1 false (.fa 1 (.sl 2))) (.sl 6)))) (.cons (.ld 1 false (.fa 2 (.ia 3 (.ld 1 false (.fa 1 (.sl 3))) (.sl 6)))) .nil))))], [], none, [2, 3, 6], 14, [[], [0], [], [2, 0, 1], [1, 0, 2, 3], [3, 2, 0, 1, 4], [], [6], [], [8, 6, 7], [7, 6, 8, 9], [9, 8, 6, 7, 10], [10, 7, 6, 8, 9, 11, 4, 1, 0, 2, 3, 5], [5, 3, 2, 0, 1, 4, 11, 9, 8, 6, 7, 10, 12]], [], []⟩])
     (.seq
      (.reg [⟨[], [(93, (.or (.or (.bin .neq (.ld 1 false (.fa 0 (.ia 3 (.ld 1 false (.fa 1 (.sl 2))) (.sl 6)))) (.ld 1 false (.fa 0 (.ia 3 (.ld 1 false (.fa 1 (.sl 3))) (.sl 6))))) (.bin .neq (.ld 1 false (.fa 1 (.ia 3 (.ld 1 false (.fa 1 (.sl 2))) (.sl 6)))) (.ld 1 false (.fa 1 (.ia 3 (.ld 1 false (.fa 1 (.sl 3))) (.sl 6)))))) (.un .not (.sl 7))))], [], none, [2, 3, 6], 32, [[], [0], [], [2, 0, 1], [1, 0, 2, 3], [3, 2, 0, 1, 4], [], [6], [], [8, 6, 7], [7, 6, 8, 9], [9, 8, 6, 7, 10], [10, 7, 6, 8, 9, 11, 4, 1, 0, 2, 3, 5], [5, 3, 2, 0, 1, 4, 11, 9, 8, 6, 7, 10, 12], [12, 10, 7, 6, 8, 9, 11, 4, 1, 0, 2, 3, 5, 13], [13, 5, 3, 2, 0, 1, 4, 11, 9, 8, 6, 7, 10, 12, 14], [12, 10, 7, 6, 8, 9, 11, 4, 1, 0, 2, 3, 5, 13], [16, 14, 12, 10, 7, 6, 8, 9, 11, 4, 1, 0, 2, 3, 5, 13, 15], [15, 13, 5, 3, 2, 0, 1, 4, 11, 9, 8, 6, 7, 10, 12, 14, 16, 17], [17, 16, 14, 12, 10, 7, 6, 8, 9, 11, 4, 1, 0, 2, 3, 5, 13, 15, 18], [12, 10, 7, 6, 8, 9, 11, 4, 1, 0, 2, 3, 5, 13], [13, 5, 3, 2, 0, 1, 4, 11, 9, 8, 6, 7, 10, 12, 20], [12, 10, 7, 6, 8, 9, 11, 4, 1, 0, 2, 3, 5, 13], [22, 20, 12, 10, 7, 6, 8, 9, 11, 4, 1, 0, 2, 3, 5, 13, 21], [21, 13, 5, 3, 2, 0, 1, 4, 11, 9, 8, 6, 7, 10, 12, 20, 22, 23], [23, 22, 20, 12, 10, 7, 6, 8, 9, 11, 4, 1, 0, 2, 3, 5, 13, 21, 24], [24, 21, 20, 22, 23, 25, 18, 15, 13, 5, 3, 2, 0, 1, 4, 11, 9, 8, 6, 7, 10, 12, 14, 16, 17, 19], [19, 17, 16, 14, 15, 18, 25, 23, 22, 20, 21, 24, 26, 12, 10, 7, 6, 8, 9, 11, 4, 1, 0, 2, 3, 5, 13], [13, 5, 3, 2, 0, 1, 4, 11, 9, 8, 6, 7, 10, 12, 26, 24, 21, 20, 22, 23, 25, 18, 15, 14, 16, 17, 19, 27], [27, 19, 17, 16, 14, 15, 18, 25, 23, 22, 20, 21, 24, 26, 12, 10, 7, 6, 8, 9, 11, 4, 1, 0, 2, 3, 5, 13, 28], [28, 13, 5, 3, 2, 0, 1, 4, 11, 9, 8, 6, 7, 10, 12, 26, 24, 21, 20, 22, 23, 25, 18, 15, 14, 16, 17, 19, 27, 29], [29, 30, 27, 19, 17, 16, 14, 15, 18, 25, 23, 22, 20, 21, 24, 26, 12, 10, 7, 6, 8, 9, 11, 4, 1, 0, 2, 3, 5, 13, 28]], [], []⟩])
      (.cond (.sl 93)
       (.seq
        (.reg [⟨[], [(4, (.bool false))], [], none, [], 1, [], [], []⟩])
        (.seq
         (.tidy 0 [4])
         .ret))
       .skip))))
   (.reg [⟨[], [(6, (.bin .add (.sl 6) (.int .i64 1)))], [], none, [2, 3], 3, [], [], []⟩])))
def f10 : Fun := ⟨
 (.seq
  (.reg [⟨[(2, .box (.sl 0)), (3, .box (.sl 1))], [], [(.bool false)], none, [2, 3], 3, [], [], []⟩])
  (.seq
   (.seq
    (.reg [⟨[], [(23, (.or (.bin .neq (.len false (.ld 1 false (.fa 0 (.sl 2)))) (.len false (.ld 1 false (.fa 0 (.sl 3))))) (.bin .neq (.len false (.ld 1 false (.fa 1 (.sl 2)))) (.len false (.ld 1 false (.fa 1 (.sl 3)))))))], [], none, [2, 3], 16, [], [], []⟩])
    (.cond (.sl 23)
     (.seq
      (.reg [⟨[], [(4, (.bool false))], [], none, [], 1, [], [], []⟩])
      (.seq
       (.tidy 0 [4])
       .ret))
     .skip))
   (.seq
    (.seq
     (.reg [⟨[], [(5, (.int .i64 0))], [], none, [2, 3], 1, [], [], []⟩])
     (.block 0
      (.seq (.tidy 0 [2, 3, 5]) (.loop (.seq (.tidy 0 [2, 3, 5]) f10_L0)))))
    (.seq
     (.seq
      (.reg [⟨[], [(6, (.int .i64 0))], [], none, [2, 3], 1, [], [], []⟩])
      (.block 2
       (.seq (.tidy 0 [2, 3, 6]) (.loop (.seq (.tidy 0 [2, 3, 6]) f10_L1)))))
     (.seq
      (.reg [⟨[], [(4, (.bool true))], [], none, [], 1, [], [], []⟩])
      (.seq
       (.tidy 0 [4])
       .ret)))))),
 [(.sl 4)], false⟩
theorem f10_ok : funOk Go.Proofs.Try.prog 10 0 2 f10 = true := by kernel_rfl


def tabV (c c' : Bool) (t : Table) : V := .agg [.d c (.sl 2 (t.shapes.map eShape)), .d c' (.sl 3 (t.globals.map eGlob))]
def K13 (K : Cx) : Prop := ∀ a b : List Instr, (a.length : Int) ≤ 9223372036854775807 → K.call 13 [.d false (.sl 3 (a.map eInstr)), .d false (.sl 3 (b.map eInstr))] = some (.d false (.bool (decide (a = b))), [])

def saOut (e : Ex) (s : S) (r : Bool) : Ex × S := if r then (e, s) else (.ret, ⟨[(4, .d false (.bool false))], [], 0, []⟩)
theorem saOut_t (e s) : saOut e s true = (e, s) := rfl
theorem saOut_f (e s) : saOut e s false = (.ret, ⟨[(4, .d false (.bool false))], [], 0, []⟩) := rfl

theorem same_l0 (K : Cx) (t u : Table) (hab : t.shapes.length = u.shapes.length) (hl : (t.shapes.length : Int) ≤ 9223372036854775807) : ∀ (k i : Nat), i + k = t.shapes.length →
    lp K 0 [2, 3, 5] f10_L0 ⟨[(2, .ptr 0 0 0), (3, .ptr 1 0 0), (5, .d false (.int .i64 i))], [(0, .mix 2 [[.d false (.sl 2 (t.shapes.map eShape)), .d false (.sl 3 (t.globals.map eGlob))]]), (1, .mix 2 [[.d false (.sl 2 (u.shapes.map eShape)), .d false (.sl 3 (u.globals.map eGlob))]])], 2, []⟩ =
    some (saOut (.exit 0) ⟨[(2, .ptr 0 0 0), (3, .ptr 1 0 0)], [(0, .mix 2 [[.d false (.sl 2 (t.shapes.map eShape)), .d false (.sl 3 (t.globals.map eGlob))]]), (1, .mix 2 [[.d false (.sl 2 (u.shapes.map eShape)), .d false (.sl 3 (u.globals.map eGlob))]])], 2, []⟩ (decide (t.shapes.drop i = u.shapes.drop i))) := by
  intro k
  induction k with
  | zero =>
    intro i hi
    rw [lp_un f10_L0.eq_1, List.drop_of_length_le (by omega), List.drop_of_length_le (by omega)]
    simp only [decide_true, saOut_t]
    simp (disch := first | decide | omega | (simp only [LN]; omega) | (simp only [LN]; done) | fail) only [SV, Nat.reduceBEq, beq_self_eq_true, evFa, Nat.add_zero, List.getElem?_cons_zero, evLen, evBin, intBin, decide_false, if_true, V.refs, Bool.or_self, reduceCtorEq, or_self, not_false_eq_true, and_self, decide_true, Bool.and_self, Bool.or_false, Bool.or_true, cond_false, cond_true, Nat.zero_add, Nat.reduceAdd]
  | succ k ih =>
    intro i hi
    have hcast : ((i + 1 : Nat) : Int) = (i : Int) + 1 := by omega
    have ih := ih (i + 1) (by omega)
    rw [hcast] at ih
    rw [lp_un f10_L0.eq_1, drop_nth (by omega : i < t.shapes.length), drop_nth (by omega : i < u.shapes.length)]
    generalize hx : nth t.shapes (i : Int) = x
    generalize hy : nth u.shapes (i : Int) = y
    by_cases e : x = y
    · subst e
      rw [show decide (x :: t.shapes.drop (i + 1) = x :: u.shapes.drop (i + 1)) = decide (t.shapes.drop (i + 1) = u.shapes.drop (i + 1)) by simp]
      simp (disch := first | decide | omega | (simp only [LN]; omega) | (simp only [LN]; done) | fail) only [SV, Nat.reduceBEq, beq_self_eq_true, evFa, Nat.add_zero, List.getElem?_cons_zero, evLen, evBin, intBin, decide_true, if_true, hx, eShape_eq, D.flat, Nat.zero_add, Nat.reduceAdd, Nat.le_refl, hy, evEqs, cellsEq, cellEq, Bool.and_self, Bool.not_true, V.refs, Bool.or_self, reduceCtorEq, or_self, not_false_eq_true, and_self, Bool.or_false, Bool.or_true, cond_false, cond_true]
      exact ih
    · have hd : decide (x :: t.shapes.drop (i + 1) = y :: u.shapes.drop (i + 1)) = false := by simp [e]
      rw [hd, saOut_f]
      by_cases e1 : x.name = y.name
      · have e2 : (x.fields == y.fields) = false := by
          simp only [beq_eq_false_iff_ne]; intro e3; apply e; cases x; cases y; simp_all
        have e1 : (x.name == y.name) = true := by simpa using e1
        simp (disch := first | decide | omega | (simp only [LN]; omega) | (simp only [LN]; done) | fail) only [SV, Nat.reduceBEq, beq_self_eq_true, evFa, Nat.add_zero, List.getElem?_cons_zero, evLen, evBin, intBin, decide_true, if_true, hx, eShape_eq, D.flat, Nat.zero_add, Nat.reduceAdd, Nat.le_refl, hy, evEqs, cellsEq, cellEq, e2, Bool.and_true, Bool.and_false, Bool.not_false, V.refs, Bool.and_self]
      · have e1 : decide (x.name = y.name) = false := by simpa using e1
        simp (disch := first | decide | omega | (simp only [LN]; omega) | (simp only [LN]; done) | fail) only [SV, Nat.reduceBEq, beq_self_eq_true, evFa, Nat.add_zero, List.getElem?_cons_zero, evLen, evBin, intBin, decide_true, if_true, hx, eShape_eq, D.flat, Nat.zero_add, Nat.reduceAdd, Nat.le_refl, hy, evEqs, cellsEq, cellEq, e1, Bool.and_true, Bool.false_and, Bool.not_false, V.refs, Bool.and_self]

theorem same_l1 (K : Cx) (h13 : K13 K) (t u : Table) (hab : t.globals.length = u.globals.length) (hl : (t.globals.length : Int) ≤ 9223372036854775807) (hb : ∀ g ∈ t.globals, (g.code.length : Int) ≤ 9223372036854775807) : ∀ (k i : Nat), i + k = t.globals.length →
    lp K 0 [2, 3, 6] f10_L1 ⟨[(2, .ptr 0 0 0), (3, .ptr 1 0 0), (6, .d false (.int .i64 i))], [(0, .mix 2 [[.d false (.sl 2 (t.shapes.map eShape)), .d false (.sl 3 (t.globals.map eGlob))]]), (1, .mix 2 [[.d false (.sl 2 (u.shapes.map eShape)), .d false (.sl 3 (u.globals.map eGlob))]])], 2, []⟩ =
    some (saOut (.exit 2) ⟨[], [], 0, []⟩ (decide (t.globals.drop i = u.globals.drop i))) := by
  intro k
  induction k with
  | zero =>
    intro i hi
    rw [lp_un f10_L1.eq_1, List.drop_of_length_le (by omega), List.drop_of_length_le (by omega)]
    simp only [decide_true, saOut_t]
    simp (disch := first | decide | omega | (simp only [LN]; omega) | (simp only [LN]; done) | fail) only [SV, Nat.reduceBEq, beq_self_eq_true, evFa, Nat.zero_add, List.getElem?_cons_zero, evLen, evBin, intBin, decide_false, if_true, decide_true, Bool.and_self]
  | succ k ih =>
    intro i hi
    have hcast : ((i + 1 : Nat) : Int) = (i : Int) + 1 := by omega
    have ih := ih (i + 1) (by omega)
    rw [hcast] at ih
    rw [lp_un f10_L1.eq_1, drop_nth (by omega : i < t.globals.length), drop_nth (by omega : i < u.globals.length)]
    have hm := hb _ (nth_mem (l := t.globals) (i := (i : Int)) (by omega) (by omega))
    generalize hx : nth t.globals (i : Int) = x at hm
    generalize hy : nth u.globals (i : Int) = y
    have c0 := h13 x.code y.code hm
    clear hb
    by_cases e : x = y
    · subst e
      rw [show decide (x :: t.globals.drop (i + 1) = x :: u.globals.drop (i + 1)) = decide (t.globals.drop (i + 1) = u.globals.drop (i + 1)) by simp]
      simp only [decide_true] at c0
      simp (disch := first | decide | omega | (simp only [LN]; omega) | (simp only [LN]; done) | fail) only [SV, Nat.reduceBEq, beq_self_eq_true, evFa, Nat.zero_add, List.getElem?_cons_zero, evLen, evBin, intBin, decide_true, if_true, hx, eGlob_eq, D.flat, Bool.false_eq_true, if_false, hy, V.own, V.own1, Bool.or_self, V.new, V.new1, Bool.and_true, Bool.and_self, V.flatV, V.flat1, Bool.not_false, Bool.false_and, view, viewD, c0, Bool.or_true, Bool.not_true, strBin, bne_self_eq_false, evUn, V.refs, reduceCtorEq, or_self, not_false_eq_true, and_self, Bool.or_false, cond_false, cond_true, Nat.reduceAdd]
      exact ih
    · have hd : decide (x :: t.globals.drop (i + 1) = y :: u.globals.drop (i + 1)) = false := by simp [e]
      rw [hd, saOut_f]
      by_cases e3 : x.code = y.code
      · have e3' : decide (x.code = y.code) = true := by simpa using e3
        rw [e3'] at c0
        by_cases e1 : x.name = y.name
        · have e2 : (x.arity != y.arity) = true := by
            simp only [bne_iff_ne, ne_eq]; intro e4; apply e; cases x; cases y; simp_all
          have e1 : decide (x.name = y.name) = true := by simpa using e1
          clear e3 e3'
          simp (disch := first | decide | omega | (simp only [LN]; omega) | (simp only [LN]; done) | fail) only [SV, Nat.reduceBEq, beq_self_eq_true, evFa, Nat.zero_add, List.getElem?_cons_zero, evLen, evBin, intBin, decide_true, if_true, hx, eGlob_eq, D.flat, Bool.false_eq_true, if_false, hy, V.own, V.own1, Bool.or_self, V.new, V.new1, Bool.and_true, Bool.and_self, V.flatV, V.flat1, Bool.not_false, Bool.false_and, view, viewD, c0, Bool.or_true, Bool.not_true, strBin, e1, e2, evUn, Bool.or_false, V.refs]
        · have e1 : decide (x.name = y.name) = false := by simpa using e1
          clear e3 e3'
          simp (disch := first | decide | omega | (simp only [LN]; omega) | (simp only [LN]; done) | fail) only [SV, Nat.reduceBEq, beq_self_eq_true, evFa, Nat.zero_add, List.getElem?_cons_zero, evLen, evBin, intBin, decide_true, if_true, hx, eGlob_eq, D.flat, Bool.false_eq_true, if_false, hy, V.own, V.own1, Bool.or_self, V.new, V.new1, Bool.and_true, Bool.and_self, V.flatV, V.flat1, Bool.not_false, Bool.false_and, view, viewD, c0, Bool.or_true, Bool.not_true, strBin, e1, Bool.true_or, evUn, Bool.or_false, V.refs]
      · have e3' : decide (x.code = y.code) = false := by simpa using e3
        rw [e3'] at c0
        clear e3 e3'
        simp (disch := first | decide | omega | (simp only [LN]; omega) | (simp only [LN]; done) | fail) only [SV, Nat.reduceBEq, beq_self_eq_true, evFa, Nat.zero_add, List.getElem?_cons_zero, evLen, evBin, intBin, decide_true, if_true, hx, eGlob_eq, D.flat, Bool.false_eq_true, if_false, hy, V.own, V.own1, Bool.or_self, V.new, V.new1, Bool.and_true, Bool.and_self, V.flatV, V.flat1, Bool.not_false, Bool.false_and, view, viewD, c0, Bool.or_true, Bool.not_true, strBin, evUn, V.refs]

def sameS (t u : Table) : Bool := decide (t.shapes = u.shapes) && decide (t.globals = u.globals)
theorem ev_same (K : Cx) (h13 : K13 K) (t u : Table) (hs : (t.shapes.length : Int) ≤ 9223372036854775807) (hl : (t.globals.length : Int) ≤ 9223372036854775807) (hb : ∀ g ∈ t.globals, (g.code.length : Int) ≤ 9223372036854775807) :
    runFun K f10 [tabV false false t, tabV false false u] [] = some (.d false (.bool (sameS t u)), [], []) := by
  unfold tabV sameS
  by_cases h1 : t.shapes.length = u.shapes.length
  · have d1 : ((t.shapes.length : Int) != (u.shapes.length : Int)) = false := by simp [h1]
    by_cases h2 : t.globals.length = u.globals.length
    · have d2 : ((t.globals.length : Int) != (u.globals.length : Int)) = false := by simp [h2]
      have l0 := same_l0 K t u h1 hs t.shapes.length 0 (by omega)
      have l1 := same_l1 K h13 t u h2 hl hb t.globals.length 0 (by omega)
      simp only [Int.natCast_zero, List.drop_zero] at l0 l1
      clear h1 h2 hb
      cases e1 : decide (t.shapes = u.shapes) with
      | false =>
        rw [e1, saOut_f] at l0
        clear l1 e1
        simp only [Bool.false_and]
        simp (disch := first | decide | omega | (simp only [LN]; omega) | (simp only [LN]; done) | fail) only [SV, f10, Nat.zero_add, Nat.reduceAdd, beq_self_eq_true, V.laid, V.cells, if_true, Nat.reduceBEq, Bool.and_self, evFa, Nat.add_zero, List.getElem?_cons_zero, evLen, evBin, intBin, d1, d2, Bool.or_self, V.refs, reduceCtorEq, or_self, not_false_eq_true, and_self, decide_true, Bool.or_false, Bool.or_true, cond_false, cond_true, l0, oneOr, Bool.false_eq_true, if_false, finV, finA, finC]
      | true =>
        rw [e1, saOut_t] at l0
        clear e1
        simp only [Bool.true_and]
        cases e2 : decide (t.globals = u.globals) with
        | false =>
          rw [e2, saOut_f] at l1
          clear e2
          simp (disch := first | decide | omega | (simp only [LN]; omega) | (simp only [LN]; done) | fail) only [SV, f10, Nat.zero_add, Nat.reduceAdd, beq_self_eq_true, V.laid, V.cells, if_true, Nat.reduceBEq, Bool.and_self, evFa, Nat.add_zero, List.getElem?_cons_zero, evLen, evBin, intBin, d1, d2, Bool.or_self, V.refs, reduceCtorEq, or_self, not_false_eq_true, and_self, decide_true, Bool.or_false, Bool.or_true, cond_false, cond_true, l0, l1, oneOr, Bool.false_eq_true, if_false, finV, finA, finC]
        | true =>
          rw [e2, saOut_t] at l1
          clear e2
          simp (disch := first | decide | omega | (simp only [LN]; omega) | (simp only [LN]; done) | fail) only [SV, f10, Nat.zero_add, Nat.reduceAdd, beq_self_eq_true, V.laid, V.cells, if_true, Nat.reduceBEq, Bool.and_self, evFa, Nat.add_zero, List.getElem?_cons_zero, evLen, evBin, intBin, d1, d2, Bool.or_self, V.refs, reduceCtorEq, or_self, not_false_eq_true, and_self, decide_true, Bool.or_false, Bool.or_true, cond_false, cond_true, l0, l1, oneOr, Bool.false_eq_true, if_false, finV, finA, finC]
    · have hd : decide (t.globals = u.globals) = false := by
        simp only [decide_eq_false_iff_not]; intro h; exact h2 (by rw [h])
      have d1 : ((t.globals.length : Int) != (u.globals.length : Int)) = true := by simp; omega
      rw [hd, Bool.and_false]
      clear h2 hd h1 hb
      simp (disch := first | decide | omega | (simp only [LN]; omega) | (simp only [LN]; done) | fail) only [SV, f10, Nat.zero_add, Nat.reduceAdd, beq_self_eq_true, V.laid, V.cells, if_true, Nat.reduceBEq, Bool.and_self, evFa, Nat.add_zero, List.getElem?_cons_zero, evLen, evBin, intBin, d1, Bool.or_true, V.refs, decide_true, oneOr, Bool.false_eq_true, if_false, finV, finA, finC]
  · have hd : decide (t.shapes = u.shapes) = false := by
      simp only [decide_eq_false_iff_not]; intro h; exact h1 (by rw [h])
    have d1 : ((t.shapes.length : Int) != (u.shapes.length : Int)) = true := by simp; omega
    rw [hd, Bool.false_and]
    clear h1 hd hb
    simp (disch := first | decide | omega | (simp only [LN]; omega) | (simp only [LN]; done) | fail) only [SV, f10, Nat.zero_add, Nat.reduceAdd, beq_self_eq_true, V.laid, V.cells, if_true, Nat.reduceBEq, Bool.and_self, evFa, Nat.add_zero, List.getElem?_cons_zero, evLen, evBin, intBin, d1, Bool.true_or, V.refs, decide_true, oneOr, Bool.false_eq_true, if_false, finV, finA, finC]

end Go.Vm
end

section
namespace Go.Vm
/- 'sloth/peep.target' -/
def f55 : Fun := ⟨
 (.seq
  (.reg [⟨[(1, .box (.sl 0))], [], [(.bool false), (.int .i64 0)], none, [1], 3, [], [], []⟩])
  (.seq
   (.seq
    (.reg [⟨[], [(5, (.ld 1 false (.fa 0 (.sl 1))))], [], none, [1], 2, [], [], []⟩])
    (.block 0
     (.seq
      (.reg [⟨[], [(6, (.bin .eql (.sl 5) (.int .i64 13)))], [], none, [1, 5], 2, [], [], []⟩])
      (.cond (.sl 6)
       (.seq
        (.reg [⟨[], [(2, (.ld 1 false (.fa 1 (.sl 1)))), (3, (.bool true))], [], none, [], 4, [], [], []⟩])
        (.seq
         (.tidy 0 [2, 3])
         .ret))
       (.seq
        (.seq
         (.reg [⟨[], [(10, (.bin .eql (.sl 5) (.int .i64 14)))], [], none, [1, 5], 2, [], [], []⟩])
         (.cond (.sl 10)
          .skip
          (.reg [⟨[], [(10, (.bin .eql (.sl 5) (.int .i64 15)))], [], none, [1], 2, [], [], []⟩])))
        (.cond (.sl 10)
         (.seq
          (.reg [⟨[], [(2, (.ld 1 false (.fa 2 (.sl 1)))), (3, (.bool true))], [], none, [], 4, [], [], []⟩])
          (.seq
           (.tidy 0 [2, 3])
           .ret))
         .skip))))))
   (.seq
    (.reg [⟨[], [(2, (.int .i64 0)), (3, (.bool false))], [], none, [], 2, [], [], []⟩])
    (.seq
     (.tidy 0 [2, 3])
     .ret)))),
 [(.sl 2), (.sl 3)], false⟩
theorem f55_ok : funOk Go.Proofs.Try.prog 55 0 1 f55 = true := by kernel_rfl

/- 'sloth/peep.put$1' -/
def f56 : Fun := ⟨
 (.seq
  (.reg [⟨[], [], [(.int .i64 0)], none, [0, 1, 2, 3], 1, [], [], []⟩])
  (.seq
   (.block 0
    (.seq
     (.reg [⟨[], [(6, (.bin .leq (.sl 0) (.ld 1 false (.sl 1))))], [], none, [0, 1, 2, 3], 4, [], [], []⟩])
     (.cond (.sl 6)
      (.seq
       (.reg [⟨[], [(5, (.sl 0))], [], none, [], 2, [], [], []⟩])
       (.seq
        (.tidy 0 [5])
        .ret))
      (.seq
       (.reg [⟨[], [(11, (.bin .lss (.sl 0) (.bin .add (.ld 1 false (.sl 1)) (.ld 1 false (.sl 2)))))], [], none, [0, 1, 3], 6, [], [], []⟩])
       (.cond (.sl 11)
        (.seq
         (.reg [⟨[], [(5, (.ld 1 false (.sl 1)))], [], none, [], 2, [], [], []⟩])
         (.seq
          (.tidy 0 [5])
          .ret))
        .skip)))))
   (.seq
    (.reg [⟨[], [(5, (.bin .add (.sl 0) (.ld 1 false (.sl 3))))], [], none, [], 4, [], [], []⟩])
    (.seq
     (.tidy 0 [5])
     .ret)))),
 [(.sl 5)], false⟩
theorem f56_ok : funOk Go.Proofs.Try.prog 56 0 4 f56 = true := by kernel_rfl

/- 'sloth/peep.one' -/
def f57 : Fun := ⟨
 (.seq
  (.reg [⟨[], [], [(.bool false), (.nilsl 3)], none, [0, 1, 2, 3], 2, [], [], []⟩])
  (.seq
   (.reg [⟨[(15, .lits 3 (.cons (.set 1 1 (.sl 3) (.set 0 1 (.sl 2) (.agg (.cons (.int .i64 0) (.cons (.int .i64 0) (.cons (.int .i64 0) .nil)))))) .nil))], [(10, (.sl 0)), (11, (.sl 1))], [], none, [15], 6, [], [], []⟩, ⟨[], [(8, (.call 35 (.cons (.sl 10) (.cons (.sl 11) (.cons (.int .i64 2) (.cons (.sl 15) .nil)))))), (9, (.bool true))], [], none, [], 3, [], [], []⟩])
   (.seq
    (.tidy 0 [8, 9])
    .ret))),
 [(.sl 8), (.sl 9)], false⟩
theorem f57_ok : funOk Go.Proofs.Try.prog 57 0 4 f57 = true := by kernel_rfl


theorem ev_target (K : Cx) (o a b : Int) : runFun K f55 [.agg [.d false (.int .i64 o), .d false (.int .i64 a), .d false (.int .i64 b)]] [] = some (.tup [.d false (.int .i64 (targetS ⟨o, a, b⟩).1), .d false (.bool (targetS ⟨o, a, b⟩).2)], [], []) := by
  unfold targetS
  by_cases h1 : o = 13
  · simp (disch := first | decide | omega | (simp only [LN]; omega) | (simp only [LN]; done) | fail) only [SV, f55, h1, Nat.zero_add, beq_self_eq_true, V.laid, V.cells, Nat.reduceAdd, if_true, Nat.reduceBEq, Bool.and_self, evFa, Nat.add_zero, List.getElem?_cons_zero, evBin, intBin, V.refs, decide_true, oneOr, Bool.false_eq_true, if_false, finV, finA, finC, Int.reduceEq, or_self]
  · by_cases h2 : o = 14
    · simp (disch := first | decide | omega | (simp only [LN]; omega) | (simp only [LN]; done) | fail) only [SV, f55, h2, Nat.zero_add, beq_self_eq_true, V.laid, V.cells, Nat.reduceAdd, if_true, Nat.reduceBEq, Bool.and_self, evFa, Nat.add_zero, List.getElem?_cons_zero, evBin, intBin, V.refs, decide_true, oneOr, Bool.false_eq_true, if_false, finV, finA, finC, Int.reduceEq, or_false]
    · by_cases h3 : o = 15
      · simp (disch := first | decide | omega | (simp only [LN]; omega) | (simp only [LN]; done) | fail) only [SV, f55, h3, Nat.zero_add, beq_self_eq_true, V.laid, V.cells, Nat.reduceAdd, if_true, Nat.reduceBEq, Bool.and_self, evFa, Nat.add_zero, List.getElem?_cons_zero, evBin, intBin, V.refs, decide_true, oneOr, Bool.false_eq_true, if_false, finV, finA, finC, Int.reduceEq, or_true]
      · simp (disch := first | decide | omega | (simp only [LN]; omega) | (simp only [LN]; done) | fail) only [SV, f55, Nat.zero_add, beq_self_eq_true, V.laid, V.cells, Nat.reduceAdd, if_true, Nat.reduceBEq, Bool.and_self, evFa, Nat.add_zero, List.getElem?_cons_zero, evBin, intBin, V.refs, decide_true, oneOr, Bool.false_eq_true, if_false, finV, finA, finC, h1, h2, h3, or_self]

theorem ev_carried (K : Cx) (to p gone by_ : Int) (h1 : 0 ≤ p ∧ p ≤ 1152921504606846976) (h2 : 0 ≤ gone ∧ gone ≤ 1000) (h3 : -1000 ≤ by_ ∧ by_ ≤ 1000) (h4 : 0 ≤ to ∧ to ≤ 1152921504606846976) :
    runFun K f56 [.d false (.int .i64 to), .d false (.ptr [.int .i64 p]), .d false (.ptr [.int .i64 gone]), .d false (.ptr [.int .i64 by_])] [] = some (.d false (.int .i64 (if to ≤ p then to else if to < p + gone then p else to + by_)), [], []) := by
  by_cases g1 : to ≤ p
  · simp (disch := first | decide | omega | (simp only [LN]; omega) | (simp only [LN]; done) | fail) only [SV, f56, Nat.zero_add, Nat.reduceAdd, Bool.and_self, beq_self_eq_true, Nat.reduceBEq, D.flat, if_true, evBin, intBin, decide_true, V.refs, oneOr, Bool.false_eq_true, if_false, finV, finA, finC]
  · by_cases g2 : to < p + gone
    · simp (disch := first | decide | omega | (simp only [LN]; omega) | (simp only [LN]; done) | fail) only [SV, f56, Nat.zero_add, Nat.reduceAdd, Bool.and_self, beq_self_eq_true, Nat.reduceBEq, D.flat, if_true, evBin, intBin, decide_false, decide_true, V.refs, oneOr, Bool.false_eq_true, if_false, finV, finA, finC]
    · simp (disch := first | decide | omega | (simp only [LN]; omega) | (simp only [LN]; done) | fail) only [SV, f56, Nat.zero_add, Nat.reduceAdd, Bool.and_self, beq_self_eq_true, Nat.reduceBEq, D.flat, if_true, evBin, intBin, decide_false, V.refs, decide_true, oneOr, Bool.false_eq_true, if_false, finV, finA, finC]

end Go.Vm
end

section
namespace Go.Vm
/- 'sloth/peep.put' -/
def f35_L0 : C :=
 (.seq
  (.reg [⟨[], [(47, (.bin .lss (.sl 46) (.sl 45)))], [], none, [10, 11, 44, 45, 46], 1, [], [], []⟩])
  (.seq
   (.cond (.sl 47)
    .skip
    (.seq
     (.tidy 0 [11])
     (.exit 0)))
   (.seq
    (.block 1
     (.seq
      (.reg [⟨[(13, .box (.agg (.cons (.int .i64 0) (.cons (.int .i64 0) (.cons (.int .i64 0) .nil)))))], [(12, (.sl 46))], [], some (none, .store 3 (.sl 13) (.ld 3 true (.ia 3 (.sl 44) (.sl 46)))), [10, 11, 13, 44, 45, 46], 6, [], [], []⟩])
      (.seq
       (.reg [⟨[], [(52, (.ld 1 false (.fa 0 (.sl 13))))], [], none, [10, 11, 12, 13, 44, 45, 46], 2, [], [], []⟩])
       (.block 2
        (.seq
         (.reg [⟨[], [(53, (.bin .eql (.sl 52) (.int .i64 13)))], [], none, [10, 11, 12, 13, 44, 45, 46, 52], 2, [], [], []⟩])
         (.cond (.sl 53)
          (.reg [⟨[], [], [], some (none, .store 1 (.fa 1 (.ia 3 (.sl 11) (.sl 12))) (.callv (.sl 10) (.cons (.ld 1 false (.fa 1 (.sl 13))) .nil))), [10, 11, 44, 45, 46], 9, [], [], []⟩])
          (.seq
           (.seq
            (.reg [⟨[], [(63, (.bin .eql (.sl 52) (.int .i64 14)))], [], none, [10, 11, 12, 13, 44, 45, 46, 52], 2, [], [], []⟩])
            (.cond (.sl 63)
             .skip
             (.reg [⟨[], [(63, (.bin .eql (.sl 52) (.int .i64 15)))], [], none, [10, 11, 12, 13, 44, 45, 46], 2, [], [], []⟩])))
           (.cond (.sl 63)
            (.reg [⟨[], [], [], some (none, .store 1 (.fa 2 (.ia 3 (.sl 11) (.sl 12))) (.callv (.sl 10) (.cons (.ld 1 false (.fa 2 (.sl 13))) .nil))), [10, 11, 44, 45, 46], 9, [], [], []⟩])
            .skip))))))))
    (.reg [⟨[], [(46, (.bin .add (.sl 46) (.int .i64 1)))], [], none, [10, 11, 44, 45], 2, [], [], []⟩]))))
def f35 : Fun := ⟨
 (.seq
  (.reg [⟨[(5, .box (.sl 1)), (6, .box (.sl 2))], [], [(.nilsl 3)], none, [0, 3, 5, 6], 3, [], [], []⟩])
  (.seq
   (.reg [⟨[(9, .box (.int .i64 0))], [], [], some (none, .store 1 (.sl 9) (.bin .sub (.len false (.sl 3)) (.ld 1 false (.sl 6)))), [0, 3, 5, 6, 9], 6, [], [], []⟩])
   (.seq
    (.reg [⟨[], [(10, (.mkf 56 (.cons (.sl 5) (.cons (.sl 6) (.cons (.sl 9) .nil)))))], [], none, [0, 3, 5, 6, 9], 2, [], [], []⟩])
    (.seq
     (.reg [⟨[(23, .mks 3 (.cons (.int .i64 0) (.cons (.int .i64 0) (.cons (.int .i64 0) .nil))) (.int .i64 0) (.bin .add (.len false (.sl 0)) (.ld 1 false (.sl 9))))], [(11, (.sl 23))], [], none, [0, 3, 5, 6, 10], 6, [], [], []⟩])
     (.seq
      (.reg [⟨[], [], [], some (some 29, .app 3 (.sl 11) (.cut false false true true 3 (.sl 0) .nil (.ld 1 false (.sl 5)) (.ld 1 false (.sl 5)))), [0, 3, 5, 6, 10], 6, [], [], []⟩, ⟨[], [(11, (.sl 29))], [], none, [0, 3, 5, 6, 10], 1, [], [], []⟩])
      (.seq
       (.reg [⟨[], [], [], some (some 32, .app 3 (.sl 11) (.sl 3)), [0, 5, 6, 10], 3, [], [], []⟩, ⟨[], [(11, (.sl 32))], [], none, [0, 5, 6, 10], 1, [], [], []⟩])
       (.seq
        (.reg [⟨[], [], [], some (some 43, .app 3 (.sl 11) (.cut false true true true 3 (.sl 0) (.bin .add (.ld 1 false (.sl 5)) (.ld 1 false (.sl 6))) (.len false (.sl 0)) (.len false (.sl 0)))), [10], 11, [], [], []⟩, ⟨[], [(11, (.sl 43))], [], none, [10], 1, [], [], []⟩])
        (.seq
         (.seq
          (.reg [⟨[], [(44, (.sl 11)), (45, (.len false (.sl 11))), (46, (.int .i64 0))], [], none, [10, 11], 3, [], [], []⟩])
          (.block 0
           (.seq (.tidy 0 [10, 11, 44, 45, 46]) (.loop (.seq (.tidy 0 [10, 11, 44, 45, 46]) f35_L0)))))
         (.seq
          (.reg [⟨[], [(8, (.sl 11))], [], none, [], 2, [], [], []⟩])
          (.seq
           (.tidy 0 [8])
           .ret)))))))))),
 [(.sl 8)], false⟩
theorem f35_ok : funOk Go.Proofs.Try.prog 35 0 4 f35 = true := by kernel_rfl


def K56 (K : Cx) : Prop := ∀ (to p gone by_ : Int), 0 ≤ p ∧ p ≤ 1152921504606846976 → 0 ≤ gone ∧ gone ≤ 1000 → -1000 ≤ by_ ∧ by_ ≤ 1000 → 0 ≤ to ∧ to ≤ 1152921504606846976 → K.call 56 [.d false (.int .i64 to), .d false (.ptr [.int .i64 p]), .d false (.ptr [.int .i64 gone]), .d false (.ptr [.int .i64 by_])] = some (.d false (.int .i64 (carryS p gone by_ to)), [])

theorem put_loop (K : Cx) (p gone by_ : Int) (o : List Instr) (h1 : 0 ≤ p ∧ p ≤ 1152921504606846976) (h2 : 0 ≤ gone ∧ gone ≤ 1000) (h3 : -1000 ≤ by_ ∧ by_ ≤ 1000) (ht : ∀ x ∈ o, Tame x) (hl : o.length ≤ 200000) (h56 : K56 K) (n : Nat) (hn : n = o.length) :
    ∀ (k i : Nat), i + k = o.length → lp K 0 [10, 11, 44, 45, 46] f35_L0 ⟨[(10, .fn 56 [.ptr 0 0 0, .ptr 1 0 0, .ptr 2 0 0]), (11, .bsl 3 0 n), (44, .bsl 3 0 n), (45, .d false (.int .i64 n)), (46, .d false (.int .i64 i))],
      [(0, .mix 1 [[.d false (.int .i64 p)]]), (1, .mix 1 [[.d false (.int .i64 gone)]]), (2, .mix 1 [[.d false (.int .i64 by_)]]), (3, .dat true 3 (((o.take i).map (carryI p gone by_) ++ o.drop i).map eInstr))], 4, []⟩
      = some (.exit 0, ⟨[(11, .bsl 0 0 n)], [(0, .dat true 3 ((o.map (carryI p gone by_)).map eInstr))], 1, []⟩) := by
  subst hn
  intro k
  induction k with
  | zero =>
    intro i hi
    rw [lp_un f35_L0.eq_1]
    have e : (o.take i).map (carryI p gone by_) ++ o.drop i = o.map (carryI p gone by_) := by
      rw [List.take_of_length_le (by omega), List.drop_of_length_le (by omega)]; simp
    rw [e]
    simp (disch := first | decide | omega | (simp only [LN]; omega) | (simp only [LN]; done) | fail) only [SV, Nat.reduceBEq, beq_self_eq_true, evBin, intBin, decide_false, if_true, V.refs, not_false_eq_true, and_self, decide_true, Bool.and_self, Bool.or_false, cond_true, Nat.zero_add]
  | succ k ih =>
    intro i hi
    rw [lp_un f35_L0.eq_1]
    have hlt : i < o.length := by omega
    have hx := ht (nth o i) (by rw [← nth_getElem (n := (i : Int)) (by simpa using hlt)]; exact List.getElem_mem _)
    have hnx := nth_prefix (carryI p gone by_) o i hlt
    have hst := set_map_prefix (carryI p gone by_) o i hlt
    have hlen : ((o.take i).map (carryI p gone by_) ++ o.drop i).length = o.length := by simp; omega
    have ih := ih (i + 1) (by omega)
    generalize hb : (o.take i).map (carryI p gone by_) ++ o.drop i = B at hnx hst hlen
    have hcast : ((i + 1 : Nat) : Int) = (i : Int) + 1 := by omega
    rw [hcast, ← hst] at ih
    have hB : i < B.length := by omega
    unfold Tame at hx
    by_cases g1 : (nth o i).op = 13
    · have hx1 := hx.1 g1
      rw [show carryI p gone by_ (nth o i) = ⟨(nth o i).op, carryS p gone by_ (nth o i).a, (nth o i).b⟩ by simp [carryI, g1]] at ih
      have hc := h56 (nth o i).a p gone by_ h1 h2 h3 hx1
      simp (disch := first | decide | omega | (simp only [LN]; omega) | (simp only [LN]; done) | fail) only [SV, Nat.reduceBEq, beq_self_eq_true, evBin, intBin, decide_true, if_true, V.laid, V.cells, Nat.zero_add, Nat.reduceAdd, Int.toNat_natCast, hnx, eInstr_eq, g1, D.flat, Nat.le_refl, Bool.and_self, lose, evFa, Nat.add_zero, List.getElem?_cons_zero, V.own, V.own1, Bool.or_false, Bool.or_self, Bool.or_true, V.new, V.new1, Bool.and_true, Bool.and_false, V.flatV, V.flat1, Bool.not_false, Bool.false_and, view, viewD, hc, Bool.not_true, Bool.false_eq_true, if_false, V.cell, asD, fInstrS, V.refs, reduceCtorEq, or_self, not_false_eq_true, Nat.reduceEqDiff, and_self, cond_false, cond_true]
      rw [g1] at ih
      exact ih
    · by_cases g2 : (nth o i).op = 14
      · have hx1 := hx.2 (.inl g2)
        rw [show carryI p gone by_ (nth o i) = ⟨(nth o i).op, (nth o i).a, carryS p gone by_ (nth o i).b⟩ by simp [carryI, g2]] at ih
        have hc := h56 (nth o i).b p gone by_ h1 h2 h3 hx1
        simp (disch := first | decide | omega | (simp only [LN]; omega) | (simp only [LN]; done) | fail) only [SV, Nat.reduceBEq, beq_self_eq_true, evBin, intBin, decide_true, if_true, V.laid, V.cells, Nat.zero_add, Nat.reduceAdd, Int.toNat_natCast, hnx, eInstr_eq, g2, D.flat, Nat.le_refl, Bool.and_self, lose, evFa, Nat.add_zero, List.getElem?_cons_zero, V.own, V.own1, Bool.or_false, Bool.or_self, Bool.or_true, V.new, V.new1, Bool.and_true, Bool.and_false, V.flatV, V.flat1, Bool.not_false, Bool.false_and, view, viewD, hc, Bool.not_true, Bool.false_eq_true, if_false, V.cell, asD, fInstrS, V.refs, reduceCtorEq, or_self, not_false_eq_true, Nat.reduceEqDiff, and_self, cond_false, cond_true]
        rw [g2] at ih
        exact ih
      · by_cases g3 : (nth o i).op = 15
        · have hx1 := hx.2 (.inr g3)
          rw [show carryI p gone by_ (nth o i) = ⟨(nth o i).op, (nth o i).a, carryS p gone by_ (nth o i).b⟩ by simp [carryI, g3]] at ih
          have hc := h56 (nth o i).b p gone by_ h1 h2 h3 hx1
          simp (disch := first | decide | omega | (simp only [LN]; omega) | (simp only [LN]; done) | fail) only [SV, Nat.reduceBEq, beq_self_eq_true, evBin, intBin, decide_true, if_true, V.laid, V.cells, Nat.zero_add, Nat.reduceAdd, Int.toNat_natCast, hnx, eInstr_eq, g3, D.flat, Nat.le_refl, Bool.and_self, lose, evFa, Nat.add_zero, List.getElem?_cons_zero, V.own, V.own1, Bool.or_false, Bool.or_self, Bool.or_true, V.new, V.new1, Bool.and_true, Bool.and_false, V.flatV, V.flat1, Bool.not_false, Bool.false_and, view, viewD, hc, Bool.not_true, Bool.false_eq_true, if_false, V.cell, asD, fInstrS, V.refs, reduceCtorEq, or_self, not_false_eq_true, Nat.reduceEqDiff, and_self, cond_false, cond_true]
          rw [g3] at ih
          exact ih
        · rw [show carryI p gone by_ (nth o i) = nth o i by simp [carryI, g1, g2, g3]] at ih
          have hself : B.set i (nth o i) = B := by
            rw [← hnx]
            apply List.ext_getElem?
            intro j
            rw [List.getElem?_set]
            split
            · rename_i hj; subst hj
              have := nth_get? (l := B) (n := (i : Int)) (by simpa using hB)
              simp only [Int.toNat_natCast] at this
              exact this.symm
            · rfl
          rw [hself] at ih
          simp (disch := first | decide | omega | (simp only [LN]; omega) | (simp only [LN]; done) | fail) only [SV, Nat.reduceBEq, beq_self_eq_true, evBin, intBin, decide_true, if_true, V.laid, V.cells, Nat.zero_add, Nat.reduceAdd, Int.toNat_natCast, hnx, eInstr_eq, D.flat, Nat.le_refl, Bool.and_self, lose, evFa, Nat.add_zero, List.getElem?_cons_zero, V.refs, Bool.or_self, Bool.or_false, Bool.or_true, reduceCtorEq, or_self, not_false_eq_true, Nat.reduceEqDiff, and_self, cond_false, cond_true]
          exact ih

theorem ev_put (K : Cx) (l more : List Instr) (p gone : Int) (h1 : 0 ≤ p ∧ 0 ≤ gone ∧ p + gone ≤ l.length) (hg : gone ≤ 1000) (hl : l.length ≤ 100000) (hm : more.length ≤ 10) (hcap : gone ≤ l.length + more.length)
   (ht : ∀ x ∈ l, Tame x) (ht2 : ∀ x ∈ more, Tame x) (h56 : K56 K) :
   runFun K f35 [.d false (.sl 3 (l.map eInstr)), .d false (.int .i64 p), .d false (.int .i64 gone), .d false (.sl 3 (more.map eInstr))] [] = some (.d true (.sl 3 ((putS l p gone more).map eInstr)), [], []) := by
  obtain ⟨h2, h3, h4⟩ := h1
  simp (disch := first | decide | omega | (simp only [LN]; omega) | (simp only [LN]; done) | fail) only [SV, f35, Nat.zero_add, Nat.reduceAdd, Nat.reduceBEq, beq_self_eq_true, V.laid, V.cell, V.cells, if_true, Bool.and_self, evLen, List.getElem?_cons_zero, evBin, intBin, Nat.le_refl, lose, e_mkf, mkfV_tup, mkMks, asD, D.flat, and_self, Int.toNat_zero, List.replicate_zero, e_cut, o4_some, cut_hm, rows_fs, flat_Instr, Bool.or_true, V.forget, V.drop1, beq_iff_eq, V.ref0, reduceCtorEq, if_false, Nat.reduceEqDiff, Bool.or_self, Bool.false_eq_true, fApp, cut_lhm, Int.toNat_natCast, V.refs, Bool.or_false, or_self, not_false_eq_true, decide_true, cond_false, cond_true]
  have e2 : min p.toNat l.length + more.length + (l.length - (p + gone).toNat) = (l.take p.toNat ++ more ++ l.drop (p + gone).toNat).length := by simp [Nat.add_assoc]
  rw [e2]
  have hlp := put_loop K p gone (more.length - gone) (l.take p.toNat ++ more ++ l.drop (p + gone).toNat) ⟨by omega, by omega⟩ ⟨by omega, by omega⟩ ⟨by omega, by omega⟩ (fun x hx => by
    simp only [List.mem_append] at hx
    rcases hx with (hx | hx) | hx
    · exact ht x (List.mem_of_mem_take hx)
    · exact ht2 x hx
    · exact ht x (List.mem_of_mem_drop hx)) (by simp; omega) h56 _ rfl _ 0 (Nat.zero_add _)
  simp only [List.take_zero, List.map_nil, List.nil_append, List.drop_zero, Int.natCast_zero] at hlp
  rw [hlp]
  simp (disch := first | decide | omega | (simp only [LN]; omega) | (simp only [LN]; done) | fail) only [SV, List.length_append, if_true, beq_self_eq_true, V.refs, not_false_eq_true, and_self, decide_true, Bool.and_self, Bool.or_false, cond_true, Nat.zero_add, oneOr, Bool.false_eq_true, if_false, finV, finA, finC, hNew, V.forget, V.drop1, V.ref0, Bool.not_false, V.newR, V.new1, D.flat, viewD, Nat.le_refl, Prod.mk.injEq, and_true]
  rfl

end Go.Vm
end

section
namespace Go.Vm
/- 'sloth/peep.alone' -/
def f36 : Fun := ⟨
 (.seq
  (.reg [⟨[], [], [(.bool false), (.nilsl 3)], none, [0, 1], 2, [], [], []⟩])
  (.seq
   (.reg [⟨[(6, .box (.agg (.cons (.int .i64 0) (.cons (.int .i64 0) (.cons (.int .i64 0) .nil)))))], [], [], some (none, .store 3 (.sl 6) (.ld 3 true (.ia 3 (.sl 0) (.sl 1)))), [0, 1, 6], 6, [], [], []⟩])
   (.seq
    (.seq
     (.reg [⟨[], [(14, (.ld 1 false (.fa 0 (.sl 6))))], [], none, [0, 1, 6], 2, [], [], []⟩])
     (.block 0
      (.seq
       (.seq
        (.reg [⟨[], [(15, (.bin .eql (.sl 14) (.int .i64 4)))], [], none, [0, 1, 6, 14], 2, [], [], []⟩])
        (.cond (.sl 15)
         .skip
         (.seq
          (.reg [⟨[], [(15, (.bin .eql (.sl 14) (.int .i64 5)))], [], none, [0, 1, 6, 14], 2, [], [], []⟩])
          (.cond (.sl 15)
           .skip
           (.reg [⟨[], [(15, (.bin .eql (.sl 14) (.int .i64 8)))], [], none, [0, 1, 6, 14], 2, [], [], []⟩])))))
       (.cond (.sl 15)
        (.seq
         (.reg [⟨[], [(21, (.bin .eql (.ld 1 false (.fa 1 (.sl 6))) (.int .i64 0)))], [], none, [0, 1], 3, [], [], []⟩])
         (.cond (.sl 21)
          (.seq
           (.reg [⟨[], [(4, (.call 35 (.cons (.sl 0) (.cons (.sl 1) (.cons (.int .i64 1) (.cons (.nilsl 3) .nil)))))), (5, (.bool true))], [], none, [], 5, [], [], []⟩])
           (.seq
            (.tidy 0 [4, 5])
            .ret))
          .skip))
        (.seq
         (.reg [⟨[], [(25, (.bin .eql (.sl 14) (.int .i64 13)))], [], none, [0, 1, 6, 14], 2, [], [], []⟩])
         (.cond (.sl 25)
          (.seq
           (.seq
            (.reg [⟨[], [(31, (.bin .eql (.ld 1 false (.fa 1 (.sl 6))) (.bin .add (.sl 1) (.int .i64 1))))], [], none, [0, 1, 6], 5, [], [], []⟩])
            (.cond (.sl 31)
             (.seq
              (.reg [⟨[], [(4, (.call 35 (.cons (.sl 0) (.cons (.sl 1) (.cons (.int .i64 1) (.cons (.nilsl 3) .nil)))))), (5, (.bool true))], [], none, [], 5, [], [], []⟩])
              (.seq
               (.tidy 0 [4, 5])
               .ret))
             .skip))
           (.seq
            (.reg [⟨[(7, .box (.agg (.cons (.int .i64 0) (.cons (.int .i64 0) (.cons (.int .i64 0) .nil)))))], [], [], some (none, .store 3 (.sl 7) (.ld 3 true (.ia 3 (.sl 0) (.ld 1 false (.fa 1 (.sl 6)))))), [0, 1, 7], 7, [], [], []⟩])
            (.seq
             (.reg [⟨[], [(41, (.ld 1 false (.fa 0 (.sl 7))))], [], none, [0, 1, 7], 2, [], [], []⟩])
             (.block 1
              (.seq
               (.seq
                (.reg [⟨[], [(42, (.bin .eql (.sl 41) (.int .i64 13)))], [], none, [0, 1, 7, 41], 2, [], [], []⟩])
                (.cond (.sl 42)
                 .skip
                 (.seq
                  (.reg [⟨[], [(42, (.bin .eql (.sl 41) (.int .i64 16)))], [], none, [0, 1, 7, 41], 2, [], [], []⟩])
                  (.cond (.sl 42)
                   .skip
                   (.reg [⟨[], [(42, (.bin .eql (.sl 41) (.int .i64 17)))], [], none, [0, 1, 7], 2, [], [], []⟩])))))
               (.cond (.sl 42)
                (.seq
                 (.reg [⟨[(49, .lits 3 (.cons (.ld 3 true (.sl 7)) .nil))], [(46, (.sl 0)), (47, (.sl 1))], [], none, [49], 4, [], [], []⟩, ⟨[], [(4, (.call 35 (.cons (.sl 46) (.cons (.sl 47) (.cons (.int .i64 1) (.cons (.sl 49) .nil)))))), (5, (.bool true))], [], none, [], 3, [], [], []⟩])
                 (.seq
                  (.tidy 0 [4, 5])
                  .ret))
                .skip))))))
          (.seq
           (.seq
            (.reg [⟨[], [(51, (.bin .eql (.sl 14) (.int .i64 14)))], [], none, [0, 1, 6, 14], 2, [], [], []⟩])
            (.cond (.sl 51)
             .skip
             (.reg [⟨[], [(51, (.bin .eql (.sl 14) (.int .i64 15)))], [], none, [0, 1, 6], 2, [], [], []⟩])))
           (.cond (.sl 51)
            (.seq
             (.reg [⟨[(8, .box (.agg (.cons (.int .i64 0) (.cons (.int .i64 0) (.cons (.int .i64 0) .nil)))))], [], [], some (none, .store 3 (.sl 8) (.ld 3 true (.ia 3 (.sl 0) (.ld 1 false (.fa 2 (.sl 6)))))), [0, 1, 6, 8], 7, [], [], []⟩])
             (.seq
              (.reg [⟨[], [(61, (.bin .eql (.ld 1 false (.fa 0 (.sl 8))) (.int .i64 13)))], [], none, [0, 1, 6, 8], 3, [], [], []⟩])
              (.cond (.sl 61)
               (.seq
                (.reg [⟨[], [], [], some (none, .store 1 (.fa 2 (.sl 6)) (.ld 1 false (.fa 1 (.sl 8)))), [0, 1, 6], 4, [], [], []⟩])
                (.seq
                 (.reg [⟨[(68, .lits 3 (.cons (.ld 3 true (.sl 6)) .nil))], [(65, (.sl 0)), (66, (.sl 1))], [], none, [68], 4, [], [], []⟩, ⟨[], [(4, (.call 35 (.cons (.sl 65) (.cons (.sl 66) (.cons (.int .i64 1) (.cons (.sl 68) .nil)))))), (5, (.bool true))], [], none, [], 3, [], [], []⟩])
                 (.seq
                  (.tidy 0 [4, 5])
                  .ret)))
               .skip)))
            .skip))))))))
    (.seq
     (.reg [⟨[], [(4, (.nilsl 3)), (5, (.bool false))], [], none, [], 2, [], [], []⟩])
     (.seq
      (.tidy 0 [4, 5])
      .ret))))),
 [(.sl 4), (.sl 5)], false⟩
theorem f36_ok : funOk Go.Proofs.Try.prog 36 0 2 f36 = true := by kernel_rfl

/- 'slices.Clip[[]sloth/api.Instr,sloth/api.Instr]' -/
def f38 : Fun := ⟨
 (.seq
  (.reg [⟨[], [], [(.nilsl 3)], none, [0], 1, [], [], []⟩])
  (.seq
   (.reg [⟨[], [(2, (.cut false false true true 3 (.sl 0) .nil (.len false (.sl 0)) (.len false (.sl 0))))], [], none, [], 7, [], [], []⟩])
   (.seq
    (.tidy 0 [2])
    .ret))),
 [(.sl 2)], false⟩
theorem f38_ok : funOk Go.Proofs.Try.prog 38 0 1 f38 = true := by kernel_rfl


def K35 (K : Cx) : Prop := ∀ (l more : List Instr) (p gone : Int), (0 ≤ p ∧ 0 ≤ gone ∧ p + gone ≤ l.length) → gone ≤ 1000 → l.length ≤ 100000 → more.length ≤ 10 → gone ≤ l.length + more.length → (∀ x ∈ l, Tame x) → (∀ x ∈ more, Tame x) →
  K.call 35 [.d false (.sl 3 (l.map eInstr)), .d false (.int .i64 p), .d false (.int .i64 gone), .d false (.sl 3 (more.map eInstr))] = some (.d true (.sl 3 ((putS l p gone more).map eInstr)), [])

theorem one_more (x : Instr) : [[D.int .i64 x.op, .int .i64 x.a, .int .i64 x.b]] = [x].map eInstr := rfl

theorem ev_one_ (K : Cx) (h35 : K35 K) (l : List Instr) (p op a : Int) (h1 : 0 ≤ p ∧ p + 2 ≤ l.length) (hl : Fit l) (hop : op ≠ 13 ∧ op ≠ 14 ∧ op ≠ 15) :
   runFun K f57 [.d false (.sl 3 (l.map eInstr)), .d false (.int .i64 p), .d false (.int .i64 op), .d false (.int .i64 a)] [] = some (.tup [.d true (.sl 3 ((putS l p 2 [⟨op, a, 0⟩]).map eInstr)), .d false (.bool true)], [], []) := by
  have hc := h35 l [⟨op, a, 0⟩] p 2 ⟨by omega, by omega, by omega⟩ (by omega) hl.len (by simp) (by simp; omega) hl.tame (by intro x hx; simp at hx; subst hx; exact ⟨fun h => absurd h hop.1, fun h => by rcases h with h | h; exact absurd h hop.2.1; exact absurd h hop.2.2⟩)
  simp only [List.map_cons, List.map_nil, eInstr_eq] at hc
  simp (disch := first | decide | omega | (simp only [LN]; omega) | (simp only [LN]; done) | fail) only [SV, f57, Nat.zero_add, Nat.reduceAdd, Bool.and_self, beq_self_eq_true, Nat.reduceBEq, evSet, V.laid, V.cell, V.cells, decide_true, if_true, asD, V.new1, D.flat, Bool.or_true, V.own, V.own1, Bool.or_false, V.new, Bool.or_self, Bool.and_true, Bool.and_false, V.flatV, V.flat1, Bool.not_false, Bool.false_and, view, viewD, Nat.le_refl, hc, Bool.not_true, Bool.false_eq_true, if_false, V.refs, oneOr, finV, finA, finC]

theorem ev_alone (K : Cx) (h35 : K35 K) (l : List Instr) (p : Nat) (h1 : p < l.length) (hl : Fit l) :
   runFun K f36 [.d false (.sl 3 (l.map eInstr)), .d false (.int .i64 p)] [] = some (ansS (aloneS l p), [], []) := by
  have hlen := hl.len
  have h0 := fun more hm => h35 l more p 1 ⟨by omega, by omega, by omega⟩ (by omega) hl.len
  have c0 := h0 [] (by simp) (by simp) (by simp; omega) hl.tame (by simp)
  simp only [List.map_nil] at c0
  have hj := hl.jmp p h1
  have ht := hl.tst p h1
  generalize hx : nth l (p : Int) = x at hj ht
  unfold aloneS
  rw [hx]
  simp only
  by_cases g4 : x.op = 4 ∨ x.op = 5 ∨ x.op = 8
  · by_cases ga : x.a = 0
    · rw [if_pos g4, if_pos ga]
      rcases g4 with g | g | g
      all_goals (simp (disch := first | decide | omega | (simp only [LN]; omega) | (simp only [LN]; done) | fail) only [SV, f36, Nat.zero_add, Nat.reduceAdd, Bool.and_self, beq_self_eq_true, Nat.reduceBEq, V.laid, V.cells, if_true, hx, eInstr_eq, g, ga, D.flat, Nat.le_refl, lose, evFa, Nat.add_zero, List.getElem?_cons_zero, evBin, intBin, V.own, V.own1, Bool.or_self, V.new, V.new1, Bool.or_true, Bool.and_true, V.flatV, V.flat1, Bool.and_false, Bool.not_false, Bool.false_and, view, viewD, c0, Bool.or_false, Bool.not_true, Bool.false_eq_true, if_false, V.refs, decide_true, oneOr, finV, finA, finC, Prod.mk.injEq, and_true]; rfl)
    · rw [if_pos g4, if_neg ga]
      rcases g4 with g | g | g
      all_goals (simp (disch := first | decide | omega | (simp only [LN]; omega) | (simp only [LN]; done) | fail) only [SV, f36, Nat.zero_add, Nat.reduceAdd, Bool.and_self, beq_self_eq_true, Nat.reduceBEq, V.laid, V.cells, if_true, hx, eInstr_eq, g, D.flat, Nat.le_refl, lose, evFa, Nat.add_zero, List.getElem?_cons_zero, evBin, intBin, V.refs, decide_true, oneOr, Bool.false_eq_true, if_false, finV, finA, finC, Prod.mk.injEq, and_true]; rfl)
  · rw [if_neg g4]
    have ⟨n4, n5, n8⟩ : x.op ≠ 4 ∧ x.op ≠ 5 ∧ x.op ≠ 8 := by omega
    by_cases g13 : x.op = 13
    · have hj := hj g13
      rw [if_pos g13]
      by_cases ga : x.a = p + 1
      · rw [if_pos ga]
        simp (disch := first | decide | omega | (simp only [LN]; omega) | (simp only [LN]; done) | fail) only [SV, f36, Nat.zero_add, Nat.reduceAdd, Bool.and_self, beq_self_eq_true, Nat.reduceBEq, V.laid, V.cells, if_true, hx, eInstr_eq, g13, ga, D.flat, Nat.le_refl, lose, evFa, Nat.add_zero, List.getElem?_cons_zero, evBin, intBin, V.own, V.own1, Bool.or_self, V.new, V.new1, Bool.or_true, Bool.and_true, V.flatV, V.flat1, Bool.and_false, Bool.not_false, Bool.false_and, view, viewD, c0, Bool.or_false, Bool.not_true, Bool.false_eq_true, if_false, V.refs, decide_true, oneOr, finV, finA, finC, Prod.mk.injEq, and_true]
        rfl
      · rw [if_neg ga]
        have hyt := hl.tame (nth l x.a) (nth_mem (by omega) (by omega))
        have c1 := h0 [nth l x.a] (by simp) (by simp) (by simp; omega) hl.tame (by intro z hz; simp at hz; subst hz; exact hyt)
        simp only [List.map_cons, List.map_nil, eInstr_eq] at c1
        generalize hy : nth l x.a = y at c1
        by_cases k1 : y.op = 13
        · simp only [k1, true_or, if_true]
          rw [k1] at c1
          simp (disch := first | decide | omega | (simp only [LN]; omega) | (simp only [LN]; done) | fail) only [SV, f36, Nat.zero_add, Nat.reduceAdd, Bool.and_self, beq_self_eq_true, Nat.reduceBEq, V.laid, V.cells, if_true, hx, eInstr_eq, g13, D.flat, Nat.le_refl, lose, evFa, Nat.add_zero, List.getElem?_cons_zero, evBin, intBin, hy, k1, V.cell, decide_true, asD, V.new1, Bool.or_true, V.own, V.own1, Bool.or_false, V.new, Bool.or_self, Bool.and_true, Bool.and_false, V.flatV, V.flat1, Bool.not_false, Bool.false_and, view, viewD, c1, Bool.not_true, Bool.false_eq_true, if_false, V.refs, oneOr, finV, finA, finC, Prod.mk.injEq, and_true]
          rfl
        · by_cases k2 : y.op = 16
          · simp only [k2, true_or, or_true, if_true]
            rw [k2] at c1
            simp (disch := first | decide | omega | (simp only [LN]; omega) | (simp only [LN]; done) | fail) only [SV, f36, Nat.zero_add, Nat.reduceAdd, Bool.and_self, beq_self_eq_true, Nat.reduceBEq, V.laid, V.cells, if_true, hx, eInstr_eq, g13, D.flat, Nat.le_refl, lose, evFa, Nat.add_zero, List.getElem?_cons_zero, evBin, intBin, hy, k2, V.cell, decide_true, asD, V.new1, Bool.or_true, V.own, V.own1, Bool.or_false, V.new, Bool.or_self, Bool.and_true, Bool.and_false, V.flatV, V.flat1, Bool.not_false, Bool.false_and, view, viewD, c1, Bool.not_true, Bool.false_eq_true, if_false, V.refs, oneOr, finV, finA, finC, Prod.mk.injEq, and_true]
            rfl
          · by_cases k3 : y.op = 17
            · simp only [k3, or_true, if_true]
              rw [k3] at c1
              simp (disch := first | decide | omega | (simp only [LN]; omega) | (simp only [LN]; done) | fail) only [SV, f36, Nat.zero_add, Nat.reduceAdd, Bool.and_self, beq_self_eq_true, Nat.reduceBEq, V.laid, V.cells, if_true, hx, eInstr_eq, g13, D.flat, Nat.le_refl, lose, evFa, Nat.add_zero, List.getElem?_cons_zero, evBin, intBin, hy, k3, V.cell, decide_true, asD, V.new1, Bool.or_true, V.own, V.own1, Bool.or_false, V.new, Bool.or_self, Bool.and_true, Bool.and_false, V.flatV, V.flat1, Bool.not_false, Bool.false_and, view, viewD, c1, Bool.not_true, Bool.false_eq_true, if_false, V.refs, oneOr, finV, finA, finC, Prod.mk.injEq, and_true]
              rfl
            · simp only [k1, k2, k3, or_self, if_false]
              simp (disch := first | decide | omega | (simp only [LN]; omega) | (simp only [LN]; done) | fail) only [SV, f36, Nat.zero_add, Nat.reduceAdd, Bool.and_self, beq_self_eq_true, Nat.reduceBEq, V.laid, V.cells, if_true, hx, eInstr_eq, g13, D.flat, Nat.le_refl, lose, evFa, Nat.add_zero, List.getElem?_cons_zero, evBin, intBin, hy, V.refs, decide_true, oneOr, Bool.false_eq_true, if_false, finV, finA, finC, Prod.mk.injEq, and_true]
              rfl
    · rw [if_neg g13]
      by_cases g1 : x.op = 14 ∨ x.op = 15
      · have ht := ht g1
        rw [if_pos g1]
        by_cases k1 : (nth l x.b).op = 13
        · rw [if_pos k1]
          have hyt := (hl.tame (nth l x.b) (nth_mem (by omega) (by omega))).1 k1
          have c1 := h0 [⟨x.op, x.a, (nth l x.b).a⟩] (by simp) (by simp) (by simp; omega) hl.tame (by intro z hz; simp at hz; subst hz; exact ⟨fun h => absurd h g13, fun _ => hyt⟩)
          simp only [List.map_cons, List.map_nil, eInstr_eq] at c1
          rcases g1 with g | g
          · rw [g] at c1 ⊢
            simp (disch := first | decide | omega | (simp only [LN]; omega) | (simp only [LN]; done) | fail) only [SV, f36, Nat.zero_add, Nat.reduceAdd, Bool.and_self, beq_self_eq_true, Nat.reduceBEq, V.laid, V.cells, if_true, hx, eInstr_eq, g, D.flat, Nat.le_refl, lose, evFa, Nat.add_zero, List.getElem?_cons_zero, evBin, intBin, k1, V.cell, decide_true, asD, V.new1, Bool.or_true, V.own, V.own1, Bool.or_false, V.new, Bool.or_self, Bool.and_true, Bool.and_false, V.flatV, V.flat1, Bool.not_false, Bool.false_and, view, viewD, c1, Bool.not_true, Bool.false_eq_true, if_false, V.refs, oneOr, finV, finA, finC, Prod.mk.injEq, and_true]
            rfl
          · rw [g] at c1 ⊢
            simp (disch := first | decide | omega | (simp only [LN]; omega) | (simp only [LN]; done) | fail) only [SV, f36, Nat.zero_add, Nat.reduceAdd, Bool.and_self, beq_self_eq_true, Nat.reduceBEq, V.laid, V.cells, if_true, hx, eInstr_eq, g, D.flat, Nat.le_refl, lose, evFa, Nat.add_zero, List.getElem?_cons_zero, evBin, intBin, k1, V.cell, decide_true, asD, V.new1, Bool.or_true, V.own, V.own1, Bool.or_false, V.new, Bool.or_self, Bool.and_true, Bool.and_false, V.flatV, V.flat1, Bool.not_false, Bool.false_and, view, viewD, c1, Bool.not_true, Bool.false_eq_true, if_false, V.refs, oneOr, finV, finA, finC, Prod.mk.injEq, and_true]
            rfl
        · rw [if_neg k1]
          rcases g1 with g | g
          · simp (disch := first | decide | omega | (simp only [LN]; omega) | (simp only [LN]; done) | fail) only [SV, f36, Nat.zero_add, Nat.reduceAdd, Bool.and_self, beq_self_eq_true, Nat.reduceBEq, V.laid, V.cells, if_true, hx, eInstr_eq, g, D.flat, Nat.le_refl, lose, evFa, Nat.add_zero, List.getElem?_cons_zero, evBin, intBin, V.refs, decide_true, oneOr, Bool.false_eq_true, if_false, finV, finA, finC, Prod.mk.injEq, and_true]
            rfl
          · simp (disch := first | decide | omega | (simp only [LN]; omega) | (simp only [LN]; done) | fail) only [SV, f36, Nat.zero_add, Nat.reduceAdd, Bool.and_self, beq_self_eq_true, Nat.reduceBEq, V.laid, V.cells, if_true, hx, eInstr_eq, g, D.flat, Nat.le_refl, lose, evFa, Nat.add_zero, List.getElem?_cons_zero, evBin, intBin, V.refs, decide_true, oneOr, Bool.false_eq_true, if_false, finV, finA, finC, Prod.mk.injEq, and_true]
            rfl
      · rw [if_neg g1]
        have ⟨n14, n15⟩ : x.op ≠ 14 ∧ x.op ≠ 15 := by omega
        simp (disch := first | decide | omega | (simp only [LN]; omega) | (simp only [LN]; done) | fail) only [SV, f36, Nat.zero_add, Nat.reduceAdd, Bool.and_self, beq_self_eq_true, Nat.reduceBEq, V.laid, V.cells, if_true, hx, eInstr_eq, D.flat, Nat.le_refl, lose, evFa, Nat.add_zero, List.getElem?_cons_zero, evBin, intBin, V.refs, decide_true, oneOr, Bool.false_eq_true, if_false, finV, finA, finC, Prod.mk.injEq, and_true]
        rfl

theorem ev_clip (K : Cx) (c : Bool) (l : List Instr) : runFun K f38 [.d c (.sl 3 (l.map eInstr))] [] = some (.fs c 3 (l.map eInstr), [], []) := by
  simp (disch := first | decide | omega | (simp only [LN]; omega) | (simp only [LN]; done) | fail) only [SV, f38, Nat.zero_add, Bool.and_self, beq_self_eq_true, e_cut, evLen, o4_some, cut_hm, Int.toNat_natCast, V.refs, decide_true, if_true, oneOr, Bool.false_eq_true, if_false, finV, finA, finC]

end Go.Vm
end

section
namespace Go.Vm
/- 'sloth/peep.look' -/
def f34_L0 : C :=
 (.seq
  (.reg [⟨[], [(23, (.bin .lss (.sl 22) (.sl 21)))], [], none, [2, 3, 20, 21, 22], 1, [], [], []⟩])
  (.seq
   (.cond (.sl 23)
    .skip
    (.seq
     (.tidy 0 [2, 3])
     (.exit 0)))
   (.seq
    (.block 1
     (.seq
      (.reg [⟨[(5, .box (.agg (.cons (.int .i64 0) (.cons (.int .i64 0) (.cons (.int .i64 0) .nil)))))], [(4, (.sl 22))], [], some (none, .store 3 (.sl 5) (.ld 3 true (.ia 3 (.sl 20) (.sl 22)))), [2, 3, 5, 20, 21, 22], 6, [], [], []⟩])
      (.seq
       (.reg [⟨[], [(6, (.ext 0 (.call 55 (.cons (.ld 3 true (.sl 5)) .nil)))), (7, (.ext 1 (.call 55 (.cons (.ld 3 true (.sl 5)) .nil))))], [], none, [2, 3, 4, 5, 20, 21, 22], 7, [], [], []⟩])
       (.seq
        (.seq
         (.reg [⟨[], [(32, (.sl 7))], [], none, [2, 3, 4, 5, 6, 7, 20, 21, 22], 1, [], [], []⟩])
         (.cond (.sl 32)
          (.reg [⟨[], [], [], some (none, .store 1 (.ia 1 (.ld 1 false (.fa 0 (.sl 3))) (.sl 6)) (.bool true)), [2, 3, 4, 5, 6, 7, 20, 21, 22], 5, [], [], []⟩])
          .skip))
        (.seq
         (.seq
          (.reg [⟨[], [(42, (.un .not (.ld 1 false (.ia 1 (.ld 1 false (.fa 1 (.sl 3))) (.sl 4)))))], [], none, [2, 3, 4, 5, 6, 7, 20, 21, 22], 6, [], [], []⟩])
          (.cond (.sl 42)
           (.seq
            (.tidy 0 [2, 3, 20, 21, 22])
            (.exit 1))
           .skip))
         (.seq
          (.seq
           (.reg [⟨[], [(43, (.sl 7))], [], none, [2, 3, 4, 5, 6, 20, 21, 22], 1, [], [], []⟩])
           (.cond (.sl 43)
            (.reg [⟨[], [], [], some (none, .store 1 (.ia 1 (.ld 1 false (.fa 1 (.sl 3))) (.sl 6)) (.bool true)), [2, 3, 4, 5, 20, 21, 22], 5, [], [], []⟩])
            .skip))
          (.seq
           (.reg [⟨[], [(60, (.and (.and (.bin .neq (.ld 1 false (.fa 0 (.sl 5))) (.int .i64 13)) (.bin .neq (.ld 1 false (.fa 0 (.sl 5))) (.int .i64 16))) (.bin .neq (.ld 1 false (.fa 0 (.sl 5))) (.int .i64 17))))], [], none, [2, 3, 4, 20, 21, 22], 13, [], [], []⟩])
           (.cond (.sl 60)
            (.reg [⟨[], [], [], some (none, .store 1 (.ia 1 (.ld 1 false (.fa 1 (.sl 3))) (.bin .add (.sl 4) (.int .i64 1))) (.bool true)), [2, 3, 20, 21, 22], 6, [], [], []⟩])
            .skip))))))))
    (.reg [⟨[], [(22, (.bin .add (.sl 22) (.int .i64 1)))], [], none, [2, 3, 20, 21], 2, [], [], []⟩]))))
def f34 : Fun := ⟨
 (.seq
  (.reg [⟨[(2, .box (.agg (.cons (.nilsl 1) (.cons (.nilsl 1) .nil))))], [], [], none, [0, 2], 1, [], [], []⟩])
  (.seq
   (.reg [⟨[(11, .mks 1 (.cons (.bool false) .nil) (.bin .add (.len false (.sl 0)) (.int .i64 1)) (.bin .add (.len false (.sl 0)) (.int .i64 1))), (15, .mks 1 (.cons (.bool false) .nil) (.bin .add (.len false (.sl 0)) (.int .i64 1)) (.bin .add (.len false (.sl 0)) (.int .i64 1))), (3, .box (.agg (.cons (.nilsl 1) (.cons (.nilsl 1) .nil))))], [], [], some (none, .store 2 (.sl 3) (.set 1 1 (.sl 15) (.set 0 1 (.sl 11) (.agg (.cons (.nilsl 1) (.cons (.nilsl 1) .nil)))))), [0, 2, 3], 11, [[], [0], [0, 1], [1, 0, 2], [], [4], [4, 5], [5, 4, 6], [6, 4, 5, 7, 2, 0, 1, 3], [], [3, 1, 0, 2, 7, 5, 4, 6, 8, 9]], [], []⟩])
   (.seq
    (.reg [⟨[], [], [], some (none, .store 1 (.ia 1 (.ld 1 false (.fa 1 (.sl 3))) (.int .i64 0)) (.bool true)), [0, 2, 3], 4, [], [], []⟩])
    (.seq
     (.seq
      (.reg [⟨[], [(20, (.sl 0)), (21, (.len false (.sl 0))), (22, (.int .i64 0))], [], none, [2, 3], 3, [], [], []⟩])
      (.block 0
       (.seq (.tidy 0 [2, 3, 20, 21, 22]) (.loop (.seq (.tidy 0 [2, 3, 20, 21, 22]) f34_L0)))))
     (.seq
      (.reg [⟨[], [], [], some (none, .store 2 (.sl 2) (.ld 2 true (.sl 3))), [2], 2, [], [], []⟩])
      (.seq
       (.tidy 0 [2])
       .ret)))))),
 [(.ld 2 true (.sl 2))], false⟩
theorem f34_ok : funOk Go.Proofs.Try.prog 34 0 1 f34 = true := by kernel_rfl


def K55 (K : Cx) : Prop := ∀ o a b : Int, K.call 55 [.agg [.d false (.int .i64 o), .d false (.int .i64 a), .d false (.int .i64 b)]] = some (.tup [.d false (.int .i64 (targetS ⟨o, a, b⟩).1), .d false (.bool (targetS ⟨o, a, b⟩).2)], [])

theorem look_loop (K : Cx) (h55 : K55 K) (l : List Instr) (hl : Fit l) : ∀ (k i : Nat) (J R : List Bool), i + k = l.length → J.length = l.length + 1 → R.length = l.length + 1 →
    lp K 0 [2, 3, 20, 21, 22] f34_L0 ⟨[(2, .ptr 0 0 0), (3, .ptr 1 0 0), (20, .d false (.sl 3 (l.map eInstr))), (21, .d false (.int .i64 l.length)), (22, .d false (.int .i64 i))],
      [(0, .mix 2 [[.fs true 1 [], .fs true 1 []]]), (1, .mix 2 [[.bsl 2 0 (l.length + 1), .bsl 3 0 (l.length + 1)]]), (2, .dat true 1 (J.map eBool)), (3, .dat true 1 (R.map eBool))], 4, []⟩
    = some (.exit 0, ⟨[(2, .ptr 0 0 0), (3, .ptr 1 0 0)], [(0, .mix 2 [[.fs true 1 [], .fs true 1 []]]), (1, .mix 2 [[.bsl 2 0 (l.length + 1), .bsl 3 0 (l.length + 1)]]), (2, .dat true 1 ((lookL l k i J R).1.map eBool)), (3, .dat true 1 ((lookL l k i J R).2.map eBool))], 4, []⟩) := by
  intro k
  have hlen := hl.len
  induction k with
  | zero =>
    intro i J R hi hJ hR
    rw [lp_un f34_L0.eq_1]
    simp (disch := first | decide | omega | (simp only [LN]; omega) | (simp only [LN]; done) | fail) only [SV, Nat.reduceBEq, beq_self_eq_true, evBin, intBin, decide_false, if_true, V.refs, Bool.or_self, reduceCtorEq, or_self, not_false_eq_true, Nat.reduceEqDiff, and_self, decide_true, Bool.and_self, Bool.or_false, Bool.or_true, cond_false, cond_true, Nat.zero_add, Nat.reduceAdd, lookL]
  | succ k ih =>
    intro i J R hi hJ hR
    rw [lp_un f34_L0.eq_1]
    have hlt : i < l.length := by omega
    have hj := hl.jmp i hlt
    have ht := hl.tst i hlt
    have hc := h55 (nth l i).op (nth l i).a (nth l i).b
    have hcast : ((i + 1 : Nat) : Int) = (i : Int) + 1 := by omega
    have ih := fun J R => ih (i + 1) J R (by omega)
    rw [hcast] at ih
    simp only [lookL]
    generalize hx : nth l (i : Int) = x at hj ht hc
    generalize hr : nth R (i : Int) = r
    have step : ∀ (o : Int) (J' : List Bool), x.op = o → True := fun _ _ _ => trivial
    by_cases g13 : x.op = 13
    · have hj := hj g13
      rw [show targetS x = (x.a, true) by simp [targetS, g13]]
      rw [show targetS ⟨x.op, x.a, x.b⟩ = (x.a, true) by simp [targetS, g13]] at hc
      simp only at hc
      cases r with
      | false =>
        have ih1 := ih (J.set x.a.toNat true) R (by simp [hJ]) hR
        rw [g13] at hc
        simp (disch := first | decide | omega | (simp only [LN]; omega) | (simp only [LN]; done) | fail) only [SV, Nat.reduceBEq, beq_self_eq_true, evBin, intBin, decide_true, if_true, V.laid, V.cells, Nat.zero_add, Nat.reduceAdd, hx, eInstr_eq, g13, D.flat, Nat.le_refl, Bool.and_self, lose, List.getElem?_cons_zero, V.own, V.own1, Bool.or_self, V.new, V.new1, Bool.or_true, V.flatV, V.flat1, Bool.not_true, Bool.and_false, Bool.false_and, view, viewD, hc, Bool.false_eq_true, if_false, evExt, List.getElem?_cons_succ, evFa, Nat.add_zero, V.cell, eBool_eq, asD, fBoolS, Int.toNat_natCast, hr, evUn, Bool.not_false, V.refs, reduceCtorEq, or_self, not_false_eq_true, Nat.reduceEqDiff, and_self, Bool.or_false, cond_false, cond_true, ne_eq, not_true_eq_false, Int.reduceEq, and_true]
        exact ih1
      | true =>
        have ih1 := ih (J.set x.a.toNat true) (R.set x.a.toNat true) (by simp [hJ]) (by simp [hR])
        rw [g13] at hc
        simp (disch := first | decide | omega | (simp only [LN]; omega) | (simp only [LN]; done) | fail) only [SV, Nat.reduceBEq, beq_self_eq_true, evBin, intBin, decide_true, if_true, V.laid, V.cells, Nat.zero_add, Nat.reduceAdd, hx, eInstr_eq, g13, D.flat, Nat.le_refl, Bool.and_self, lose, List.getElem?_cons_zero, V.own, V.own1, Bool.or_self, V.new, V.new1, Bool.or_true, V.flatV, V.flat1, Bool.not_true, Bool.and_false, Bool.false_and, view, viewD, hc, Bool.false_eq_true, if_false, evExt, List.getElem?_cons_succ, evFa, Nat.add_zero, V.cell, eBool_eq, asD, fBoolS, Int.toNat_natCast, hr, evUn, bne_self_eq_false, Bool.and_true, V.refs, reduceCtorEq, or_self, not_false_eq_true, Nat.reduceEqDiff, and_self, Bool.or_false, cond_false, cond_true, ne_eq, not_true_eq_false, Int.reduceEq, and_true]
        exact ih1
    · by_cases g1 : x.op = 14 ∨ x.op = 15
      · have ht := ht g1
        rw [show targetS x = (x.b, true) by simp only [targetS]; rw [if_neg g13, if_pos g1]]
        rw [show targetS ⟨x.op, x.a, x.b⟩ = (x.b, true) by simp only [targetS]; rw [if_neg g13, if_pos g1]] at hc
        simp only at hc
        have hn : x.op ≠ 13 ∧ x.op ≠ 16 ∧ x.op ≠ 17 := by omega
        cases r with
        | false =>
          have ih1 := ih (J.set x.b.toNat true) R (by simp [hJ]) hR
          simp (disch := first | decide | omega | (simp only [LN]; omega) | (simp only [LN]; done) | fail) only [SV, Nat.reduceBEq, beq_self_eq_true, evBin, intBin, decide_true, if_true, V.laid, V.cells, Nat.zero_add, Nat.reduceAdd, hx, eInstr_eq, D.flat, Nat.le_refl, Bool.and_self, lose, List.getElem?_cons_zero, V.own, V.own1, Bool.or_self, V.new, V.new1, Bool.or_true, V.flatV, V.flat1, Bool.not_true, Bool.and_false, Bool.false_and, view, viewD, hc, Bool.false_eq_true, if_false, evExt, List.getElem?_cons_succ, evFa, Nat.add_zero, V.cell, eBool_eq, asD, fBoolS, Int.toNat_natCast, hr, evUn, Bool.not_false, V.refs, reduceCtorEq, or_self, not_false_eq_true, Nat.reduceEqDiff, and_self, Bool.or_false, cond_false, cond_true, ne_eq]
          exact ih1
        | true =>
          have ih1 := ih (J.set x.b.toNat true) ((R.set x.b.toNat true).set (i + 1) true) (by simp [hJ]) (by simp [hR])
          simp only [if_pos hn, if_true]
          simp (disch := first | decide | omega | (simp only [LN]; omega) | (simp only [LN]; done) | fail) only [SV, Nat.reduceBEq, beq_self_eq_true, evBin, intBin, decide_true, if_true, V.laid, V.cells, Nat.zero_add, Nat.reduceAdd, hx, eInstr_eq, D.flat, Nat.le_refl, Bool.and_self, lose, List.getElem?_cons_zero, V.own, V.own1, Bool.or_self, V.new, V.new1, Bool.or_true, V.flatV, V.flat1, Bool.not_true, Bool.and_false, Bool.false_and, view, viewD, hc, Bool.false_eq_true, if_false, evExt, List.getElem?_cons_succ, evFa, Nat.add_zero, V.cell, eBool_eq, asD, fBoolS, Int.toNat_natCast, hr, evUn, V.refs, reduceCtorEq, or_self, not_false_eq_true, Nat.reduceEqDiff, and_self, Bool.or_false, cond_false, cond_true]
          exact ih1
      · rw [show targetS x = (0, false) by simp only [targetS]; rw [if_neg g13, if_neg g1]]
        rw [show targetS ⟨x.op, x.a, x.b⟩ = (0, false) by simp only [targetS]; rw [if_neg g13, if_neg g1]] at hc
        simp only at hc
        cases r with
        | false =>
          have ih1 := ih J R hJ hR
          simp (disch := first | decide | omega | (simp only [LN]; omega) | (simp only [LN]; done) | fail) only [SV, Nat.reduceBEq, beq_self_eq_true, evBin, intBin, decide_true, if_true, V.laid, V.cells, Nat.zero_add, Nat.reduceAdd, hx, eInstr_eq, D.flat, Nat.le_refl, Bool.and_self, lose, List.getElem?_cons_zero, V.own, V.own1, Bool.or_self, V.new, V.new1, Bool.or_true, V.flatV, V.flat1, Bool.not_true, Bool.and_false, Bool.false_and, view, viewD, hc, Bool.false_eq_true, if_false, evExt, List.getElem?_cons_succ, evFa, Int.toNat_natCast, hr, eBool_eq, evUn, Bool.not_false, V.refs, reduceCtorEq, or_self, not_false_eq_true, Nat.reduceEqDiff, and_self, Bool.or_false, cond_false, cond_true, Int.toNat_zero, ne_eq]
          exact ih1
        | true =>
          by_cases g16 : x.op = 16
          · have ih1 := ih J R hJ hR
            rw [g16] at hc
            simp (disch := first | decide | omega | (simp only [LN]; omega) | (simp only [LN]; done) | fail) only [SV, Nat.reduceBEq, beq_self_eq_true, evBin, intBin, decide_true, if_true, V.laid, V.cells, Nat.zero_add, Nat.reduceAdd, hx, eInstr_eq, g16, D.flat, Nat.le_refl, Bool.and_self, lose, List.getElem?_cons_zero, V.own, V.own1, Bool.or_self, V.new, V.new1, Bool.or_true, V.flatV, V.flat1, Bool.not_true, Bool.and_false, Bool.false_and, view, viewD, hc, Bool.false_eq_true, if_false, evExt, List.getElem?_cons_succ, evFa, Int.toNat_natCast, hr, eBool_eq, evUn, Nat.add_zero, bne_self_eq_false, Bool.and_true, V.refs, reduceCtorEq, or_self, not_false_eq_true, Nat.reduceEqDiff, and_self, Bool.or_false, cond_false, cond_true, Int.toNat_zero, ne_eq, Int.reduceEq, not_true_eq_false, and_true, and_false]
            exact ih1
          · by_cases g17 : x.op = 17
            · have ih1 := ih J R hJ hR
              rw [g17] at hc
              simp (disch := first | decide | omega | (simp only [LN]; omega) | (simp only [LN]; done) | fail) only [SV, Nat.reduceBEq, beq_self_eq_true, evBin, intBin, decide_true, if_true, V.laid, V.cells, Nat.zero_add, Nat.reduceAdd, hx, eInstr_eq, g17, D.flat, Nat.le_refl, Bool.and_self, lose, List.getElem?_cons_zero, V.own, V.own1, Bool.or_self, V.new, V.new1, Bool.or_true, V.flatV, V.flat1, Bool.not_true, Bool.and_false, Bool.false_and, view, viewD, hc, Bool.false_eq_true, if_false, evExt, List.getElem?_cons_succ, evFa, Int.toNat_natCast, hr, eBool_eq, evUn, Nat.add_zero, bne_self_eq_false, V.refs, reduceCtorEq, or_self, not_false_eq_true, Nat.reduceEqDiff, and_self, Bool.or_false, cond_false, cond_true, Int.toNat_zero, ne_eq, Int.reduceEq, not_true_eq_false, and_false]
              exact ih1
            · have ih1 := ih J (R.set (i + 1) true) hJ (by simp [hR])
              have hn : x.op ≠ 13 ∧ x.op ≠ 16 ∧ x.op ≠ 17 := by omega
              simp only [if_pos hn, if_true]
              simp (disch := first | decide | omega | (simp only [LN]; omega) | (simp only [LN]; done) | fail) only [SV, Nat.reduceBEq, beq_self_eq_true, evBin, intBin, decide_true, if_true, V.laid, V.cells, Nat.zero_add, Nat.reduceAdd, hx, eInstr_eq, D.flat, Nat.le_refl, Bool.and_self, lose, List.getElem?_cons_zero, V.own, V.own1, Bool.or_self, V.new, V.new1, Bool.or_true, V.flatV, V.flat1, Bool.not_true, Bool.and_false, Bool.false_and, view, viewD, hc, Bool.false_eq_true, if_false, evExt, List.getElem?_cons_succ, evFa, Int.toNat_natCast, hr, eBool_eq, evUn, Nat.add_zero, V.cell, asD, fBoolS, V.refs, reduceCtorEq, or_self, not_false_eq_true, Nat.reduceEqDiff, and_self, Bool.or_false, cond_false, cond_true, Int.toNat_zero]
              exact ih1

theorem ev_look (K : Cx) (h55 : K55 K) (l : List Instr) (hl : Fit l)  :
   runFun K f34 [.d false (.sl 3 (l.map eInstr))] [] = some (.agg [.d true (.sl 1 ((lookS l).1.map eBool)), .d true (.sl 1 ((lookS l).2.map eBool))], [], []) := by
  have := hl.len
  have hlp := look_loop K h55 l hl l.length 0 (List.replicate (l.length + 1) false) ((List.replicate (l.length + 1) false).set 0 true) (by omega) (by simp) (by simp)
  have hls := lookS_len l
  unfold lookS at hls ⊢
  generalize lookL l l.length 0 (List.replicate (l.length + 1) false) ((List.replicate (l.length + 1) false).set 0 true) = JR at hlp hls
  simp only [Int.natCast_zero] at hlp
  obtain ⟨h1, h2⟩ := hls
  simp (disch := first | decide | omega | (simp only [LN]; omega) | (simp only [LN]; done) | fail) only [SV, f34, Nat.zero_add, V.laid, V.cells, Nat.reduceAdd, if_true, Nat.reduceBEq, beq_self_eq_true, evLen, evBin, intBin, mkMks, asD, D.flat, Bool.and_self, and_self, fBoolR, evSet, V.cell, decide_true, Nat.le_refl, lose, evFa, List.getElem?_cons_zero, Int.toNat_zero, Nat.add_zero, eBool_eq, V.new1, Bool.or_true, fBoolS, V.refs, Bool.or_self, reduceCtorEq, or_self, not_false_eq_true, Nat.reduceEqDiff, Bool.or_false, cond_false, cond_true, hlp, oneOr, Bool.false_eq_true, if_false, finV, finA, finC, hNew, V.forget, V.drop1, V.ref0, Bool.not_false, V.newR, viewD]
end Go.Vm
end

section
namespace Go.Vm
/- 'sloth/peep.better' -/
def f18_L0 : C :=
 (.seq
  (.reg [⟨[], [(17, (.bin .lss (.sl 16) (.sl 15)))], [], none, [3, 4, 15, 16], 1, [], [], []⟩])
  (.seq
   (.cond (.sl 17)
    .skip
    (.seq
     (.tidy 0 [3])
     (.exit 0)))
   (.seq
    (.block 1
     (.seq
      (.reg [⟨[], [(5, (.sl 16))], [], none, [3, 4, 15, 16], 2, [], [], []⟩])
      (.seq
       (.seq
        (.reg [⟨[], [(24, (.un .not (.ld 1 false (.ia 1 (.ld 1 false (.fa 1 (.sl 4))) (.sl 5)))))], [], none, [3, 4, 5, 15, 16], 6, [], [], []⟩])
        (.cond (.sl 24)
         (.seq
          (.reg [⟨[], [(3, (.call 35 (.cons (.sl 3) (.cons (.sl 5) (.cons (.int .i64 1) (.cons (.nilsl 3) .nil))))))], [], none, [], 4, [], [], []⟩])
          (.seq
           (.tidy 0 [3])
           (.goto 0)))
         .skip))
       (.seq
        (.seq
         (.reg [⟨[], [(6, (.ext 0 (.call 36 (.cons (.sl 3) (.cons (.sl 5) .nil))))), (7, (.ext 1 (.call 36 (.cons (.sl 3) (.cons (.sl 5) .nil)))))], [], none, [3, 4, 5, 15, 16], 8, [], [], []⟩])
         (.seq
          (.reg [⟨[], [(34, (.sl 7))], [], none, [3, 4, 5, 6, 15, 16], 1, [], [], []⟩])
          (.cond (.sl 34)
           (.seq
            (.reg [⟨[], [(3, (.sl 6))], [], none, [], 2, [], [], []⟩])
            (.seq
             (.tidy 0 [3])
             (.goto 0)))
           .skip)))
        (.seq
         (.seq
          (.reg [⟨[], [(48, (.or (.bin .eql (.bin .add (.sl 5) (.int .i64 1)) (.len false (.sl 3))) (.ld 1 false (.ia 1 (.ld 1 false (.fa 0 (.sl 4))) (.bin .add (.sl 5) (.int .i64 1))))))], [], none, [3, 4, 5, 15, 16], 13, [], [], []⟩])
          (.cond (.sl 48)
           (.seq
            (.tidy 0 [3, 4, 15, 16])
            (.exit 1))
           .skip))
         (.seq
          (.reg [⟨[], [(8, (.ext 0 (.call 37 (.cons (.sl 3) (.cons (.sl 5) .nil))))), (9, (.ext 1 (.call 37 (.cons (.sl 3) (.cons (.sl 5) .nil)))))], [], none, [3, 4, 15, 16], 8, [], [], []⟩])
          (.seq
           (.reg [⟨[], [(55, (.sl 9))], [], none, [3, 4, 8, 15, 16], 1, [], [], []⟩])
           (.cond (.sl 55)
            (.seq
             (.reg [⟨[], [(3, (.sl 8))], [], none, [], 2, [], [], []⟩])
             (.seq
              (.tidy 0 [3])
              (.goto 0)))
            .skip))))))))
    (.reg [⟨[], [(16, (.bin .add (.sl 16) (.int .i64 1)))], [], none, [3, 4, 15], 2, [], [], []⟩]))))
def f18_G0 : C :=
 (.seq
  .skip
  (.seq
   (.reg [⟨[(4, .box (.agg (.cons (.nilsl 1) (.cons (.nilsl 1) .nil))))], [], [], some (none, .store 2 (.sl 4) (.call 34 (.cons (.sl 3) .nil))), [3, 4], 4, [], [], []⟩])
   (.seq
    (.seq
     (.reg [⟨[], [(15, (.len false (.sl 3))), (16, (.int .i64 0))], [], none, [3, 4], 3, [], [], []⟩])
     (.block 0
      (.seq (.tidy 0 [3, 4, 15, 16]) (.loop (.seq (.tidy 0 [3, 4, 15, 16]) f18_L0)))))
    (.seq
     (.reg [⟨[], [(2, (.call 38 (.cons (.sl 3) .nil)))], [], none, [], 3, [], [], []⟩])
     (.seq
      (.tidy 0 [2])
      .ret)))))
def f18 : Fun := ⟨
 (.seq
  (.reg [⟨[], [], [(.nilsl 3)], none, [0], 1, [], [], []⟩])
  (.scope
   (.seq
    (.reg [⟨[], [(3, (.call 33 (.cons (.sl 0) .nil)))], [], none, [], 3, [], [], []⟩])
    (.seq
     (.label 0)
     (.seq
      (.reg [⟨[(4, .box (.agg (.cons (.nilsl 1) (.cons (.nilsl 1) .nil))))], [], [], some (none, .store 2 (.sl 4) (.call 34 (.cons (.sl 3) .nil))), [3, 4], 4, [], [], []⟩])
      (.seq
       (.seq
        (.reg [⟨[], [(15, (.len false (.sl 3))), (16, (.int .i64 0))], [], none, [3, 4], 3, [], [], []⟩])
        (.block 0
         (.seq (.tidy 0 [3, 4, 15, 16]) (.loop (.seq (.tidy 0 [3, 4, 15, 16]) f18_L0)))))
       (.seq
        (.reg [⟨[], [(2, (.call 38 (.cons (.sl 3) .nil)))], [], none, [], 3, [], [], []⟩])
        (.seq
         (.tidy 0 [2])
         .ret))))))
   (.lcons 0 f18_G0
    .lnil))),
 [(.sl 2)], false⟩
theorem f18_ok : funOk Go.Proofs.Try.prog 18 0 1 f18 = true := by kernel_rfl


def bothS (l : List Instr) (p : Int) : Option (List Instr) :=
  let x := nth l p
  let y := nth l (p + 1)
  if x.op = y.op ∧ (x.op = 4 ∨ x.op = 5) then some (putS l p 2 [⟨x.op, IntKind.i64.wrap (x.a + y.a), 0⟩])
  else if x.op = 5 ∧ y.op = 4 ∧ 0 < y.a then some (putS l p 2 [⟨4, IntKind.i64.wrap (x.a + y.a), 0⟩])
  else if (x.op = 1 ∨ x.op = 2) ∧ y.op = 4 ∧ 0 < y.a then some (putS l p 2 [⟨4, IntKind.i64.wrap (y.a - 1), 0⟩])
  else if x.op = 1 ∧ x.a = 0 ∧ y.op = 5 ∧ y.a = 1 then some (putS l p 2 [])
  else if y.op = 11 ∧ (x.op = 11 ∨ x.op = 3 ∨ x.op = 9 ∨ x.op = 12) then some (putS l p 2 [x])
  else if (x.op = 3 ∧ y.op = 15) ∨ (x.op = 9 ∧ y.op = 14) then
    if x.a = y.a then some (putS l p 2 [x]) else some (putS l p 2 [x, ⟨13, y.b, 0⟩])
  else none

def scanS (l : List Instr) (J R : List Bool) : Nat → Nat → Option (List Instr)
  | 0, _ => none
  | k + 1, p =>
    if nth R p = false then some (putS l p 1 []) else
    match aloneS l p with
    | some l' => some l'
    | none => if (p : Int) + 1 = l.length ∨ nth J ((p : Int) + 1) = true then scanS l J R k (p + 1) else
      match bothS l p with
      | some l' => some l'
      | none => scanS l J R k (p + 1)
def stepS (l : List Instr) : Option (List Instr) := scanS l (lookS l).1 (lookS l).2 l.length 0

def K34 (K : Cx) : Prop := ∀ l : List Instr, Fit l → K.call 34 [.d false (.sl 3 (l.map eInstr))] = some (.agg [.d true (.sl 1 ((lookS l).1.map eBool)), .d true (.sl 1 ((lookS l).2.map eBool))], [])
def K36 (K : Cx) : Prop := ∀ (l : List Instr) (p : Nat), Fit l → p < l.length → K.call 36 [.d false (.sl 3 (l.map eInstr)), .d false (.int .i64 p)] = some (ansS (aloneS l p), [])
def K37 (K : Cx) : Prop := ∀ (l : List Instr) (p : Nat), Fit l → p + 1 < l.length → K.call 37 [.d false (.sl 3 (l.map eInstr)), .d false (.int .i64 p)] = some (ansS (bothS l p), [])
def K38 (K : Cx) : Prop := ∀ l : List Instr, K.call 38 [.d false (.sl 3 (l.map eInstr))] = some (.fs false 3 (l.map eInstr), [])

def passOut (l : List Instr) (r : Option (List Instr)) : Ex × S := match r with
  | some l' => (.goto 0, ⟨[(3, .d true (.sl 3 (l'.map eInstr)))], [], 0, []⟩)
  | none => (.exit 0, ⟨[(3, .d true (.sl 3 (l.map eInstr)))], [], 0, []⟩)
theorem passOut_s (l l') : passOut l (some l') = (.goto 0, ⟨[(3, .d true (.sl 3 (l'.map eInstr)))], [], 0, []⟩) := rfl
theorem passOut_n (l) : passOut l none = (.exit 0, ⟨[(3, .d true (.sl 3 (l.map eInstr)))], [], 0, []⟩) := rfl
theorem ansS_s (l) : ansS (some l) = .tup [.d true (.sl 3 (l.map eInstr)), .d false (.bool true)] := rfl
theorem ansS_n : ansS none = .tup [.fs true 3 [], .d false (.bool false)] := rfl

theorem pass_loop (K : Cx) (hloc : ∀ f, K.loc f = true) (h35 : K35 K) (h36 : K36 K) (h37 : K37 K) (l : List Instr) (hl : Fit l) (J R : List Bool) (hJ : J.length = l.length + 1) (hR : R.length = l.length + 1) : ∀ (k p : Nat), p + k = l.length →
    lp K 0 [3, 4, 15, 16] f18_L0 ⟨[(3, .d true (.sl 3 (l.map eInstr))), (4, .ptr 0 0 0), (15, .d false (.int .i64 l.length)), (16, .d false (.int .i64 p))], [(0, .mix 2 [[.d true (.sl 1 (J.map eBool)), .d true (.sl 1 (R.map eBool))]])], 1, []⟩ =
    some (passOut l (scanS l J R k p)) := by
  intro k
  induction k with
  | zero =>
    intro p hp
    have hll := hl.len
    rw [lp_un f18_L0.eq_1]
    simp only [scanS]
    simp (disch := first | decide | omega | (simp only [LN]; omega) | (simp only [LN]; done) | fail) only [SV, Nat.reduceBEq, beq_self_eq_true, evBin, intBin, decide_false, if_true, V.refs, decide_true, Bool.and_self, passOut_n]
  | succ k ih =>
    intro p hp
    have hcast : ((p + 1 : Nat) : Int) = (p : Int) + 1 := by omega
    have ih := ih (p + 1) (by omega)
    rw [hcast] at ih
    have hll := hl.len
    have hlt : p < l.length := by omega
    rw [lp_un f18_L0.eq_1]
    simp only [scanS]
    have c0 := h35 l [] p 1 ⟨by omega, by omega, by omega⟩ (by omega) hl.len (by simp) (by simp; omega) hl.tame (by simp)
    simp only [List.map_nil] at c0
    have c1 := h36 l p hl hlt
    have hq : p + 1 < l.length → _ := fun h => h37 l p hl h
    generalize hr : nth R (p : Int) = r
    generalize aloneS l p = al at c1
    generalize bothS l p = bo at hq
    cases r with
    | false =>
      rw [if_pos rfl]
      simp (disch := first | decide | omega | (simp only [LN]; omega) | (simp only [LN]; done) | fail) only [SV, Nat.reduceBEq, beq_self_eq_true, evBin, intBin, decide_true, if_true, evFa, Nat.zero_add, List.getElem?_cons_zero, hr, eBool_eq, D.flat, evUn, Bool.not_false, V.own, V.own1, Bool.or_self, V.new, V.new1, Bool.or_false, Bool.or_true, Bool.and_self, V.flatV, V.flat1, Bool.and_true, Bool.and_false, hloc, view, viewD, c0, V.renew, V.renew1, Bool.false_eq_true, if_false, V.refs, passOut_s]
    | true =>
      rw [if_neg (by simp)]
      cases al with
      | some l' =>
        simp only [ansS_s] at c1
        simp only
        simp (disch := first | decide | omega | (simp only [LN]; omega) | (simp only [LN]; done) | fail) only [SV, Nat.reduceBEq, beq_self_eq_true, evBin, intBin, decide_true, if_true, evFa, Nat.zero_add, List.getElem?_cons_zero, hr, eBool_eq, D.flat, evUn, Bool.not_true, V.own, V.own1, Bool.or_self, V.new, V.new1, Bool.or_false, Bool.or_true, Bool.and_self, V.flatV, V.flat1, Bool.and_true, Bool.not_false, hloc, view, viewD, c1, V.renew, V.renew1, Bool.false_eq_true, if_false, evExt, List.getElem?_cons_succ, V.refs, passOut_s]
      | none =>
        simp only [ansS_n] at c1
        simp only
        by_cases g1 : (p : Int) + 1 = l.length
        · rw [if_pos (.inl g1)]
          have b1 : ((p : Int) + 1 == (l.length : Int)) = true := by simpa using g1
          simp (disch := first | decide | omega | (simp only [LN]; omega) | (simp only [LN]; done) | fail) only [SV, Nat.reduceBEq, beq_self_eq_true, evBin, intBin, decide_true, if_true, evFa, Nat.zero_add, List.getElem?_cons_zero, hr, eBool_eq, D.flat, evUn, Bool.not_true, V.own, V.own1, Bool.or_self, V.new, V.new1, Bool.or_false, Bool.or_true, Bool.and_self, V.flatV, V.flat1, Bool.and_true, Bool.not_false, hloc, view, viewD, c1, V.renew, V.renew1, evExt, List.getElem?_cons_succ, evLen, b1, Nat.add_zero, Bool.true_or, V.refs, not_false_eq_true, and_self, cond_true]
          exact ih
        · have b1 : ((p : Int) + 1 == (l.length : Int)) = false := by simpa using g1
          have g2 : p + 1 < l.length := by omega
          have c2 := hq g2
          clear hq
          generalize hj : nth J ((p : Int) + 1) = j
          cases j with
          | true =>
            rw [if_pos (.inr rfl)]
            clear g1
            simp (disch := first | decide | omega | (simp only [LN]; omega) | (simp only [LN]; done) | fail) only [SV, Nat.reduceBEq, beq_self_eq_true, evBin, intBin, decide_true, if_true, evFa, Nat.zero_add, List.getElem?_cons_zero, hr, eBool_eq, D.flat, evUn, Bool.not_true, V.own, V.own1, Bool.or_self, V.new, V.new1, Bool.or_false, Bool.or_true, Bool.and_self, V.flatV, V.flat1, Bool.and_true, Bool.not_false, hloc, view, viewD, c1, V.renew, V.renew1, evExt, List.getElem?_cons_succ, evLen, b1, Nat.add_zero, hj, V.refs, not_false_eq_true, and_self, cond_true]
            exact ih
          | false =>
            rw [if_neg (by simp [g1])]
            clear g1
            cases bo with
            | some l' =>
              simp only [ansS_s] at c2
              simp only
              simp (disch := first | decide | omega | (simp only [LN]; omega) | (simp only [LN]; done) | fail) only [SV, Nat.reduceBEq, beq_self_eq_true, evBin, intBin, decide_true, if_true, evFa, Nat.zero_add, List.getElem?_cons_zero, hr, eBool_eq, D.flat, evUn, Bool.not_true, V.own, V.own1, Bool.or_self, V.new, V.new1, Bool.or_false, Bool.or_true, Bool.and_self, V.flatV, V.flat1, Bool.and_true, Bool.not_false, hloc, view, viewD, c1, V.renew, V.renew1, evExt, List.getElem?_cons_succ, evLen, b1, Nat.add_zero, hj, c2, Bool.false_eq_true, if_false, V.refs, passOut_s]
            | none =>
              simp only [ansS_n] at c2
              simp only
              simp (disch := first | decide | omega | (simp only [LN]; omega) | (simp only [LN]; done) | fail) only [SV, Nat.reduceBEq, beq_self_eq_true, evBin, intBin, decide_true, if_true, evFa, Nat.zero_add, List.getElem?_cons_zero, hr, eBool_eq, D.flat, evUn, Bool.not_true, V.own, V.own1, Bool.or_self, V.new, V.new1, Bool.or_false, Bool.or_true, Bool.and_self, V.flatV, V.flat1, Bool.and_true, Bool.not_false, hloc, view, viewD, c1, V.renew, V.renew1, evExt, List.getElem?_cons_succ, evLen, b1, Nat.add_zero, hj, c2, V.refs, not_false_eq_true, and_self, cond_true]
              exact ih

end Go.Vm
end

section
namespace Go.Vm

def K33 (K : Cx) : Prop := ∀ l : List Instr, l ≠ [] → l.length ≤ 100000 → K.call 33 [.d false (.sl 3 (l.map eInstr))] = some (.d true (.sl 3 (l.map eInstr)), [])

def runS : Nat → List Instr → Option (List Instr)
  | 0, _ => none
  | n + 1, l => match stepS l with
    | none => some l
    | some l' => runS n l'

def tailOut (l : List Instr) (r : Option (List Instr)) : Ex × S := match r with
  | some l' => (.goto 0, ⟨[(3, .d true (.sl 3 (l'.map eInstr)))], [], 0, []⟩)
  | none => (.ret, ⟨[(2, .fs true 3 (l.map eInstr))], [], 0, []⟩)

theorem tail_run (K : Cx) (hloc : ∀ f, K.loc f = true) (h34 : K34 K) (h35 : K35 K) (h36 : K36 K) (h37 : K37 K) (h38 : K38 K) (l : List Instr) (hl : Fit l) :
    exec K f18_G0 ⟨[(3, .d true (.sl 3 (l.map eInstr)))], [], 0, []⟩ = some (tailOut l (stepS l)) := by
  have hll := hl.len
  have c0 := h34 l hl
  have c1 := h38 l
  have hls := lookS_len l
  have l0 := pass_loop K hloc h35 h36 h37 l hl (lookS l).1 (lookS l).2 hls.1 hls.2 l.length 0 (by omega)
  simp only [Int.natCast_zero] at l0
  unfold stepS
  generalize scanS l (lookS l).1 (lookS l).2 l.length 0 = r at l0
  cases r with
  | some l' =>
    rw [passOut_s] at l0
    simp (disch := first | decide | omega | (simp only [LN]; omega) | (simp only [LN]; done) | fail) only [SV, f18_G0, V.laid, V.cells, Nat.zero_add, Nat.reduceAdd, if_true, Nat.reduceBEq, beq_self_eq_true, V.own, V.own1, Bool.or_self, V.new, V.new1, D.flat, Bool.or_false, Bool.and_self, V.flatV, V.flat1, Bool.and_true, Bool.not_false, hloc, view, viewD, c0, V.renew, V.renew1, Bool.false_eq_true, if_false, Nat.le_refl, lose, evLen, V.refs, not_false_eq_true, and_self, decide_true, cond_true, l0]
    rfl
  | none =>
    rw [passOut_n] at l0
    simp (disch := first | decide | omega | (simp only [LN]; omega) | (simp only [LN]; done) | fail) only [SV, f18_G0, V.laid, V.cells, Nat.zero_add, Nat.reduceAdd, if_true, Nat.reduceBEq, beq_self_eq_true, V.own, V.own1, Bool.or_self, V.new, V.new1, D.flat, Bool.or_false, Bool.and_self, V.flatV, V.flat1, Bool.and_true, Bool.not_false, hloc, view, viewD, c0, V.renew, V.renew1, Bool.false_eq_true, if_false, Nat.le_refl, lose, evLen, V.refs, not_false_eq_true, and_self, decide_true, cond_true, l0, c1]
    rfl

theorem scope_run (K : Cx) (hloc : ∀ f, K.loc f = true) (h34 : K34 K) (h35 : K35 K) (h36 : K36 K) (h37 : K37 K) (h38 : K38 K) (Good : List Instr → Prop) (hfit : ∀ l, Good l → Fit l) (hstep : ∀ l l', Good l → stepS l = some l' → Good l') :
    ∀ (n : Nat) (l r : List Instr), Good l → runS n l = some r → scopeF (fun i => exec.labelled K (.lcons 0 f18_G0 .lnil) i) (some (.goto 0, ⟨[(3, .d true (.sl 3 (l.map eInstr)))], [], 0, []⟩)) = some (.ret, ⟨[(2, .fs true 3 (r.map eInstr))], [], 0, []⟩) := by
  intro n
  induction n with
  | zero => intro l r _ h; cases h
  | succ n ih =>
    intro l r hG h
    rw [scopeF_goto (lab_cons K 0 f18_G0 .lnil), tail_run K hloc h34 h35 h36 h37 h38 l (hfit l hG)]
    simp only [runS] at h
    cases hs : stepS l with
    | none =>
      rw [hs] at h
      simp only [Option.some.injEq] at h
      subst h
      exact scopeF_ret _ _
    | some l' =>
      rw [hs] at h
      exact ih l' r (hstep l l' hG hs) h

theorem ev_better (K : Cx) (hloc : ∀ f, K.loc f = true) (h33 : K33 K) (h34 : K34 K) (h35 : K35 K) (h36 : K36 K) (h37 : K37 K) (h38 : K38 K) (Good : List Instr → Prop) (hfit : ∀ l, Good l → Fit l) (hstep : ∀ l l', Good l → stepS l = some l' → Good l')
    (n : Nat) (l r : List Instr) (hG : Good l) (hne : l ≠ []) (h : runS n l = some r) :
    runFun K f18 [.d false (.sl 3 (l.map eInstr))] [] = some (.fs true 3 (r.map eInstr), [], []) := by
  have c0 := h33 l hne (hfit l hG).len
  have l0 := scope_run K hloc h34 h35 h36 h37 h38 Good hfit hstep n l r hG h
  rw [scopeF_goto (lab_cons K 0 f18_G0 .lnil)] at l0
  have l1 := tail_run K hloc h34 h35 h36 h37 h38 l (hfit l hG)
  rw [l1] at l0
  have hl := hfit l hG
  have hll := hl.len
  have d0 := h34 l hl
  have d1 := h38 l
  have hls := lookS_len l
  have l2 := pass_loop K hloc h35 h36 h37 l hl (lookS l).1 (lookS l).2 hls.1 hls.2 l.length 0 (by omega)
  simp only [Int.natCast_zero] at l2
  unfold stepS at l0
  generalize scanS l (lookS l).1 (lookS l).2 l.length 0 = rr at l0 l2
  clear l1 hfit hstep h
  cases rr with
  | some l' =>
    rw [passOut_s] at l2
    rw [show tailOut l (some l') = (.goto 0, ⟨[(3, .d true (.sl 3 (l'.map eInstr)))], [], 0, []⟩) from rfl] at l0
    simp (disch := first | decide | omega | (simp only [LN]; omega) | (simp only [LN]; done) | fail) only [SV, f18, Nat.zero_add, Bool.and_self, beq_self_eq_true, exec_scope, V.own, V.own1, Bool.or_self, V.new, V.new1, D.flat, Bool.and_true, V.flatV, V.flat1, Bool.not_false, hloc, view, viewD, c0, Bool.or_false, Bool.not_true, Bool.false_eq_true, if_false, exec_label, V.laid, V.cells, Nat.reduceAdd, if_true, Nat.reduceBEq, d0, V.renew, V.renew1, Nat.le_refl, lose, evLen, V.refs, not_false_eq_true, and_self, decide_true, cond_true, l2, l0, oneOr, finV, finA, finC]
  | none =>
    rw [passOut_n] at l2
    rw [show tailOut l none = (.ret, ⟨[(2, .fs true 3 (l.map eInstr))], [], 0, []⟩) from rfl] at l0
    simp (disch := first | decide | omega | (simp only [LN]; omega) | (simp only [LN]; done) | fail) only [SV, f18, Nat.zero_add, Bool.and_self, beq_self_eq_true, exec_scope, V.own, V.own1, Bool.or_self, V.new, V.new1, D.flat, Bool.and_true, V.flatV, V.flat1, Bool.not_false, hloc, view, viewD, c0, Bool.or_false, Bool.not_true, Bool.false_eq_true, if_false, exec_label, V.laid, V.cells, Nat.reduceAdd, if_true, Nat.reduceBEq, d0, V.renew, V.renew1, Nat.le_refl, lose, evLen, V.refs, not_false_eq_true, and_self, decide_true, cond_true, l2, d1, l0, oneOr, finV, finA, finC]

end Go.Vm
end

section
namespace Go.Vm

structure Sane (l : List Instr) : Prop where
  fit : Fit l
  ne : 0 < l.length
  last : goesOn (nth l ((l.length : Int) - 1)) = false

def Jmps (x : Instr) (t : Int) : Prop := (x.op = 13 ∧ x.a = t) ∨ ((x.op = 14 ∨ x.op = 15) ∧ x.b = t)

theorem fit_of {l : List Instr} (h : l.length ≤ 100000) (hj : ∀ (i : Nat) (t : Int), i < l.length → Jmps (nth l i) t → (i : Int) < t ∧ t < l.length) : Fit l :=
  ⟨h, fun i hi ho => hj i _ hi (.inl ⟨ho, rfl⟩), fun i hi ho => hj i _ hi (.inr ⟨ho, rfl⟩)⟩
theorem Fit.jmps {l : List Instr} (h : Fit l) {i : Nat} {t : Int} (hi : i < l.length) (hj : Jmps (nth l i) t) : (i : Int) < t ∧ t < l.length := by
  rcases hj with ⟨h1, rfl⟩ | ⟨h1, rfl⟩
  · exact h.jmp i hi h1
  · exact h.tst i hi h1

theorem carryI_op (p g b : Int) (x : Instr) : (carryI p g b x).op = x.op := by
  unfold carryI
  split
  · rfl
  · split <;> rfl
theorem goesOn_carry (p g b : Int) (x : Instr) : goesOn (carryI p g b x) = goesOn x := by
  unfold goesOn; rw [carryI_op]
theorem jmps_carry {p g b : Int} {x : Instr} {t : Int} (h : Jmps (carryI p g b x) t) : ∃ t0, Jmps x t0 ∧ t = carryS p g b t0 := by
  unfold Jmps at h
  rw [carryI_op] at h
  rcases h with ⟨h1, h2⟩ | ⟨h1, h2⟩
  · refine ⟨x.a, .inl ⟨h1, rfl⟩, ?_⟩
    rw [← h2]; unfold carryI; rw [if_pos h1]
  · refine ⟨x.b, .inr ⟨h1, rfl⟩, ?_⟩
    rw [← h2]; unfold carryI; rw [if_neg (by omega), if_pos h1]

theorem nth_map {α β : Type} [Inhabited α] [Inhabited β] (f : α → β) (l : List α) (i : Nat) (h : i < l.length) : nth (l.map f) (i : Int) = f (nth l (i : Int)) := by
  rw [nth_nat, nth_nat, List.getD_eq_getElem?_getD, List.getD_eq_getElem?_getD, List.getElem?_map, List.getElem?_eq_getElem h]; rfl
theorem nth_app_l {α : Type} [Inhabited α] (l m : List α) (i : Nat) (h : i < l.length) : nth (l ++ m) (i : Int) = nth l (i : Int) := by
  rw [nth_nat, nth_nat, List.getD_eq_getElem?_getD, List.getD_eq_getElem?_getD, List.getElem?_append_left h]
theorem nth_app_r {α : Type} [Inhabited α] (l m : List α) (i : Nat) (h : l.length ≤ i) : nth (l ++ m) (i : Int) = nth m ((i - l.length : Nat) : Int) := by
  rw [nth_nat, nth_nat, List.getD_eq_getElem?_getD, List.getD_eq_getElem?_getD, List.getElem?_append_right h]
theorem nth_take {α : Type} [Inhabited α] (l : List α) (p i : Nat) (h : i < p) : nth (l.take p) (i : Int) = nth l (i : Int) := by
  rw [nth_nat, nth_nat, List.getD_eq_getElem?_getD, List.getD_eq_getElem?_getD, List.getElem?_take_of_lt h]
theorem nth_drop {α : Type} [Inhabited α] (l : List α) (p i : Nat) : nth (l.drop p) (i : Int) = nth l ((p + i : Nat) : Int) := by
  rw [nth_nat, nth_nat, List.getD_eq_getElem?_getD, List.getD_eq_getElem?_getD, List.getElem?_drop]

theorem putS_nat (l : List Instr) (p g : Nat) (more : List Instr) : putS l (p : Int) (g : Int) more = (l.take p ++ more ++ l.drop (p + g)).map (carryI p g ((more.length : Int) - g)) := by
  unfold putS
  rw [Int.toNat_natCast, show ((p : Int) + g).toNat = p + g by omega]

theorem put_nth (l : List Instr) (p g : Nat) (more : List Instr) (hp : p + g ≤ l.length) (i : Nat) (hi : i < l.length - g + more.length) :
    nth (putS l (p : Int) (g : Int) more) (i : Int) = carryI p g ((more.length : Int) - g) (if i < p then nth l (i : Int) else if i < p + more.length then nth more ((i - p : Nat) : Int) else nth l ((i + g - more.length : Nat) : Int)) := by
  rw [putS_nat, nth_map _ _ _ (by simp; omega)]
  congr 1
  by_cases h1 : i < p
  · rw [if_pos h1, List.append_assoc, nth_app_l _ _ _ (by simp; omega), nth_take _ _ _ h1]
  · rw [if_neg h1]
    by_cases h2 : i < p + more.length
    · rw [if_pos h2, nth_app_l _ _ _ (by simp; omega), nth_app_r _ _ _ (by simp; omega)]
      congr 2
      simp; omega
    · rw [if_neg h2, nth_app_r _ _ _ (by simp; omega), nth_drop]
      congr 2
      simp; omega

theorem put_len (l : List Instr) (p g : Nat) (more : List Instr) (hp : p + g ≤ l.length) : (putS l (p : Int) (g : Int) more).length = l.length - g + more.length := by
  rw [putS_nat]; simp; omega

theorem good_put {l : List Instr} (hG : Sane l) (p g : Nat) (more : List Instr) (hp : p + g < l.length) (hm : more.length ≤ g)
    (ht : ∀ x ∈ more, ∀ t, Jmps x t → (p : Int) + g ≤ t ∧ t < l.length) : Sane (putS l (p : Int) (g : Int) more) := by
  have hlen := put_len l p g more (by omega)
  have hle := hG.fit.len
  refine ⟨fit_of (by omega) fun i t hi hj => ?_, by omega, ?_⟩
  · rw [hlen] at hi
    rw [put_nth l p g more (by omega) i hi] at hj
    obtain ⟨t0, hk, rfl⟩ := jmps_carry hj
    clear hj
    rw [hlen]
    unfold carryS
    by_cases h1 : i < p
    · rw [if_pos h1] at hk
      have := hG.fit.jmps (by omega) hk
      split
      · omega
      · split <;> omega
    · rw [if_neg h1] at hk
      by_cases h2 : i < p + more.length
      · rw [if_pos h2] at hk
        have := ht _ (nth_mem (l := more) (i := ((i - p : Nat) : Int)) (by omega) (by omega)) _ hk
        split
        · omega
        · split <;> omega
      · rw [if_neg h2] at hk
        have := hG.fit.jmps (by omega) hk
        split
        · omega
        · split <;> omega
  · have e : ((putS l (p : Int) (g : Int) more).length : Int) - 1 = ((l.length - g + more.length - 1 : Nat) : Int) := by omega
    rw [e, put_nth l p g more (by omega) _ (by omega), goesOn_carry, if_neg (by omega), if_neg (by omega)]
    have h := hG.last
    rw [show (l.length : Int) - 1 = ((l.length - g + more.length - 1 + g - more.length : Nat) : Int) by omega] at h
    exact h

theorem good_cut {l : List Instr} (hG : Sane l) (p : Nat) (hp : p + 1 = l.length) (h0 : 0 < p) (hj : ∀ (i : Nat) (t : Int), i < p → Jmps (nth l i) t → t ≠ p) (hl : goesOn (nth l ((p : Int) - 1)) = false) : Sane (putS l (p : Int) 1 []) := by
  have hlen := put_len l p 1 [] (by omega)
  have hle := hG.fit.len
  simp only [List.length_nil, Int.natCast_one] at hlen
  refine ⟨fit_of (by omega) fun i t hi hj' => ?_, by omega, ?_⟩
  · rw [hlen] at hi
    have h1 : i < p := by omega
    have e := put_nth l p 1 [] (by omega) i (by simp; omega)
    simp only [Int.natCast_one] at e
    rw [e, if_pos h1] at hj'
    obtain ⟨t0, hk, rfl⟩ := jmps_carry hj'
    have h2 := hG.fit.jmps (by omega) hk
    have h3 := hj i t0 h1 hk
    rw [hlen]
    unfold carryS
    split
    · omega
    · omega
  · have e : ((putS l (p : Int) 1 []).length : Int) - 1 = ((p - 1 : Nat) : Int) := by omega
    have e2 := put_nth l p 1 [] (by omega) (p - 1) (by simp; omega)
    simp only [Int.natCast_one] at e2
    rw [e, e2, goesOn_carry, if_pos (by omega)]
    rw [show (p : Int) - 1 = ((p - 1 : Nat) : Int) by omega] at hl
    exact hl

end Go.Vm
end

section
namespace Go.Vm

theorem targetS_jmps {x : Instr} (h : (targetS x).2 = true) : Jmps x (targetS x).1 := by
  unfold targetS at h ⊢
  split
  · rename_i h1; exact .inl ⟨h1, rfl⟩
  · rename_i h1
    rw [if_neg h1] at h
    split
    · rename_i h2; exact .inr ⟨h2, rfl⟩
    · rename_i h2; rw [if_neg h2] at h; cases h
theorem jmps_target {x : Instr} {t : Int} (h : Jmps x t) : targetS x = (t, true) := by
  unfold targetS
  rcases h with ⟨h1, rfl⟩ | ⟨h1, rfl⟩
  · rw [if_pos h1]
  · rw [if_neg (by omega), if_pos h1]
theorem goesOn_iff (x : Instr) : goesOn x = true ↔ x.op ≠ 13 ∧ x.op ≠ 16 ∧ x.op ≠ 17 := by
  unfold goesOn; simp [and_assoc]

theorem nth_setB (R : List Bool) (n j : Nat) : nth (R.set n true) (j : Int) = if n = j ∧ j < R.length then true else nth R (j : Int) := by
  rw [nth_nat, nth_nat, List.getD_eq_getElem?_getD, List.getD_eq_getElem?_getD]
  by_cases h : n = j
  · subst h
    by_cases h2 : n < R.length
    · rw [if_pos ⟨rfl, h2⟩, List.getElem?_set_self h2]; rfl
    · rw [if_neg (by omega), List.set_eq_of_length_le (by omega)]
  · rw [if_neg (by omega), List.getElem?_set_ne h]
theorem setB_keep {R : List Bool} {n j : Nat} (h : nth R (j : Int) = true) : nth (R.set n true) (j : Int) = true := by
  rw [nth_setB]; split
  · rfl
  · exact h

def rowR (l : List Instr) (i : Nat) (R : List Bool) : List Bool :=
  if nth R i then
    let R1 := if (targetS (nth l i)).2 then R.set (targetS (nth l i)).1.toNat true else R
    if (nth l (i : Int)).op ≠ 13 ∧ (nth l (i : Int)).op ≠ 16 ∧ (nth l (i : Int)).op ≠ 17 then R1.set (i + 1) true else R1
  else R
theorem lookL_row (l : List Instr) (k i : Nat) (J R : List Bool) : ∃ J1, lookL l (k + 1) i J R = lookL l k (i + 1) J1 (rowR l i R) := by
  simp only [lookL, rowR]
  by_cases h : nth R (i : Int) = true
  · rw [if_pos h, if_pos h]; exact ⟨_, rfl⟩
  · rw [if_neg h, if_neg h]; exact ⟨_, rfl⟩
theorem rowR_keep {l : List Instr} {i : Nat} {R : List Bool} {j : Nat} (h : nth R (j : Int) = true) : nth (rowR l i R) (j : Int) = true := by
  unfold rowR
  split
  · have : nth (if (targetS (nth l i)).2 then R.set (targetS (nth l i)).1.toNat true else R) (j : Int) = true := by
      split
      · exact setB_keep h
      · exact h
    simp only
    split
    · exact setB_keep this
    · exact this
  · exact h
theorem rowR_len (l : List Instr) (i : Nat) (R : List Bool) : (rowR l i R).length = R.length := by
  unfold rowR
  split
  · simp only
    split <;> split <;> simp
  · rfl
theorem rowR_old {l : List Instr} (hl : Fit l) {i : Nat} (hi : i < l.length) {R : List Bool} {j : Nat} (h : j ≤ i) : nth (rowR l i R) (j : Int) = nth R (j : Int) := by
  unfold rowR
  split
  · have e : nth (if (targetS (nth l i)).2 then R.set (targetS (nth l i)).1.toNat true else R) (j : Int) = nth R (j : Int) := by
      split
      · rename_i ht
        have := hl.jmps hi (targetS_jmps ht)
        rw [nth_setB, if_neg (by omega)]
      · rfl
    simp only
    split
    · rw [nth_setB, if_neg (by omega), e]
    · exact e
  · rfl
theorem rowR_jmp {l : List Instr} (hl : Fit l) {i : Nat} (hi : i < l.length) {R : List Bool} (hR : R.length = l.length + 1) (h : nth R (i : Int) = true) {j : Nat} (hj : Jmps (nth l i) j) : nth (rowR l i R) (j : Int) = true := by
  have := hl.jmps hi hj
  unfold rowR
  rw [if_pos h, jmps_target hj]
  have e : nth (R.set (j : Int).toNat true) (j : Int) = true := by rw [nth_setB, if_pos (by omega)]
  simp only [if_true]
  split
  · exact setB_keep e
  · exact e
theorem rowR_on {l : List Instr} {i : Nat} (hi : i < l.length) {R : List Bool} (hR : R.length = l.length + 1) (h : nth R (i : Int) = true) (hg : goesOn (nth l i) = true) : nth (rowR l i R) ((i + 1 : Nat) : Int) = true := by
  unfold rowR
  rw [if_pos h]
  simp only
  rw [if_pos ((goesOn_iff _).1 hg), nth_setB, if_pos]
  refine ⟨rfl, ?_⟩
  split
  · rw [List.length_set]; omega
  · omega

theorem lookL_keep {l : List Instr} : ∀ (k i : Nat) (J R : List Bool) (j : Nat), nth R (j : Int) = true → nth (lookL l k i J R).2 (j : Int) = true := by
  intro k
  induction k with
  | zero => intro i J R j h; exact h
  | succ k ih =>
    intro i J R j h
    obtain ⟨J1, e⟩ := lookL_row l k i J R
    rw [e]
    exact ih _ _ _ _ (rowR_keep h)
theorem lookL_old {l : List Instr} (hl : Fit l) : ∀ (k i : Nat) (J R : List Bool) (j : Nat), i + k ≤ l.length → j ≤ i → nth (lookL l k i J R).2 (j : Int) = nth R (j : Int) := by
  intro k
  induction k with
  | zero => intro i J R j _ _; rfl
  | succ k ih =>
    intro i J R j hi h
    obtain ⟨J1, e⟩ := lookL_row l k i J R
    rw [e, ih _ _ _ _ (by omega) (by omega), rowR_old hl (by omega) h]
theorem lookL_fact {l : List Instr} (hl : Fit l) : ∀ (k i : Nat) (J R : List Bool), R.length = l.length + 1 → i + k ≤ l.length → ∀ q : Nat, i ≤ q → q < i + k → nth (lookL l k i J R).2 (q : Int) = true →
    (∀ j : Nat, Jmps (nth l q) j → nth (lookL l k i J R).2 (j : Int) = true) ∧ (goesOn (nth l q) = true → nth (lookL l k i J R).2 ((q + 1 : Nat) : Int) = true) := by
  intro k
  induction k with
  | zero => intro i J R _ _ q h1 h2; omega
  | succ k ih =>
    intro i J R hR hi q h1 h2 h
    obtain ⟨J1, e⟩ := lookL_row l k i J R
    rw [e] at h ⊢
    by_cases hq : q = i
    · subst hq
      rw [lookL_old hl _ _ _ _ _ (by omega) (by omega), rowR_old hl (by omega) (Nat.le_refl _)] at h
      exact ⟨fun j hj => lookL_keep _ _ _ _ _ (rowR_jmp hl (by omega) hR h hj), fun hg => lookL_keep _ _ _ _ _ (rowR_on (by omega) hR h hg)⟩
    · exact ih (i + 1) J1 (rowR l i R) (by rw [rowR_len, hR]) (by omega) q (by omega) (by omega) h

theorem look_fact {l : List Instr} (hl : Fit l) {q : Nat} (hq : q < l.length) (h : nth (lookS l).2 (q : Int) = true) :
    (∀ j : Nat, Jmps (nth l q) j → nth (lookS l).2 (j : Int) = true) ∧ (goesOn (nth l q) = true → nth (lookS l).2 ((q + 1 : Nat) : Int) = true) :=
  lookL_fact hl l.length 0 _ _ (by simp) (by omega) q (by omega) (by omega) h
theorem look_zero (l : List Instr) : nth (lookS l).2 ((0 : Nat) : Int) = true := by
  unfold lookS
  refine lookL_keep _ _ _ _ _ ?_
  rw [nth_setB, if_pos (by simp)]

end Go.Vm
end

section
namespace Go.Vm

def isT (x : Instr) : Bool := x.op == 14 || x.op == 15
def isJ (x : Instr) : Bool := x.op == 13
def tests (l : List Instr) : Nat := (l.map fun x => if isT x then 1 else 0).sum
def leaps (l : List Instr) : Nat := (l.map fun x => if isJ x then 1 else 0).sum
def slack (n : Nat) (l : List Instr) : Nat := (l.map fun x => if (targetS x).2 then n - (targetS x).1.toNat else 0).sum

def Less (l' l : List Instr) : Prop := l'.length < l.length ∨ (l'.length = l.length ∧ (tests l' < tests l ∨ (tests l' = tests l ∧ (leaps l' < leaps l ∨ (leaps l' = leaps l ∧ slack l'.length l' < slack l.length l)))))

theorem carry_id (p : Int) (x : Instr) : carryI p 1 0 x = x := by
  have : ∀ t, carryS p 1 0 t = t := by
    intro t; unfold carryS
    split
    · rfl
    · split <;> omega
  unfold carryI
  rw [this, this]
  split
  · rfl
  · split <;> rfl
theorem put_one (l : List Instr) (p : Nat) (y : Instr) : putS l (p : Int) 1 [y] = l.take p ++ y :: l.drop (p + 1) := by
  have := putS_nat l p 1 [y]
  simp only [Int.natCast_one] at this
  rw [this, show (([y] : List Instr).length : Int) - 1 = 0 from rfl, List.map_congr_left (g := id) fun x _ => carry_id p x]
  simp
theorem split_one (l : List Instr) (p : Nat) (h : p < l.length) : l = l.take p ++ nth l (p : Int) :: l.drop (p + 1) := by
  rw [← drop_nth h, List.take_append_drop]

theorem less_one {l : List Instr} {p : Nat} (hp : p < l.length) {y : Instr}
    (h : (isT y = false ∧ isT (nth l (p : Int)) = true) ∨ (isT y = isT (nth l (p : Int)) ∧ ((isJ y = false ∧ isJ (nth l (p : Int)) = true) ∨ (isJ y = isJ (nth l (p : Int)) ∧ (targetS y).2 = true ∧ (targetS (nth l (p : Int))).2 = true ∧ 0 ≤ (targetS (nth l (p : Int))).1 ∧ (targetS (nth l (p : Int))).1 < (targetS y).1 ∧ (targetS y).1 < l.length)))) : Less (putS l (p : Int) 1 [y]) l := by
  have hlen := put_len l p 1 [y] (by omega)
  simp only [Int.natCast_one, List.length_cons, List.length_nil] at hlen
  refine .inr ⟨by omega, ?_⟩
  rw [show (putS l (p : Int) 1 [y]).length = l.length by omega]
  rw [put_one]
  have hs := split_one l p hp
  generalize nth l (p : Int) = x at h hs
  generalize l.take p = A at *
  generalize l.drop (p + 1) = B at *
  generalize l.length = n at *
  subst hs
  simp only [tests, leaps, slack, List.map_append, List.map_cons, List.sum_append, List.sum_cons]
  rcases h with ⟨h1, h2⟩ | ⟨h1, ⟨h2, h3⟩ | ⟨h2, h3, h4, h5, h6, h7⟩⟩
  · left; rw [h1, h2]; simp
  · right; rw [h1]; refine ⟨rfl, ?_⟩; left; rw [h2, h3]; simp
  · right; rw [h1]; refine ⟨rfl, ?_⟩; right; rw [h2]; refine ⟨rfl, ?_⟩; rw [h3, h4]; simp only [if_true]; omega

theorem less_len {l : List Instr} {p g : Nat} {more : List Instr} (hp : p + g ≤ l.length) (h : more.length < g) : Less (putS l (p : Int) (g : Int) more) l := by
  left; rw [put_len l p g more hp]; omega

theorem isT_carry (p g b : Int) (x : Instr) : isT (carryI p g b x) = isT x := by unfold isT; rw [carryI_op]

theorem tests_carry (p g b : Int) (l : List Instr) : tests (l.map (carryI p g b)) = tests l := by
  simp only [tests, List.map_map]
  congr 1
  refine List.map_congr_left fun w _ => ?_
  simp only [Function.comp, isT_carry]

theorem less_two {l : List Instr} {p : Nat} (hp : p + 1 < l.length) {z : Instr} (hy : isT (nth l ((p : Int) + 1)) = true) (hz : isT z = false) : Less (putS l (p : Int) 2 [nth l (p : Int), z]) l := by
  have hlen := put_len l p 2 [nth l (p : Int), z] (by omega)
  have e := putS_nat l p 2 [nth l (p : Int), z]
  simp only [show ((2 : Nat) : Int) = 2 from rfl, List.length_cons, List.length_nil] at hlen e
  refine .inr ⟨by omega, .inl ?_⟩
  have hs := split_one l p (by omega)
  rw [drop_nth hp, show ((p + 1 : Nat) : Int) = (p : Int) + 1 by omega] at hs
  rw [e]
  generalize nth l (p : Int) = x at *
  generalize nth l ((p : Int) + 1) = y at *
  clear e hlen
  rw [tests_carry]
  conv => rhs; rw [hs]
  simp only [tests, List.map_append, List.map_cons, List.map_nil, List.sum_append, List.sum_cons, List.sum_nil, hy, hz, Nat.add_assoc p 1 1, show (1 : Nat) + 1 = 2 from rfl]
  simp
  omega

theorem alone_ok {l l' : List Instr} (hG : Sane l) (p : Nat) (hp : p < l.length) (h : aloneS l p = some l') : Sane l' ∧ Less l' l := by
  have hlast : goesOn (nth l (p : Int)) = true → p + 1 < l.length := by
    intro hg
    rcases Nat.lt_or_ge (p + 1) l.length with h1 | h1
    · exact h1
    · have := hG.last
      rw [show (l.length : Int) - 1 = (p : Int) by omega, hg] at this
      cases this
  have del : p + 1 < l.length → Sane (putS l (p : Int) 1 []) ∧ Less (putS l (p : Int) 1 []) l := fun h1 =>
    ⟨by have := good_put hG p 1 [] (by omega) (by simp) (by simp); simpa using this, by have := less_len (l := l) (p := p) (g := 1) (more := []) (by omega) (by simp); simpa using this⟩
  have rep : ∀ y : Instr, p + 1 < l.length → (∀ t, Jmps y t → (p : Int) + 1 ≤ t ∧ t < l.length) → Sane (putS l (p : Int) 1 [y]) := fun y h1 h2 => by
    have := good_put hG p 1 [y] (by omega) (by simp) (by intro x hx t ht; rw [List.mem_singleton.1 hx] at ht; exact h2 t ht)
    simpa using this
  unfold aloneS at h
  simp only at h
  generalize hx : nth l (p : Int) = x at h hlast
  by_cases c1 : x.op = 4 ∨ x.op = 5 ∨ x.op = 8
  · rw [if_pos c1] at h
    by_cases c2 : x.a = 0
    · rw [if_pos c2] at h
      simp only [Option.some.injEq] at h
      subst h
      exact del (hlast (by rw [goesOn_iff]; omega))
    · rw [if_neg c2] at h; cases h
  · rw [if_neg c1] at h
    by_cases c2 : x.op = 13
    · rw [if_pos c2] at h
      have hj := hG.fit.jmp p hp (by rw [hx]; exact c2)
      rw [hx] at hj
      by_cases c3 : x.a = (p : Int) + 1
      · rw [if_pos c3] at h
        simp only [Option.some.injEq] at h
        subst h
        exact del (by omega)
      · rw [if_neg c3] at h
        generalize hy : nth l x.a = y at h
        by_cases c4 : y.op = 13 ∨ y.op = 16 ∨ y.op = 17
        · rw [if_pos c4] at h
          simp only [Option.some.injEq] at h
          subst h
          have ex : x.a = ((x.a.toNat : Nat) : Int) := by omega
          have hyj : ∀ t, Jmps y t → x.a < t ∧ t < l.length := by
            intro t ht
            have := hG.fit.jmps (i := x.a.toNat) (t := t) (by omega) (by rw [← ex, hy]; exact ht)
            omega
          refine ⟨rep y (by omega) fun t ht => by have := hyj t ht; omega, less_one hp ?_⟩
          rw [hx]
          have tx : targetS x = (x.a, true) := jmps_target (.inl ⟨c2, rfl⟩)
          have i1 : isT x = false := by simp [isT, c2]
          have i2 : isJ x = true := by simp [isJ, c2]
          have i3 : isT y = false := by unfold isT; rcases c4 with c4 | c4 | c4 <;> rw [c4] <;> rfl
          rw [i1, i2, i3]
          refine .inr ⟨rfl, ?_⟩
          by_cases c5 : y.op = 13
          · have ty : targetS y = (y.a, true) := jmps_target (.inl ⟨c5, rfl⟩)
            have := hyj y.a (.inl ⟨c5, rfl⟩)
            right
            rw [tx, ty]
            exact ⟨by simp [isJ, c5], rfl, rfl, by simp only; omega, by simp only; omega, by simp only; omega⟩
          · left; exact ⟨by simp [isJ, c5], rfl⟩
        · rw [if_neg c4] at h; cases h
    · rw [if_neg c2] at h
      by_cases c3 : x.op = 14 ∨ x.op = 15
      · rw [if_pos c3] at h
        have hj := hG.fit.tst p hp (by rw [hx]; exact c3)
        rw [hx] at hj
        generalize hy : nth l x.b = y at h
        by_cases c4 : y.op = 13
        · rw [if_pos c4] at h
          simp only [Option.some.injEq] at h
          subst h
          have ex : x.b = ((x.b.toNat : Nat) : Int) := by omega
          have hyj := hG.fit.jmps (i := x.b.toNat) (t := y.a) (by omega) (by rw [← ex, hy]; exact .inl ⟨c4, rfl⟩)
          refine ⟨rep _ (by omega) fun t ht => ?_, less_one hp ?_⟩
          · rcases ht with ⟨h1, _⟩ | ⟨_, h2⟩
            · simp only at h1; omega
            · simp only at h2; omega
          · rw [hx]
            have tx : targetS x = (x.b, true) := jmps_target (.inr ⟨c3, rfl⟩)
            have ty : targetS ⟨x.op, x.a, y.a⟩ = (y.a, true) := jmps_target (.inr ⟨c3, rfl⟩)
            rw [tx, ty]
            exact .inr ⟨rfl, .inr ⟨rfl, rfl, rfl, by simp only; omega, by simp only; omega, by simp only; omega⟩⟩
        · rw [if_neg c4] at h; cases h
      · rw [if_neg c3] at h; cases h

theorem both_ok {l l' : List Instr} (hG : Sane l) (p : Nat) (hp : p + 1 < l.length) (h : bothS l p = some l') : Sane l' ∧ Less l' l := by
  have e1 : ((p + 1 : Nat) : Int) = (p : Int) + 1 := by omega
  have hlast : goesOn (nth l ((p : Int) + 1)) = true → p + 2 < l.length := by
    intro hg
    rcases Nat.lt_or_ge (p + 2) l.length with h1 | h1
    · exact h1
    · have := hG.last
      rw [show (l.length : Int) - 1 = (p : Int) + 1 by omega, hg] at this
      cases this
  have rep : ∀ more : List Instr, more.length ≤ 1 → p + 2 < l.length → (∀ x ∈ more, ∀ t, ¬ Jmps x t) → Sane (putS l (p : Int) 2 more) ∧ Less (putS l (p : Int) 2 more) l := fun more h1 h2 h3 =>
    ⟨good_put hG p 2 more (by omega) (by omega) fun x hx t ht => absurd ht (h3 x hx t), less_len (l := l) (p := p) (g := 2) (more := more) (by omega) (by omega)⟩
  have no : ∀ x : Instr, x.op ≠ 13 → x.op ≠ 14 → x.op ≠ 15 → ∀ t, ¬ Jmps x t := by
    intro x h1 h2 h3 t ht
    rcases ht with ⟨h, _⟩ | ⟨h, _⟩ <;> omega
  have one : ∀ x : Instr, x.op ≠ 13 → x.op ≠ 14 → x.op ≠ 15 → ∀ z ∈ [x], ∀ t, ¬ Jmps z t := by
    intro x h1 h2 h3 z hz
    rw [List.mem_singleton.1 hz]
    exact no x h1 h2 h3
  unfold bothS at h
  simp only at h
  generalize hx : nth l (p : Int) = x at h
  generalize hy : nth l ((p : Int) + 1) = y at h hlast
  have hgo : y.op ≠ 13 ∧ y.op ≠ 16 ∧ y.op ≠ 17 → p + 2 < l.length := fun h => hlast ((goesOn_iff y).2 h)
  by_cases c1 : x.op = y.op ∧ (x.op = 4 ∨ x.op = 5)
  · rw [if_pos c1] at h
    simp only [Option.some.injEq] at h
    subst h
    exact rep _ (by simp) (hgo (by omega)) (one _ (by simp only; omega) (by simp only; omega) (by simp only; omega))
  rw [if_neg c1] at h
  by_cases c2 : x.op = 5 ∧ y.op = 4 ∧ 0 < y.a
  · rw [if_pos c2] at h
    simp only [Option.some.injEq] at h
    subst h
    exact rep _ (by simp) (hgo (by omega)) (one _ (by simp) (by simp) (by simp))
  rw [if_neg c2] at h
  by_cases c3 : (x.op = 1 ∨ x.op = 2) ∧ y.op = 4 ∧ 0 < y.a
  · rw [if_pos c3] at h
    simp only [Option.some.injEq] at h
    subst h
    exact rep _ (by simp) (hgo (by omega)) (one _ (by simp) (by simp) (by simp))
  rw [if_neg c3] at h
  by_cases c4 : x.op = 1 ∧ x.a = 0 ∧ y.op = 5 ∧ y.a = 1
  · rw [if_pos c4] at h
    simp only [Option.some.injEq] at h
    subst h
    exact rep _ (by simp) (hgo (by omega)) (by simp)
  rw [if_neg c4] at h
  by_cases c5 : y.op = 11 ∧ (x.op = 11 ∨ x.op = 3 ∨ x.op = 9 ∨ x.op = 12)
  · rw [if_pos c5] at h
    simp only [Option.some.injEq] at h
    subst h
    exact rep _ (by simp) (hgo (by omega)) (one _ (by omega) (by omega) (by omega))
  rw [if_neg c5] at h
  by_cases c6 : (x.op = 3 ∧ y.op = 15) ∨ (x.op = 9 ∧ y.op = 14)
  · rw [if_pos c6] at h
    have hn := hgo (by omega)
    by_cases c7 : x.a = y.a
    · rw [if_pos c7] at h
      simp only [Option.some.injEq] at h
      subst h
      exact rep _ (by simp) hn (one _ (by omega) (by omega) (by omega))
    · rw [if_neg c7] at h
      simp only [Option.some.injEq] at h
      subst h
      have hj := hG.fit.tst (p + 1) hp (by rw [e1, hy]; omega)
      rw [e1, hy] at hj
      refine ⟨good_put hG p 2 _ (by omega) (by simp) fun z hz t ht => ?_, ?_⟩
      · simp only [List.mem_cons, List.not_mem_nil, or_false] at hz
        rcases hz with rfl | rfl
        · exact absurd ht (no _ (by omega) (by omega) (by omega) t)
        · rcases ht with ⟨_, h2⟩ | ⟨h1, _⟩
          · simp only at h2; omega
          · simp only at h1; omega
      · have := less_two (l := l) (p := p) hp (z := ⟨13, y.b, 0⟩) (by rw [hy]; unfold isT; rcases c6 with ⟨_, c⟩ | ⟨_, c⟩ <;> rw [c] <;> rfl) rfl
        rw [hx] at this
        exact this
  · rw [if_neg c6] at h; cases h

theorem scan_ok {l l' : List Instr} (hG : Sane l) : ∀ (k p : Nat), p + k = l.length → (∀ q : Nat, q < p → nth (lookS l).2 (q : Int) = true) → scanS l (lookS l).1 (lookS l).2 k p = some l' → Sane l' ∧ Less l' l := by
  intro k
  induction k with
  | zero => intro p _ _ h; cases h
  | succ k ih =>
    intro p hp hq h
    simp only [scanS] at h
    by_cases c1 : nth (lookS l).2 (p : Int) = false
    · rw [if_pos c1] at h
      simp only [Option.some.injEq] at h
      subst h
      refine ⟨?_, by have := less_len (l := l) (p := p) (g := 1) (more := []) (by omega) (by simp); simpa using this⟩
      by_cases c2 : p + 1 < l.length
      · have := good_put hG p 1 [] (by omega) (by simp) (by simp); simpa using this
      · have hpos : 0 < p := by
          rcases Nat.eq_zero_or_pos p with h0 | h0
          · subst h0; rw [look_zero] at c1; cases c1
          · exact h0
        refine good_cut hG p (by omega) hpos (fun i t hi hj ht => ?_) ?_
        · subst ht
          have := (look_fact hG.fit (by omega) (hq i hi)).1 p hj
          rw [this] at c1; cases c1
        · have h2 := (look_fact hG.fit (q := p - 1) (by omega) (hq (p - 1) (by omega))).2
          rw [show p - 1 + 1 = p by omega, c1] at h2
          rw [show (p : Int) - 1 = ((p - 1 : Nat) : Int) by omega]
          cases h3 : goesOn (nth l ((p - 1 : Nat) : Int)) with
          | false => rfl
          | true => exact absurd (h2 h3) (by simp)
    · rw [if_neg c1] at h
      have hq' : ∀ q : Nat, q < p + 1 → nth (lookS l).2 (q : Int) = true := by
        intro q hq1
        rcases Nat.lt_or_ge q p with h1 | h1
        · exact hq q h1
        · rw [show q = p by omega]; simpa using c1
      cases ha : aloneS l p with
      | some r =>
        rw [ha] at h
        simp only [Option.some.injEq] at h
        subst h
        exact alone_ok hG p (by omega) ha
      | none =>
        rw [ha] at h
        simp only at h
        by_cases c3 : (p : Int) + 1 = l.length ∨ nth (lookS l).1 ((p : Int) + 1) = true
        · rw [if_pos c3] at h
          exact ih (p + 1) (by omega) hq' h
        · rw [if_neg c3] at h
          cases hb : bothS l p with
          | some r =>
            rw [hb] at h
            simp only [Option.some.injEq] at h
            subst h
            exact both_ok hG p (by omega) hb
          | none =>
            rw [hb] at h
            exact ih (p + 1) (by omega) hq' h

theorem step_ok {l l' : List Instr} (hG : Sane l) (h : stepS l = some l') : Sane l' ∧ Less l' l :=
  scan_ok hG l.length 0 (by omega) (fun q hq => by omega) h

def mu (l : List Instr) : Nat × Nat × Nat × Nat := (l.length, tests l, leaps l, slack l.length l)
theorem runS_ends : ∀ (l : List Instr), Sane l → ∃ n r, runS n l = some r := by
  have wf : WellFounded (fun a b : List Instr => Prod.Lex (· < ·) (Prod.Lex (· < ·) (Prod.Lex (· < ·) (· < ·))) (mu a) (mu b)) :=
    InvImage.wf mu (Prod.lex Nat.lt_wfRel (Prod.lex Nat.lt_wfRel (Prod.lex Nat.lt_wfRel Nat.lt_wfRel))).wf
  intro l
  induction l using wf.induction with
  | _ l ih =>
    intro hG
    cases h : stepS l with
    | none => exact ⟨1, l, by simp only [runS, h]⟩
    | some l' =>
      obtain ⟨h1, h2⟩ := step_ok hG h
      obtain ⟨n, r, h3⟩ := ih l' (by
        unfold mu
        rcases h2 with h2 | ⟨e, h2 | ⟨e2, h2 | ⟨e3, h2⟩⟩⟩
        · exact .left _ _ h2
        · rw [e]; exact .right _ (.left _ _ h2)
        · rw [e, e2]; exact .right _ (.right _ (.left _ _ h2))
        · rw [e2, e3]
          rw [e] at h2 ⊢
          exact .right _ (.right _ (.right _ h2))) h1
      exact ⟨n + 1, r, by simp only [runS, h]; exact h3⟩

end Go.Vm
end

section
namespace Go.Vm

theorem numsL_mem {ng ns nc : Int} {l : List Instr} : ∀ (k i : Nat), numsL ng ns nc l k i = 0 → ∀ q : Nat, i ≤ q → q < i + k → numsS ng ns nc q (nth l q) = 0 := by
  intro k
  induction k with
  | zero => intro i _ q h1 h2; omega
  | succ k ih =>
    intro i h q h1 h2
    simp only [numsL] at h
    by_cases c : numsS ng ns nc i (nth l i) = 0
    · rw [if_pos c] at h
      by_cases hq : q = i
      · rw [hq]; exact c
      · exact ih (i + 1) h q (by omega) (by omega)
    · rw [if_neg c] at h; exact absurd h c

theorem depL_last {sh : List Shape} {cd : List Instr} : ∀ (k i : Nat) (Dp : List Int), i + k = cd.length → 0 < k → depL sh cd k i Dp = 0 → goesOn (nth cd ((cd.length : Int) - 1)) = false := by
  intro k
  induction k with
  | zero => intro i Dp _ h; omega
  | succ k ih =>
    intro i Dp hi _ h
    by_cases hk : 0 < k
    · have hne : ¬ ((i : Int) + 1 = cd.length) := by omega
      simp only [depL] at h
      split at h
      · cases h
      · split at h
        · cases h
        · split at h
          · split at h
            · cases h
            · split at h
              · split at h
                · cases h
                · exact ih _ _ (by omega) hk h
              · exact ih _ _ (by omega) hk h
          · split at h
            · split at h
              · cases h
              · exact ih _ _ (by omega) hk h
            · exact ih _ _ (by omega) hk h
    · have he : (i : Int) + 1 = cd.length := by omega
      rw [show (cd.length : Int) - 1 = (i : Int) by omega]
      cases hg : goesOn (nth cd (i : Int)) with
      | false => rfl
      | true =>
        exfalso
        simp only [depL] at h
        split at h
        · cases h
        · split at h
          · cases h
          · cases h

theorem check_sane {ng : Nat} {sh : List Shape} {g : Glob} (hlen : g.code.length ≤ 8000) (h : checkCodeS ng sh g = 0) : Sane g.code := by
  unfold checkCodeS at h
  by_cases c1 : numsL ng sh.length g.code.length g.code g.code.length 0 = 0
  · rw [if_pos c1] at h
    by_cases c2 : g.code.length = 0
    · rw [if_pos c2] at h; cases h
    · rw [if_neg c2] at h
      refine ⟨⟨by omega, fun i hi ho => ?_, fun i hi ho => ?_⟩, by omega, depL_last _ 0 _ (by omega) (by omega) h⟩
      · exact (numsS_ok (numsL_mem _ _ c1 i (by omega) (by omega))).jmp ho
      · exact (numsS_ok (numsL_mem _ _ c1 i (by omega) (by omega))).tst ho
  · rw [if_neg c1] at h; exact absurd h c1

theorem codesS_mem {ng : Nat} {sh : List Shape} : ∀ (l : List Glob), codesS ng sh l = 0 → ∀ g ∈ l, checkCodeS ng sh g = 0 := by
  intro l
  induction l with
  | nil => intro _ g hg; simp at hg
  | cons a l ih =>
    intro h g hg
    simp only [codesS] at h
    split at h
    · rename_i c
      rcases List.mem_cons.1 hg with rfl | hg
      · exact c
      · exact ih h g hg
    · rename_i c; exact absurd h c

structure Fine (t : Table) : Prop where
  great : greatS t = false
  names : namesOk 8 (t.shapes.map fun s => (s.name, s.fields)) [] = true
  heads : headsOk t.shapes = true
  gnames : namesOk 24 (t.globals.map fun g => (g.name, g.arity)) [] = true
  codes : ∀ g ∈ t.globals, checkCodeS t.globals.length t.shapes g = 0

theorem codesS_all {ng : Nat} {sh : List Shape} : ∀ (l : List Glob), (∀ g ∈ l, checkCodeS ng sh g = 0) → codesS ng sh l = 0 := by
  intro l
  induction l with
  | nil => intro _; rfl
  | cons a l ih =>
    intro h
    simp only [codesS]
    rw [if_pos (h a (by simp))]
    exact ih fun g hg => h g (by simp [hg])

theorem fine_iff (t : Table) : checkS t = 0 ↔ Fine t := by
  unfold checkS
  constructor
  · intro h
    split at h
    · cases h
    · split at h
      · cases h
      · split at h
        · cases h
        · split at h
          · cases h
          · rename_i h1 h2 h3 h4
            exact ⟨by simpa using h1, by simpa using h2, by simpa using h3, by simpa using h4, codesS_mem _ h⟩
  · intro h
    rw [if_neg (by rw [h.great]; simp), if_neg (by rw [h.names]; simp), if_neg (by rw [h.heads]; simp), if_neg (by rw [h.gnames]; simp)]
    exact codesS_all _ h.codes

theorem Fine.sane {t : Table} (h : Fine t) {g : Glob} (hg : g ∈ t.globals) : Sane g.code :=
  check_sane ((greatS_f h.great).2.2 g hg) (h.codes g hg)

open Classical in
noncomputable def betterS (l : List Instr) : List Instr := if h : ∃ r, ∃ n, runS n l = some r then h.choose else l
theorem betterS_run {l : List Instr} (h : Sane l) : ∃ n, runS n l = some (betterS l) := by
  obtain ⟨n, r, hr⟩ := runS_ends l h
  have hx : ∃ r, ∃ n, runS n l = some r := ⟨r, n, hr⟩
  unfold betterS
  rw [dif_pos hx]
  exact hx.choose_spec

theorem ev_better_S (K : Cx) (hloc : ∀ f, K.loc f = true) (h33 : K33 K) (h34 : K34 K) (h35 : K35 K) (h36 : K36 K) (h37 : K37 K) (h38 : K38 K) (l : List Instr) (h : Sane l) :
    runFun K f18 [.d false (.sl 3 (l.map eInstr))] [] = some (.fs true 3 ((betterS l).map eInstr), [], []) := by
  obtain ⟨n, hn⟩ := betterS_run h
  exact ev_better K hloc h33 h34 h35 h36 h37 h38 Sane (fun l h => h.fit) (fun l l' h hs => (step_ok h hs).1) n l _ h (by intro e; have := h.ne; rw [e] at this; simp at this) hn

theorem headsOk_ne {sh : List Shape} (h : headsOk sh = true) : sh ≠ [] := by
  intro e; subst e; revert h; decide

def failG (g : Glob) : Glob := ⟨g.name, g.arity, [⟨16, 1, 0⟩]⟩

end Go.Vm
end

section
namespace Go.Vm

def altL (k : Int) : Nat → List Glob → List Glob
  | _, [] => []
  | i, g :: r => (if (i : Int) = k then g else failG g) :: altL k (i + 1) r

theorem altL_len (k : Int) : ∀ (l : List Glob) (i : Nat), (altL k i l).length = l.length := by
  intro l
  induction l with
  | nil => intro i; rfl
  | cons g l ih => intro i; simp only [altL, List.length_cons, ih]
theorem altL_nth (k : Int) : ∀ (l : List Glob) (i j : Nat), j < l.length → nth (altL k i l) (j : Int) = if ((i + j : Nat) : Int) = k then nth l (j : Int) else failG (nth l (j : Int)) := by
  intro l
  induction l with
  | nil => intro i j h; simp at h
  | cons g l ih =>
    intro i j h
    cases j with
    | zero => simp only [altL, nth_nat, Nat.add_zero]; rfl
    | succ j =>
      have := ih (i + 1) j (by simpa using h)
      simp only [altL, nth_nat] at this ⊢
      rw [show i + (j + 1) = i + 1 + j by omega]
      simpa using this
theorem altL_names (k : Int) : ∀ (l : List Glob) (i : Nat), (altL k i l).map (fun g => (g.name, g.arity)) = l.map fun g => (g.name, g.arity) := by
  intro l
  induction l with
  | nil => intro i; rfl
  | cons g l ih =>
    intro i
    simp only [altL, List.map_cons, ih]
    congr 1
    split <;> rfl
theorem altL_mem (k : Int) : ∀ (l : List Glob) (i : Nat), ∀ g ∈ altL k i l, g ∈ l ∨ ∃ g0 ∈ l, g = failG g0 := by
  intro l
  induction l with
  | nil => intro i g hg; simp [altL] at hg
  | cons a l ih =>
    intro i g hg
    simp only [altL, List.mem_cons] at hg
    rcases hg with rfl | hg
    · split
      · left; simp
      · right; exact ⟨a, by simp, rfl⟩
    · rcases ih _ _ hg with h | ⟨g0, h, e⟩
      · left; simp [h]
      · right; exact ⟨g0, by simp [h], e⟩

theorem greatL_alt (k : Int) : ∀ (l : List Glob) (i : Nat) (n n' m : Int), n' ≤ n → (∀ g ∈ l, 0 < g.code.length) → greatL l n = some m → ∃ m', greatL (altL k i l) n' = some m' ∧ m' ≤ m := by
  intro l
  induction l with
  | nil => intro i n n' m h _ h2; simp only [greatL, Option.some.injEq] at h2; subst h2; exact ⟨n', rfl, h⟩
  | cons g l ih =>
    intro i n n' m h hp h2
    have hg := hp g (by simp)
    simp only [greatL, altL] at h2 ⊢
    split at h2
    · cases h2
    · rename_i hc
      split
      · exact ih _ _ _ _ (by omega) (fun g hg => hp g (by simp [hg])) h2
      · rw [if_neg (by simp [failG])]
        refine ih _ _ _ _ ?_ (fun g hg => hp g (by simp [hg])) h2
        simp only [failG, List.length_cons, List.length_nil]
        omega

theorem check_fail {ng : Nat} {sh : List Shape} {g : Glob} (h : 0 ≤ g.arity ∧ g.arity ≤ 24) : checkCodeS ng sh (failG g) = 0 := by
  have e1 : numsS (ng : Int) (sh.length : Int) ((1 : Nat) : Int) ((0 : Nat) : Int) ⟨16, 1, 0⟩ = 0 := by
    simp [numsS, formS, formT, nth, numberS]
  have n0 : nth [(⟨16, 1, 0⟩ : Instr)] ((0 : Nat) : Int) = ⟨16, 1, 0⟩ := rfl
  have n1 : nth [g.arity + 1] ((0 : Nat) : Int) = g.arity + 1 := rfl
  have e0 : (failG g).code = [⟨16, 1, 0⟩] := rfl
  have e2 : (failG g).arity = g.arity := rfl
  unfold checkCodeS
  rw [e0, e2]
  simp only [List.length_cons, List.length_nil, Nat.zero_add, numsL, n0, e1, if_true]
  rw [if_neg (by omega)]
  have st : stackedS sh ⟨16, 1, 0⟩ (g.arity + 1) = (g.arity + 1, true) := by
    simp [stackedS]; omega
  simp only [List.replicate, List.set_cons_zero, depL, n0, n1, st]
  rw [if_neg (by omega)]
  simp [goesOn, targI]

def altT (k : Int) (t : Table) : Table := ⟨t.shapes, altL k 0 t.globals⟩
theorem fine_alt {t : Table} (k : Int) (h : Fine t) : Fine (altT k t) := by
  refine ⟨?_, h.names, h.heads, ?_, ?_⟩
  · have hg := h.great
    unfold greatS at hg ⊢
    cases hm : greatL t.globals 0 with
    | none => rw [hm] at hg; cases hg
    | some m =>
      rw [hm] at hg
      obtain ⟨m', e, hle⟩ := greatL_alt k t.globals 0 0 0 m (by omega) (fun g hg => (h.sane hg).ne) hm
      simp only [altT] at *
      rw [e]
      simp only [altL_len, Bool.or_eq_false_iff, decide_eq_false_iff_not] at hg ⊢
      exact ⟨⟨decide_eq_false hg.1.1, hg.1.2⟩, by omega⟩
  · have := h.gnames
    simp only [altT, altL_names]
    exact this
  · intro g hg
    have hl : (altT k t).globals.length = t.globals.length := altL_len k _ _
    rw [hl]
    rcases altL_mem k _ _ g hg with h1 | ⟨g0, h1, rfl⟩
    · exact h.codes g h1
    · have := namesOk_mem _ _ _ h.gnames (g0.name, g0.arity) (List.mem_map.2 ⟨g0, h1, rfl⟩)
      exact check_fail this.2

end Go.Vm
end

section
namespace Go.Vm
/- 'sloth/slothlaw19.awake' -/
def f6 : Fun := ⟨
 (.seq
  (.reg [⟨[], [], [(.bool false)], none, [], 1, [], [], []⟩])
  (.seq
   (.reg [⟨[(9, .lits 3 (.cons (.set 1 1 (.int .i64 1) (.set 0 1 (.int .i64 7) (.agg (.cons (.int .i64 0) (.cons (.int .i64 0) (.cons (.int .i64 0) .nil)))))) (.cons (.set 0 1 (.int .i64 17) (.agg (.cons (.int .i64 0) (.cons (.int .i64 0) (.cons (.int .i64 0) .nil))))) .nil)))], [(1, (.sl 9))], [], none, [], 4, [], [], []⟩])
   (.seq
    (.reg [⟨[(13, .lits 3 (.cons (.set 1 1 (.int .i64 3) (.set 0 1 (.int .i64 3) (.agg (.cons (.int .i64 0) (.cons (.int .i64 0) (.cons (.int .i64 0) .nil)))))) (.cons (.set 0 1 (.int .i64 11) (.agg (.cons (.int .i64 0) (.cons (.int .i64 0) (.cons (.int .i64 0) .nil))))) (.cons (.set 0 1 (.int .i64 11) (.agg (.cons (.int .i64 0) (.cons (.int .i64 0) (.cons (.int .i64 0) .nil))))) .nil))))], [], [], some (some 15, .app 3 (.sl 13) (.sl 1)), [1], 6, [], [], []⟩, ⟨[], [(2, (.sl 15))], [], none, [1], 1, [], [], []⟩])
    (.seq
     (.reg [⟨[(17, .callo 14 .nil), (20, .lits 3 (.cons (.set 2 1 (.sl 2) (.set 0 1 (.str [102]) (.agg (.cons (.str []) (.cons (.int .i64 0) (.cons (.nilsl 3) .nil)))))) .nil))], [(21, (.set 1 1 (.sl 20) (.set 0 1 (.sl 17) (.agg (.cons (.nilsl 2) (.cons (.nilsl 3) .nil))))))], [], none, [1], 5, [], [], []⟩, ⟨[(3, .box (.agg (.cons (.nilsl 2) (.cons (.nilsl 3) .nil))))], [(24, (.ext 1 (.call 9 (.cons (.sl 21) .nil))))], [], some (none, .store 2 (.sl 3) (.ext 0 (.call 9 (.cons (.sl 21) .nil)))), [1, 3], 6, [], [], []⟩, ⟨[], [(4, (.sl 24))], [], none, [1, 3], 1, [], [], []⟩])
     (.seq
      (.reg [⟨[(26, .lits 3 (.cons (.set 1 1 (.int .i64 3) (.set 0 1 (.int .i64 3) (.agg (.cons (.int .i64 0) (.cons (.int .i64 0) (.cons (.int .i64 0) .nil)))))) .nil))], [], [], some (some 28, .app 3 (.sl 26) (.sl 1)), [3, 4], 4, [], [], []⟩, ⟨[], [(5, (.sl 28))], [], none, [3, 4], 1, [], [], []⟩])
      (.seq
       (.reg [⟨[(30, .callo 14 .nil), (33, .lits 3 (.cons (.set 2 1 (.sl 5) (.set 0 1 (.str [102]) (.agg (.cons (.str []) (.cons (.int .i64 0) (.cons (.nilsl 3) .nil)))))) .nil))], [(29, (.ld 2 true (.sl 3))), (34, (.set 1 1 (.sl 33) (.set 0 1 (.sl 30) (.agg (.cons (.nilsl 2) (.cons (.nilsl 3) .nil))))))], [], none, [4], 6, [[], [], [], [2], [2, 3], [3, 2, 4, 1], [1, 4, 2, 3, 5, 0], [0, 5, 3, 2, 4, 1, 6]], [], []⟩, ⟨[], [(6, (.call 10 (.cons (.sl 29) (.cons (.sl 34) .nil))))], [], none, [4], 2, [], [], []⟩])
       (.seq
        (.reg [⟨[], [(0, (.and (.bin .eql (.sl 4) (.int .i64 0)) (.sl 6)))], [], none, [], 6, [], [], []⟩])
        (.seq
         (.tidy 0 [0])
         .ret)))))))),
 [(.sl 0)], false⟩
theorem f6_ok : funOk Go.Proofs.Try.prog 6 0 0 f6 = true := by kernel_rfl


theorem runS_mono : ∀ (n m : Nat) (l r : List Instr), n ≤ m → runS n l = some r → runS m l = some r := by
  intro n
  induction n with
  | zero => intro m l r _ h; cases h
  | succ n ih =>
    intro m l r hm h
    obtain ⟨m, rfl⟩ : ∃ k, m = k + 1 := ⟨m - 1, by omega⟩
    simp only [runS] at h ⊢
    cases hs : stepS l with
    | none => rw [hs] at h; exact h
    | some l' => rw [hs] at h; exact ih m l' r (by omega) h
theorem betterS_is {l r : List Instr} {n : Nat} (h : runS n l = some r) : betterS l = r := by
  have hx : ∃ r, ∃ n, runS n l = some r := ⟨r, n, h⟩
  have e : betterS l = hx.choose := by unfold betterS; rw [dif_pos hx]
  obtain ⟨m, hm⟩ := hx.choose_spec
  rw [e]
  have h1 := runS_mono n (max n m) _ _ (by omega) h
  have h2 := runS_mono m (max n m) _ _ (by omega) hm
  rw [h1] at h2
  simpa using h2.symm

noncomputable def peepV (t : Table) : V := if checkS t = 0 then .tup [.agg [.d true (.sl 2 (t.shapes.map eShape)), outGl (t.globals.map (doneG betterS))], .d false (.int .i64 0)]
  else .tup [.agg [.fs true 2 [], .fs true 3 []], .d false (.int .i64 (checkS t))]
def K9 (K : Cx) : Prop := ∀ t : Table, TabOk t → K.call 9 [tabV false false t] = some (peepV t, [])
def K10 (K : Cx) : Prop := ∀ t u : Table, TabOk t → K.call 10 [tabV false false t, tabV false false u] = some (.d false (.bool (sameS t u)), [])
def K14 (K : Cx) : Prop := K.call 14 [] = some (.bsl 0 0 7, [.dat true 2 (givenS.map eShape)])

def codeA : List Instr := [⟨3, 3, 0⟩, ⟨11, 0, 0⟩, ⟨11, 0, 0⟩, ⟨7, 1, 0⟩, ⟨17, 0, 0⟩]
def codeB : List Instr := [⟨3, 3, 0⟩, ⟨7, 1, 0⟩, ⟨17, 0, 0⟩]
def tabA : Table := ⟨givenS, [⟨[102], 0, codeA⟩]⟩
def tabA2 : Table := ⟨givenS, [⟨[102], 0, codeB⟩]⟩
theorem runA : runS 5 codeA = some codeB := by decide
theorem betterA : betterS codeA = codeB := betterS_is runA
theorem checkA : checkS tabA = 0 := by decide

theorem o2_nl {α β γ : Type} (f : α → β → Option γ) (y : Option β) : o2 f none y = none := rfl
theorem o2_nr {α β γ : Type} (f : α → β → Option γ) (x : Option α) : o2 f x none = none := by cases x <;> rfl
theorem okA : TabOk tabA := ⟨by decide, by decide, by decide, by decide, by decide, by decide⟩
theorem okA2 : TabOk tabA2 := ⟨by decide, by decide, by decide, by decide, by decide, by decide⟩
theorem sameA : sameS tabA2 tabA2 = true := by decide

theorem ev_awake (K : Cx) (hloc : ∀ f, K.loc f = true) (h9 : K9 K) (h10 : K10 K) (h14 : K14 K) : runFun K f6 [] [] = some (.d false (.bool true), [], []) := by
  have c0 := h9 tabA okA
  have c1 := h10 tabA2 tabA2 okA2
  unfold K14 at h14
  rw [sameA] at c1
  have hv : peepV tabA = .tup [.agg [.d true (.sl 2 (givenS.map eShape)), .d true (.sl 3 (tabA2.globals.map eGlob))], .d false (.int .i64 0)] := by
    unfold peepV
    rw [if_pos checkA]
    have : tabA.globals.map (doneG betterS) = tabA2.globals := by
      simp only [tabA, tabA2, List.map_cons, List.map_nil, doneG, betterA]
    rw [this]
    rfl
  rw [hv] at c0
  unfold tabV at c0 c1
  simp only [tabA, tabA2, codeA, codeB, List.map_cons, List.map_nil, eGlob_eq, eInstr_eq] at c0 c1
  have h7 : givenS.length = 7 := rfl
  generalize givenS = G at *
  simp (disch := first | decide | omega | (simp only [LN]; omega) | (simp only [LN]; done) | fail) only [SV, f6, Bool.and_self, evSet, V.laid, V.cell, V.cells, Nat.zero_add, beq_self_eq_true, Nat.reduceAdd, decide_true, if_true, asD, V.new1, D.flat, Bool.or_true, Nat.reduceBEq, Nat.le_refl, Bool.or_self, lose, V.forget, V.drop1, beq_iff_eq, V.ref0, reduceCtorEq, if_false, h14, Bool.not_false, V.new2, V.newR, V.shift, o2_nl, o2_nr, V.own, V.own1, Bool.or_false, V.new, Bool.and_true, V.flatV, V.flat1, hloc, view, viewD, h7, c0, Bool.not_true, Bool.and_false, Bool.false_eq_true, evExt, List.getElem?_cons_succ, List.getElem?_cons_zero, Nat.reduceEqDiff, c1, evBin, intBin, V.refs, oneOr, finV, finA, finC]
end Go.Vm
end

section
namespace Go.Vm
/- 'sloth/slothlaw19.PeepAlone' -/
def f5_L0 : C :=
 (.seq
  (.seq
   (.reg [⟨[], [(49, (.bin .lss (.sl 9) (.len false (.ld 1 false (.fa 1 (.sl 2))))))], [], none, [1, 2, 6, 8, 9], 5, [], [], []⟩])
   (.cond (.sl 49)
    .skip
    (.seq
     (.tidy 0 [1, 2, 6, 8])
     (.exit 0))))
  (.seq
   (.block 1
    (.seq
     (.reg [⟨[(10, .box (.agg (.cons (.str []) (.cons (.int .i64 0) (.cons (.nilsl 3) .nil)))))], [], [], some (none, .store 3 (.sl 10) (.ld 3 true (.ia 3 (.ld 1 false (.fa 1 (.sl 2))) (.sl 9)))), [1, 2, 6, 8, 9, 10], 7, [], [], []⟩])
     (.seq
      (.seq
       (.reg [⟨[], [(59, (.bin .neq (.sl 9) (.sl 1)))], [], none, [1, 2, 6, 8, 9, 10], 3, [], [], []⟩])
       (.cond (.sl 59)
        (.reg [⟨[(65, .lits 3 (.cons (.set 1 1 (.int .i64 1) (.set 0 1 (.int .i64 16) (.agg (.cons (.int .i64 0) (.cons (.int .i64 0) (.cons (.int .i64 0) .nil)))))) .nil))], [], [], some (none, .store 3 (.sl 10) (.set 2 1 (.sl 65) (.set 1 1 (.ld 1 false (.fa 1 (.sl 10))) (.set 0 1 (.ld 1 false (.fa 0 (.sl 10))) (.agg (.cons (.str []) (.cons (.int .i64 0) (.cons (.nilsl 3) .nil)))))))), [1, 2, 6, 8, 9, 10], 8, [], [], []⟩])
        .skip))
      (.seq
       (.frz 0 10 2)
       (.reg [⟨[(70, .lits 3 (.cons (.ld 3 true (.sl 10)) .nil))], [], [], some (some 71, .app 3 (.ld 1 false (.fa 1 (.sl 8))) (.sl 70)), [1, 2, 6, 8, 9], 5, [], [], []⟩, ⟨[], [], [], some (none, .store 1 (.fa 1 (.sl 8)) (.sl 71)), [1, 2, 6, 8, 9], 2, [], [], []⟩])))))
   (.reg [⟨[], [(9, (.bin .add (.sl 9) (.int .i64 1)))], [], none, [1, 2, 6, 8], 3, [], [], []⟩])))
def f5 : Fun := ⟨
 (.seq
  (.reg [⟨[(2, .box (.sl 0))], [], [(.bool false)], none, [1, 2], 2, [], [], []⟩])
  (.seq
   (.reg [⟨[], [(5, (.call 6 .nil))], [], none, [1, 2], 2, [], [], []⟩])
   (.seq
    (.reg [⟨[(6, .box (.agg (.cons (.nilsl 2) (.cons (.nilsl 3) .nil))))], [(18, (.ext 1 (.call 9 (.cons (.ld 2 true (.sl 2)) .nil))))], [], some (none, .store 2 (.sl 6) (.ext 0 (.call 9 (.cons (.ld 2 true (.sl 2)) .nil)))), [1, 2, 5, 6], 7, [], [], []⟩, ⟨[], [(7, (.sl 18))], [], none, [1, 2, 5, 6], 1, [], [], []⟩])
    (.seq
     (.seq
      (.reg [⟨[], [(30, (.or (.or (.un .not (.sl 5)) (.bin .neq (.sl 7) (.int .i64 0))) (.bin .eql (.len false (.ld 1 false (.fa 1 (.sl 2)))) (.int .i64 0))))], [], none, [1, 2, 5, 6], 12, [], [], []⟩])
      (.cond (.sl 30)
       (.seq
        (.reg [⟨[], [(4, (.sl 5))], [], none, [], 2, [], [], []⟩])
        (.seq
         (.tidy 0 [4])
         .ret))
       .skip))
     (.seq
      (.seq
       (.reg [⟨[], [(33, (.bin .lss (.sl 1) (.int .i64 0)))], [], none, [1, 2, 6], 2, [], [], []⟩])
       (.cond (.sl 33)
        (.reg [⟨[], [(1, (.un .neg (.bin .add (.sl 1) (.int .i64 1))))], [], none, [2, 6], 4, [], [], []⟩])
        .skip))
      (.seq
       (.reg [⟨[], [(1, (.bin .rem (.sl 1) (.len false (.ld 1 false (.fa 1 (.sl 2))))))], [], none, [2, 6], 6, [], [], []⟩])
       (.seq
        (.reg [⟨[(8, .box (.agg (.cons (.nilsl 2) (.cons (.nilsl 3) .nil))))], [], [], some (none, .store 2 (.sl 8) (.set 0 1 (.ld 1 false (.fa 0 (.sl 2))) (.agg (.cons (.nilsl 2) (.cons (.nilsl 3) .nil))))), [1, 2, 6, 8], 5, [], [], []⟩])
        (.seq
         (.seq
          (.reg [⟨[], [(9, (.int .i64 0))], [], none, [1, 2, 6, 8], 1, [], [], []⟩])
          (.block 0
           (.seq (.tidy 0 [1, 2, 6, 8, 9]) (.loop (.seq (.tidy 0 [1, 2, 6, 8, 9]) f5_L0)))))
         (.seq
          (.reg [⟨[(11, .box (.agg (.cons (.nilsl 2) (.cons (.nilsl 3) .nil))))], [(77, (.ext 1 (.call 9 (.cons (.ld 2 true (.sl 8)) .nil))))], [], some (none, .store 2 (.sl 11) (.ext 0 (.call 9 (.cons (.ld 2 true (.sl 8)) .nil)))), [1, 2, 6, 11], 7, [], [], []⟩, ⟨[], [(12, (.sl 77))], [], none, [1, 2, 6, 11], 1, [], [], []⟩])
          (.seq
           (.seq
            (.reg [⟨[], [(97, (.or (.or (.bin .neq (.sl 12) (.int .i64 0)) (.bin .neq (.len false (.ld 1 false (.fa 1 (.sl 11)))) (.len false (.ld 1 false (.fa 1 (.sl 2)))))) (.bin .neq (.len false (.ld 1 false (.fa 1 (.sl 6)))) (.len false (.ld 1 false (.fa 1 (.sl 2)))))))], [], none, [1, 6, 11], 20, [], [], []⟩])
            (.cond (.sl 97)
             (.seq
              (.reg [⟨[], [(4, (.bool false))], [], none, [], 1, [], [], []⟩])
              (.seq
               (.tidy 0 [4])
               .ret))
             .skip))
           (.seq
            (.reg [⟨[], [(4, (.call 13 (.cons (.ld 1 false (.fa 2 (.ia 3 (.ld 1 false (.fa 1 (.sl 11))) (.sl 1)))) (.cons (.ld 1 false (.fa 2 (.ia 3 (.ld 1 false (.fa 1 (.sl 6))) (.sl 1)))) .nil))))], [], none, [], 14, [[], [0], [], [2, 0, 1], [1, 0, 2, 3], [3, 2, 0, 1, 4], [], [6], [], [8, 6, 7], [7, 6, 8, 9], [9, 8, 6, 7, 10], [10, 7, 6, 8, 9, 11, 4, 1, 0, 2, 3, 5], [5, 3, 2, 0, 1, 4, 11, 9, 8, 6, 7, 10, 12]], [], []⟩])
            (.seq
             (.tidy 0 [4])
             .ret)))))))))))),
 [(.sl 4)], false⟩
theorem f5_ok : funOk Go.Proofs.Try.prog 5 0 2 f5 = true := by kernel_rfl


def K6 (K : Cx) : Prop := K.call 6 [] = some (.d false (.bool true), [])

def grown (c : Bool) (i : Nat) (X : List Glob) : V := if X = [] then .fs true 3 [] else .bsl 3 0 i

theorem exec_frz (K : Cx) (m t j : Nat) (s : S) : exec K (.frz m t j) s = some (.nrm, frzS m t j s) := rfl
theorem fGlobA1' (l : List Glob) (g : Glob) : l.map eGlob ++ [[D.str g.name, .int .i64 g.arity, .sl 3 (List.map eInstr g.code)]] = (l ++ [g]).map eGlob := by simp [eGlob]
theorem fGlobF (l : List Glob) (n a) : l.map eGlob ++ [[D.str n, .int .i64 a, .sl 3 [[D.int .i64 16, .int .i64 1, .int .i64 0]]]] = (l ++ [(⟨n, a, [⟨16, 1, 0⟩]⟩ : Glob)]).map eGlob := by simp [eGlob, eInstr]
theorem alone_loop (K : Cx) (t : Table) (k : Int) (R : List Glob) (hl : t.globals.length ≤ 2000) : ∀ (m i : Nat) (c : Bool) (X : List Glob), i + m = t.globals.length → X.length = i → 0 < i → ∃ c',
    lp K 0 [1, 2, 6, 8, 9] f5_L0 ⟨[(1, .d false (.int .i64 k)), (2, .ptr 0 0 0), (6, .ptr 1 0 0), (8, .ptr 2 0 0), (9, .d false (.int .i64 i))],
      [(0, .mix 2 [[.d false (.sl 2 (t.shapes.map eShape)), .d false (.sl 3 (t.globals.map eGlob))]]), (1, .mix 2 [[.d true (.sl 2 (t.shapes.map eShape)), .d true (.sl 3 (R.map eGlob))]]), (2, .mix 2 [[.d false (.sl 2 (t.shapes.map eShape)), .bsl 3 0 i]]), (3, .dat c 3 (X.map eGlob))], 4, []⟩ =
    some (.exit 0, ⟨[(1, .d false (.int .i64 k)), (2, .ptr 0 0 0), (6, .ptr 1 0 0), (8, .ptr 2 0 0)],
      [(0, .mix 2 [[.d false (.sl 2 (t.shapes.map eShape)), .d false (.sl 3 (t.globals.map eGlob))]]), (1, .mix 2 [[.d true (.sl 2 (t.shapes.map eShape)), .d true (.sl 3 (R.map eGlob))]]), (2, .mix 2 [[.d false (.sl 2 (t.shapes.map eShape)), .bsl 3 0 t.globals.length]]), (3, .dat c' 3 ((X ++ altL k i (t.globals.drop i)).map eGlob))], 4, []⟩) := by
  intro m
  induction m with
  | zero =>
    intro i c X hi hX h0
    refine ⟨c, ?_⟩
    rw [lp_un f5_L0.eq_1, List.drop_of_length_le (by omega)]
    simp only [altL, List.append_nil]
    have : i = t.globals.length := by omega
    subst this
    simp (disch := first | decide | omega | (simp only [LN]; omega) | (simp only [LN]; done) | fail) only [SV, Nat.reduceBEq, beq_self_eq_true, evFa, Nat.zero_add, List.getElem?_cons_zero, evLen, evBin, intBin, decide_false, if_true, V.refs, Bool.or_self, reduceCtorEq, or_self, not_false_eq_true, Nat.reduceEqDiff, and_self, decide_true, Bool.and_self, Bool.or_false, Bool.or_true, cond_false, cond_true, Nat.reduceAdd]
  | succ m ih =>
    intro i c X hi hX h0
    have hcast : ((i + 1 : Nat) : Int) = (i : Int) + 1 := by omega
    have hlt : i < t.globals.length := by omega
    by_cases hk : (i : Int) = k
    · subst hk
      have ih := ih (i + 1) false (X ++ [nth t.globals i]) (by omega) (by simp [hX]) (by omega)
      obtain ⟨c', ih⟩ := ih
      refine ⟨c', ?_⟩
      rw [hcast] at ih
      rw [lp_un f5_L0.eq_1, drop_nth hlt]
      simp only [altL, if_true]
      rw [List.append_assoc] at ih
      simp only [List.cons_append, List.nil_append] at ih
      generalize hg : nth t.globals (i : Int) = g at ih
      generalize hQ : X ++ g :: altL (i : Int) (i + 1) (t.globals.drop (i + 1)) = Q at ih
      have e1 : ((i : Int) == (i : Int)) = true := by simp
      have e2 : ((i : Int) != (i : Int)) = false := by simp
      simp (disch := first | decide | omega | (simp only [LN]; omega) | (simp only [LN]; done) | fail) only [SV, Nat.reduceBEq, beq_self_eq_true, evFa, Nat.zero_add, List.getElem?_cons_zero, evLen, evBin, intBin, decide_true, if_true, V.laid, V.cells, Nat.reduceAdd, hg, eGlob_eq, D.flat, Bool.false_eq_true, if_false, Nat.le_refl, Bool.and_self, lose, bne_self_eq_false, exec_frz, frzS, List.getElem?_cons_succ, V.cell, asD, V.new1, Bool.or_true, Bool.or_self, Bool.and_true, Bool.and_false, fGlobA1', V.forget, V.drop1, beq_iff_eq, V.ref0, reduceCtorEq, Nat.reduceEqDiff, V.refs, or_self, not_false_eq_true, and_self, Bool.or_false, cond_false, cond_true]
      exact ih
    · have ih := ih (i + 1) c (X ++ [failG (nth t.globals i)]) (by omega) (by simp [hX]) (by omega)
      obtain ⟨c', ih⟩ := ih
      refine ⟨c', ?_⟩
      rw [hcast] at ih
      rw [lp_un f5_L0.eq_1, drop_nth hlt]
      simp only [altL, hk, if_false]
      rw [List.append_assoc] at ih
      simp only [List.cons_append, List.nil_append] at ih
      generalize hg : nth t.globals (i : Int) = g at ih
      generalize hQ : X ++ failG g :: altL k (i + 1) (t.globals.drop (i + 1)) = Q at ih
      have e2 : ((i : Int) != k) = true := by simpa using hk
      have e1 : ((i : Int) == k) = false := by simpa using hk
      unfold failG at ih
      clear hk
      simp (disch := first | decide | omega | (simp only [LN]; omega) | (simp only [LN]; done) | fail) only [SV, Nat.reduceBEq, beq_self_eq_true, evFa, Nat.zero_add, List.getElem?_cons_zero, evLen, evBin, intBin, decide_true, if_true, V.laid, V.cells, Nat.reduceAdd, hg, eGlob_eq, D.flat, Bool.false_eq_true, if_false, Nat.le_refl, Bool.and_self, lose, e2, evSet, V.cell, asD, V.new1, Bool.or_true, Nat.add_zero, exec_frz, frzS, List.getElem?_cons_succ, ne_eq, Nat.reduceEqDiff, not_false_eq_true, and_self, V.forget, V.drop1, beq_iff_eq, V.ref0, reduceCtorEq, Bool.or_false, Bool.and_true, Bool.and_false, fGlobF, V.refs, Bool.or_self, or_self, cond_false, cond_true]
      exact ih

end Go.Vm
end

section
namespace Go.Vm

theorem ok_alt {t : Table} (k : Int) (h : TabOk t) : TabOk (altT k t) := by
  have hm : ∀ g ∈ altL k 0 t.globals, g ∈ t.globals ∨ ∃ g0 ∈ t.globals, g = failG g0 := altL_mem k _ _
  refine ⟨h.sh, by have := altL_len k t.globals 0; have := h.gl; simp only [altT]; omega, fun g hg => ?_, h.sn, fun g hg => ?_, fun g hg x hx => ?_⟩
  · rcases hm g hg with h1 | ⟨g0, h1, rfl⟩
    · exact h.cd g h1
    · simp [failG]
  · rcases hm g hg with h1 | ⟨g0, h1, rfl⟩
    · exact h.gn g h1
    · exact h.gn g0 h1
  · rcases hm g hg with h1 | ⟨g0, h1, rfl⟩
    · exact h.wd g h1 x hx
    · simp only [failG, List.mem_singleton] at hx
      subst hx
      simp

theorem law_A (K : Cx) (h6 : K6 K) (h9 : K9 K) (t : Table) (ht : TabOk t) (k : Int) (hz : checkS t ≠ 0) :
    runFun K f5 [tabV false false t, .d false (.int .i64 k)] [] = some (.d false (.bool true), [], []) := by
  have c0 := h9 t ht
  unfold K6 at h6
  unfold peepV at c0
  rw [if_neg hz] at c0
  have d0 : (checkS t != 0) = true := by simpa using hz
  have hgl := ht.gl
  clear hz ht
  unfold tabV at c0 ⊢
  simp (disch := first | decide | omega | (simp only [LN]; omega) | (simp only [LN]; done) | fail) only [SV, f5, Nat.zero_add, Nat.reduceAdd, beq_self_eq_true, V.laid, V.cells, if_true, Nat.reduceBEq, Bool.and_self, Bool.not_true, Bool.and_false, Bool.false_and, h6, V.new, V.new1, D.flat, Bool.or_true, Bool.false_eq_true, if_false, List.getElem?_cons_zero, Nat.le_refl, V.own, V.own1, Bool.or_self, Bool.and_true, V.flatV, V.flat1, Bool.not_false, view, viewD, c0, evExt, List.getElem?_cons_succ, lose, evUn, evBin, intBin, d0, evFa, evLen, Bool.true_or, V.refs, decide_true, oneOr, finV, finA, finC]

theorem law_B (K : Cx) (h6 : K6 K) (h9 : K9 K) (t : Table) (ht : TabOk t) (k : Int) (hz : checkS t = 0) (hn : t.globals = []) :
    runFun K f5 [tabV false false t, .d false (.int .i64 k)] [] = some (.d false (.bool true), [], []) := by
  have c0 := h9 t ht
  unfold K6 at h6
  unfold peepV at c0
  rw [if_pos hz] at c0
  have e0 : outGl (t.globals.map (doneG betterS)) = .fs true 3 [] := by rw [hn]; rfl
  rw [e0] at c0
  have hgl : t.globals.length = 0 := by rw [hn]; rfl
  clear hz ht hn e0
  unfold tabV at c0 ⊢
  simp (disch := first | decide | omega | (simp only [LN]; omega) | (simp only [LN]; done) | fail) only [SV, f5, Nat.zero_add, Nat.reduceAdd, beq_self_eq_true, V.laid, V.cells, if_true, Nat.reduceBEq, Bool.and_self, Bool.not_true, Bool.and_false, Bool.false_and, h6, V.new, V.new1, D.flat, Bool.or_true, Bool.false_eq_true, if_false, List.getElem?_cons_zero, Nat.le_refl, V.own, V.own1, Bool.or_self, Bool.and_true, V.flatV, V.flat1, Bool.not_false, view, viewD, c0, Bool.or_false, evExt, List.getElem?_cons_succ, lose, evUn, evBin, intBin, bne_self_eq_false, evFa, evLen, hgl, eq_t, V.refs, decide_true, oneOr, finV, finA, finC]

end Go.Vm
end

section
namespace Go.Vm

theorem altL_head (q : Int) {l : List Glob} (h : 0 < l.length) : altL q 0 l = [if (0 : Int) = q then nth l ((0 : Nat) : Int) else failG (nth l ((0 : Nat) : Int))] ++ altL q 1 (l.drop 1) := by
  cases l with
  | nil => simp at h
  | cons g l => rfl

theorem peepV_pos {t : Table} (h : Fine t) (hn : 0 < t.globals.length) : peepV t = .tup [.agg [.d true (.sl 2 (t.shapes.map eShape)), .d true (.sl 3 ((t.globals.map (doneG betterS)).map eGlob))], .d false (.int .i64 0)] := by
  unfold peepV
  rw [if_pos ((fine_iff t).2 h)]
  have eR : outGl (t.globals.map (doneG betterS)) = .d true (.sl 3 ((t.globals.map (doneG betterS)).map eGlob)) := by
    unfold outGl
    rw [if_neg (by intro h; have := congrArg List.length h; simp at this; rw [this] at hn; simp at hn)]
  rw [eR]

theorem nth_done (l : List Glob) (q : Int) (h0 : 0 ≤ q) (h1 : q < l.length) : (nth (l.map (doneG betterS)) q).code = betterS (nth l q).code := by
  obtain ⟨i, rfl⟩ : ∃ i : Nat, q = i := ⟨q.toNat, by omega⟩
  rw [nth_map _ _ _ (by omega)]
  rfl
theorem nth_alt (l : List Glob) (q : Int) (h0 : 0 ≤ q) (h1 : q < l.length) : nth (altL q 0 l) q = nth l q := by
  obtain ⟨i, rfl⟩ : ∃ i : Nat, q = i := ⟨q.toNat, by omega⟩
  rw [altL_nth _ _ _ _ (by omega), Nat.zero_add, if_pos rfl]
theorem better_len {l : List Instr} (h : Sane l) : ((betterS l).length : Int) ≤ 9223372036854775807 := by
  obtain ⟨n, hn⟩ := betterS_run h
  have : ∀ (n : Nat) (l r : List Instr), Sane l → runS n l = some r → r.length ≤ 100000 := by
    intro n
    induction n with
    | zero => intro l r _ h; cases h
    | succ n ih =>
      intro l r hl h
      simp only [runS] at h
      cases hs : stepS l with
      | none => rw [hs] at h; simp only [Option.some.injEq] at h; subst h; exact hl.fit.len
      | some l' => rw [hs] at h; exact ih l' r (step_ok hl hs).1 h
  have := this n l _ h hn
  omega

theorem law_C (K : Cx) (hloc : ∀ f, K.loc f = true) (h6 : K6 K) (h9 : K9 K) (h13 : K13 K) (t : Table) (ht : TabOk t) (k : Int) (hk : 0 ≤ k ∧ k ≤ 9223372036854775807) (hz : checkS t = 0) (hn : 0 < t.globals.length) :
    runFun K f5 [tabV false false t, .d false (.int .i64 k)] [] = some (.d false (.bool true), [], []) := by
  have c0 := h9 t ht
  have hf := (fine_iff t).1 hz
  have hgl := (greatS_f hf.great).2.1
  unfold K6 at h6
  unfold peepV at c0
  rw [if_pos hz] at c0
  have eR : outGl (t.globals.map (doneG betterS)) = .d true (.sl 3 ((t.globals.map (doneG betterS)).map eGlob)) := by
    unfold outGl
    rw [if_neg (by intro h; have := congrArg List.length h; simp at this; rw [this] at hn; simp at hn)]
  rw [eR] at c0
  have hRl : (t.globals.map (doneG betterS)).length = t.globals.length := by simp
  generalize hR : t.globals.map (doneG betterS) = R at c0 hRl
  unfold tabV at c0 ⊢
  have d1 : ((t.globals.length : Int) == 0) = false := beq_eq_false_iff_ne.2 (by omega)
  have d2 : ((t.globals.length : Int) = 0) = False := by simpa using fun h => by rw [h] at hn; simp at hn
  have hq0 : 0 ≤ k.tmod t.globals.length := Int.tmod_nonneg _ hk.1
  have hq1 : k.tmod t.globals.length < t.globals.length := Int.tmod_lt_of_pos _ (by omega)
  have k2 : ∀ q : Int, 0 ≤ q → q < t.globals.length → ∃ R2 : List Glob, R2.length = t.globals.length ∧ K.call 9 [.agg [.d false (.sl 2 (t.shapes.map eShape)), .d false (.sl 3 ((altL q 0 t.globals).map eGlob))]] = some (.tup [.agg [.d true (.sl 2 (t.shapes.map eShape)), .d true (.sl 3 (R2.map eGlob))], .d false (.int .i64 0)], []) ∧
      K.call 13 [.d false (.sl 3 ((nth R2 q).code.map eInstr)), .d false (.sl 3 ((nth R q).code.map eInstr))] = some (.d false (.bool true), []) := by
    intro q h0 h1
    refine ⟨(altL q 0 t.globals).map (doneG betterS), by rw [List.length_map, altL_len], ?_, ?_⟩
    · have := h9 (altT q t) (ok_alt q ht)
      rw [peepV_pos (fine_alt q hf) (by simp only [altT, altL_len]; exact hn)] at this
      exact this
    · have e1 : (nth ((altL q 0 t.globals).map (doneG betterS)) q).code = betterS (nth t.globals q).code := by
        rw [nth_done _ _ h0 (by rw [altL_len]; exact h1), nth_alt _ _ h0 h1]
      have e2 : (nth R q).code = betterS (nth t.globals q).code := by
        rw [← hR, nth_done _ _ h0 h1]
      rw [e1, e2]
      have := h13 (betterS (nth t.globals q).code) (betterS (nth t.globals q).code) (better_len (hf.sane (nth_mem h0 h1)))
      simpa using this
  clear hz hf ht eR
  generalize hq : k.tmod t.globals.length = q at hq0 hq1
  have hg0 : t.globals = nth t.globals ((0 : Nat) : Int) :: t.globals.drop 1 := by
    have := drop_nth (l := t.globals) (i := 0) hn
    simpa using this
  simp (disch := first | decide | omega | (simp only [LN]; omega) | (simp only [LN]; done) | fail) only [SV, f5, Nat.zero_add, Nat.reduceAdd, beq_self_eq_true, V.laid, V.cells, if_true, Nat.reduceBEq, Bool.and_self, Bool.not_true, Bool.and_false, hloc, Bool.and_true, h6, V.new, V.new1, D.flat, Bool.or_true, Bool.false_eq_true, if_false, List.getElem?_cons_zero, Nat.le_refl, V.own, V.own1, Bool.or_self, V.flatV, V.flat1, Bool.not_false, view, viewD, c0, Bool.or_false, evExt, List.getElem?_cons_succ, lose, evUn, evBin, intBin, bne_self_eq_false, evFa, evLen, d1, decide_false, d2, hq, Nat.add_zero, evSet, V.cell, decide_true, V.refs, reduceCtorEq, or_self, not_false_eq_true, Nat.reduceEqDiff, and_self, cond_false, cond_true]
  rw [lp_un f5_L0.eq_1]
  by_cases h0 : q = 0
  · subst h0
    obtain ⟨R2, r1, r2, r3⟩ := k2 0 hq0 hq1
    obtain ⟨c', l0⟩ := alone_loop K t 0 R hgl (t.globals.length - 1) 1 false [nth t.globals ((0 : Nat) : Int)] (by omega) rfl (by omega)
    have hA := altL_head 0 hn
    rw [if_pos rfl] at hA
    rw [← hA] at l0
    have hAl := altL_len 0 t.globals 0
    generalize altL 0 0 t.globals = A at l0 r2 hAl
    simp only [List.map_cons, List.map_nil, eGlob_eq, Int.natCast_one, Int.natCast_zero] at l0
    clear hA k2 hg0
    simp (disch := first | decide | omega | (simp only [LN]; omega) | (simp only [LN]; done) | fail) only [SV, Nat.reduceBEq, beq_self_eq_true, evFa, Nat.zero_add, List.getElem?_cons_zero, evLen, evBin, intBin, decide_true, if_true, V.laid, V.cells, Nat.reduceAdd, eGlob_eq, D.flat, Bool.false_eq_true, if_false, Nat.le_refl, Bool.and_self, lose, bne_self_eq_false, exec_frz, frzS, List.getElem?_cons_succ, V.cell, asD, V.new1, Bool.or_true, Bool.or_self, Bool.and_true, Bool.and_false, Int.reduceAdd, V.refs, reduceCtorEq, or_self, not_false_eq_true, Nat.reduceEqDiff, and_self, Bool.or_false, cond_false, cond_true]
    rw [l0]
    simp (disch := first | decide | omega | (simp only [LN]; omega) | (simp only [LN]; done) | fail) only [SV, if_true, V.laid, V.cells, Nat.zero_add, Nat.reduceAdd, Nat.reduceBEq, beq_self_eq_true, List.getElem?_cons_zero, Nat.le_refl, V.own, V.own1, Bool.or_false, Bool.or_true, V.new, V.new1, D.flat, Bool.or_self, Bool.and_true, Bool.and_self, V.flatV, V.flat1, Bool.not_false, hloc, view, viewD, r2, Bool.not_true, Bool.and_false, Bool.false_eq_true, if_false, evExt, List.getElem?_cons_succ, lose, evBin, intBin, bne_self_eq_false, evFa, evLen, eGlob_eq, r3, V.renew, V.renew1, V.refs, decide_true, oneOr, finV, finA, finC]
  · have e2 : ((0 : Int) != q) = true := by simp; omega
    obtain ⟨R2, r1, r2, r3⟩ := k2 q hq0 hq1
    obtain ⟨c', l0⟩ := alone_loop K t q R hgl (t.globals.length - 1) 1 true [failG (nth t.globals ((0 : Nat) : Int))] (by omega) rfl (by omega)
    have hA := altL_head q hn
    rw [if_neg (fun h => h0 h.symm)] at hA
    rw [← hA] at l0
    have hAl := altL_len q t.globals 0
    generalize altL q 0 t.globals = A at l0 r2 hAl
    simp only [failG, List.map_cons, List.map_nil, eGlob_eq, eInstr_eq, Int.natCast_one, Int.natCast_zero] at l0
    clear hA k2 hg0 h0
    simp (disch := first | decide | omega | (simp only [LN]; omega) | (simp only [LN]; done) | fail) only [SV, Nat.reduceBEq, beq_self_eq_true, evFa, Nat.zero_add, List.getElem?_cons_zero, evLen, evBin, intBin, decide_true, if_true, V.laid, V.cells, Nat.reduceAdd, eGlob_eq, D.flat, Bool.false_eq_true, if_false, Nat.le_refl, Bool.and_self, lose, e2, evSet, V.cell, asD, V.new1, Bool.or_true, Nat.add_zero, exec_frz, frzS, List.getElem?_cons_succ, ne_eq, Nat.reduceEqDiff, not_false_eq_true, and_self, V.forget, V.drop1, beq_iff_eq, V.ref0, reduceCtorEq, Bool.or_false, Bool.and_true, Bool.and_false, Int.reduceAdd, V.refs, Bool.or_self, or_self, cond_false, cond_true]
    rw [l0]
    simp (disch := first | decide | omega | (simp only [LN]; omega) | (simp only [LN]; done) | fail) only [SV, if_true, V.laid, V.cells, Nat.zero_add, Nat.reduceAdd, Nat.reduceBEq, beq_self_eq_true, List.getElem?_cons_zero, Nat.le_refl, V.own, V.own1, Bool.or_false, Bool.or_true, V.new, V.new1, D.flat, Bool.or_self, Bool.and_true, Bool.and_self, V.flatV, V.flat1, Bool.not_false, hloc, view, viewD, r2, Bool.not_true, Bool.and_false, Bool.false_eq_true, if_false, evExt, List.getElem?_cons_succ, lose, evBin, intBin, bne_self_eq_false, evFa, evLen, eGlob_eq, r3, V.renew, V.renew1, V.refs, decide_true, oneOr, finV, finA, finC]

end Go.Vm
end

section
namespace Go.Vm

theorem law_D (K : Cx) (hloc : ∀ f, K.loc f = true) (h6 : K6 K) (h9 : K9 K) (h13 : K13 K) (t : Table) (ht : TabOk t) (k : Int) (hk : -9223372036854775808 ≤ k ∧ k < 0) (hz : checkS t = 0) (hn : 0 < t.globals.length) :
    runFun K f5 [tabV false false t, .d false (.int .i64 k)] [] = some (.d false (.bool true), [], []) := by
  have c0 := h9 t ht
  have hf := (fine_iff t).1 hz
  have hgl := (greatS_f hf.great).2.1
  unfold K6 at h6
  unfold peepV at c0
  rw [if_pos hz] at c0
  have eR : outGl (t.globals.map (doneG betterS)) = .d true (.sl 3 ((t.globals.map (doneG betterS)).map eGlob)) := by
    unfold outGl
    rw [if_neg (by intro h; have := congrArg List.length h; simp at this; rw [this] at hn; simp at hn)]
  rw [eR] at c0
  have hRl : (t.globals.map (doneG betterS)).length = t.globals.length := by simp
  generalize hR : t.globals.map (doneG betterS) = R at c0 hRl
  unfold tabV at c0 ⊢
  have d1 : ((t.globals.length : Int) == 0) = false := beq_eq_false_iff_ne.2 (by omega)
  have d2 : ((t.globals.length : Int) = 0) = False := by simpa using fun h => by rw [h] at hn; simp at hn
  have hq0 : 0 ≤ (0 - (k + 1)).tmod t.globals.length := Int.tmod_nonneg _ (by omega)
  have hq1 : (0 - (k + 1)).tmod t.globals.length < t.globals.length := Int.tmod_lt_of_pos _ (by omega)
  have k2 : ∀ q : Int, 0 ≤ q → q < t.globals.length → ∃ R2 : List Glob, R2.length = t.globals.length ∧ K.call 9 [.agg [.d false (.sl 2 (t.shapes.map eShape)), .d false (.sl 3 ((altL q 0 t.globals).map eGlob))]] = some (.tup [.agg [.d true (.sl 2 (t.shapes.map eShape)), .d true (.sl 3 (R2.map eGlob))], .d false (.int .i64 0)], []) ∧
      K.call 13 [.d false (.sl 3 ((nth R2 q).code.map eInstr)), .d false (.sl 3 ((nth R q).code.map eInstr))] = some (.d false (.bool true), []) := by
    intro q h0 h1
    refine ⟨(altL q 0 t.globals).map (doneG betterS), by rw [List.length_map, altL_len], ?_, ?_⟩
    · have := h9 (altT q t) (ok_alt q ht)
      rw [peepV_pos (fine_alt q hf) (by simp only [altT, altL_len]; exact hn)] at this
      exact this
    · have e1 : (nth ((altL q 0 t.globals).map (doneG betterS)) q).code = betterS (nth t.globals q).code := by
        rw [nth_done _ _ h0 (by rw [altL_len]; exact h1), nth_alt _ _ h0 h1]
      have e2 : (nth R q).code = betterS (nth t.globals q).code := by
        rw [← hR, nth_done _ _ h0 h1]
      rw [e1, e2]
      have := h13 (betterS (nth t.globals q).code) (betterS (nth t.globals q).code) (better_len (hf.sane (nth_mem h0 h1)))
      simpa using this
  clear hz hf ht eR
  generalize hq : (0 - (k + 1)).tmod t.globals.length = q at hq0 hq1
  have hg0 : t.globals = nth t.globals ((0 : Nat) : Int) :: t.globals.drop 1 := by
    have := drop_nth (l := t.globals) (i := 0) hn
    simpa using this
  simp (disch := first | decide | omega | (simp only [LN]; omega) | (simp only [LN]; done) | fail) only [SV, f5, Nat.zero_add, Nat.reduceAdd, beq_self_eq_true, V.laid, V.cells, if_true, Nat.reduceBEq, Bool.and_self, Bool.not_true, Bool.and_false, hloc, Bool.and_true, h6, V.new, V.new1, D.flat, Bool.or_true, Bool.false_eq_true, if_false, List.getElem?_cons_zero, Nat.le_refl, V.own, V.own1, Bool.or_self, V.flatV, V.flat1, Bool.not_false, view, viewD, c0, Bool.or_false, evExt, List.getElem?_cons_succ, lose, evUn, evBin, intBin, bne_self_eq_false, evFa, evLen, d1, decide_true, d2, hq, Nat.add_zero, evSet, V.cell, V.refs, reduceCtorEq, or_self, not_false_eq_true, Nat.reduceEqDiff, and_self, cond_false, cond_true]
  rw [lp_un f5_L0.eq_1]
  by_cases h0 : q = 0
  · subst h0
    obtain ⟨R2, r1, r2, r3⟩ := k2 0 hq0 hq1
    obtain ⟨c', l0⟩ := alone_loop K t 0 R hgl (t.globals.length - 1) 1 false [nth t.globals ((0 : Nat) : Int)] (by omega) rfl (by omega)
    have hA := altL_head 0 hn
    rw [if_pos rfl] at hA
    rw [← hA] at l0
    have hAl := altL_len 0 t.globals 0
    generalize altL 0 0 t.globals = A at l0 r2 hAl
    simp only [List.map_cons, List.map_nil, eGlob_eq, Int.natCast_one, Int.natCast_zero] at l0
    clear hA k2 hg0
    simp (disch := first | decide | omega | (simp only [LN]; omega) | (simp only [LN]; done) | fail) only [SV, Nat.reduceBEq, beq_self_eq_true, evFa, Nat.zero_add, List.getElem?_cons_zero, evLen, evBin, intBin, decide_true, if_true, V.laid, V.cells, Nat.reduceAdd, eGlob_eq, D.flat, Bool.false_eq_true, if_false, Nat.le_refl, Bool.and_self, lose, bne_self_eq_false, exec_frz, frzS, List.getElem?_cons_succ, V.cell, asD, V.new1, Bool.or_true, Bool.or_self, Bool.and_true, Bool.and_false, Int.reduceAdd, V.refs, reduceCtorEq, or_self, not_false_eq_true, Nat.reduceEqDiff, and_self, Bool.or_false, cond_false, cond_true]
    rw [l0]
    simp (disch := first | decide | omega | (simp only [LN]; omega) | (simp only [LN]; done) | fail) only [SV, if_true, V.laid, V.cells, Nat.zero_add, Nat.reduceAdd, Nat.reduceBEq, beq_self_eq_true, List.getElem?_cons_zero, Nat.le_refl, V.own, V.own1, Bool.or_false, Bool.or_true, V.new, V.new1, D.flat, Bool.or_self, Bool.and_true, Bool.and_self, V.flatV, V.flat1, Bool.not_false, hloc, view, viewD, r2, Bool.not_true, Bool.and_false, Bool.false_eq_true, if_false, evExt, List.getElem?_cons_succ, lose, evBin, intBin, bne_self_eq_false, evFa, evLen, eGlob_eq, r3, V.renew, V.renew1, V.refs, decide_true, oneOr, finV, finA, finC]
  · have e2 : ((0 : Int) != q) = true := by simp; omega
    obtain ⟨R2, r1, r2, r3⟩ := k2 q hq0 hq1
    obtain ⟨c', l0⟩ := alone_loop K t q R hgl (t.globals.length - 1) 1 true [failG (nth t.globals ((0 : Nat) : Int))] (by omega) rfl (by omega)
    have hA := altL_head q hn
    rw [if_neg (fun h => h0 h.symm)] at hA
    rw [← hA] at l0
    have hAl := altL_len q t.globals 0
    generalize altL q 0 t.globals = A at l0 r2 hAl
    simp only [failG, List.map_cons, List.map_nil, eGlob_eq, eInstr_eq, Int.natCast_one, Int.natCast_zero] at l0
    clear hA k2 hg0 h0
    simp (disch := first | decide | omega | (simp only [LN]; omega) | (simp only [LN]; done) | fail) only [SV, Nat.reduceBEq, beq_self_eq_true, evFa, Nat.zero_add, List.getElem?_cons_zero, evLen, evBin, intBin, decide_true, if_true, V.laid, V.cells, Nat.reduceAdd, eGlob_eq, D.flat, Bool.false_eq_true, if_false, Nat.le_refl, Bool.and_self, lose, e2, evSet, V.cell, asD, V.new1, Bool.or_true, Nat.add_zero, exec_frz, frzS, List.getElem?_cons_succ, ne_eq, Nat.reduceEqDiff, not_false_eq_true, and_self, V.forget, V.drop1, beq_iff_eq, V.ref0, reduceCtorEq, Bool.or_false, Bool.and_true, Bool.and_false, Int.reduceAdd, V.refs, Bool.or_self, or_self, cond_false, cond_true]
    rw [l0]
    simp (disch := first | decide | omega | (simp only [LN]; omega) | (simp only [LN]; done) | fail) only [SV, if_true, V.laid, V.cells, Nat.zero_add, Nat.reduceAdd, Nat.reduceBEq, beq_self_eq_true, List.getElem?_cons_zero, Nat.le_refl, V.own, V.own1, Bool.or_false, Bool.or_true, V.new, V.new1, D.flat, Bool.or_self, Bool.and_true, Bool.and_self, V.flatV, V.flat1, Bool.not_false, hloc, view, viewD, r2, Bool.not_true, Bool.and_false, Bool.false_eq_true, if_false, evExt, List.getElem?_cons_succ, lose, evBin, intBin, bne_self_eq_false, evFa, evLen, eGlob_eq, r3, V.renew, V.renew1, V.refs, decide_true, oneOr, finV, finA, finC]

theorem ev_alone_law (K : Cx) (hloc : ∀ f, K.loc f = true) (h6 : K6 K) (h9 : K9 K) (h13 : K13 K) (t : Table) (ht : TabOk t) (k : Int) (hk : -9223372036854775808 ≤ k ∧ k ≤ 9223372036854775807) :
    runFun K f5 [tabV false false t, .d false (.int .i64 k)] [] = some (.d false (.bool true), [], []) := by
  by_cases hz : checkS t = 0
  · by_cases hn : t.globals = []
    · exact law_B K h6 h9 t ht k hz hn
    · have hn : 0 < t.globals.length := List.length_pos_iff.2 hn
      by_cases hs : k < 0
      · exact law_D K hloc h6 h9 h13 t ht k ⟨hk.1, hs⟩ hz hn
      · exact law_C K hloc h6 h9 h13 t ht k ⟨by omega, hk.2⟩ hz hn
  · exact law_A K h6 h9 t ht k hz

end Go.Vm
end
