/-
  Parts of the proof: Package strings' Builder: its methods, with all that they leave alone. Package strings' Builder: WriteByte, WriteString, Len, String. Package strings' Builder: String. What the machine knows of a Builder's methods. What is known of functions over package-level tables, put together of what each one answers. lex: classes of bytes, runs, names. lex: reserved words, dashes, comments, bytes, digits. lex: Trim, dashes, comments. DERIVED: THE SHELF's CONTRACTS AT THIS DUMP, IN PLAIN WORDS (tools/lay-plain.mjs out of 'TrydShelf.lean', which tools/lay-shelf.mjs wrote): THE SAME DECLARATIONS UNDER THE SAME NAMES: 'import', 'namespace', 'open', 'def', 'theorem' AND NOTHING ELSE: no command of the shelf's: FOR A HAND-IN. Each laying: the table of numbers ('.._ren') and one theorem, a field a fact of the dump's own or the kernel's comparison; each contract: ONE APPLICATION. Package strings' Builder at this program: copyCheck, WriteByte, WriteString. lex in plain words: tokens at the front of a text, texts. lex in plain words: joined texts, comments between. lex: qualified names, bytes within quotes. Conditions: none.
-/
import Derived.Test.YtmmbgofnllcaeaaDoorLexJoinsC
import Derived.Shelf.Strings.BuilderK
import Derived.Test.YtmmbgofnllcaeaaDoorChecked
import Derived.Shelf.Strings.Builder1
import Derived.Shelf.Small.Strs
import Derived.Shelf.LaysM
import Derived.Shelf.Strconv.Itoa3
import Derived.Test.YtmmbgofnllcaeaaDoorProg
set_option linter.unusedVariables false
set_option linter.unusedSimpArgs false

section
namespace Go.Vm
open Go.RowKit

section
variable {P : Program} {w : World}

def Same (w : World) (v v' : Value) : Prop := v'.ownBlock = v.ownBlock ∨ ∃ g, v'.ownBlock = some g ∧ w.heap.size ≤ g

theorem append_ownX (t ty e : TypeId) (i : TypeInfo) (ht : P.underlying t = some (.slice e)) (hi : P.info? e = some i) (hz : i.zero = some (.int .u8 0)) (hsize : i.size = 1) (hby : i.bytes = 1)
    (v : Value) (n : Nat) (xs : List Value) (hown : w.ownsRowF 0 e 1 v n xs)
    (a : Addr) (m c : Nat) (news : List Value) (hl : news.length = m) (hnews : ∀ j u, news[j]? = some u → w.cell? (a.add j) = some u) (h1 : ∀ u ∈ news, u.oneCell' = true) (h63 : n + m ≤ maxLen) (hbytes : n + m ≤ 140737488355328) :
    ∃ v' w', (Builtin.append_ #[t, t] ty #[v, .slice (some a) m c]).run P w = .ok v' w' ∧ w'.ownsRowF 0 e 1 v' (n + m) (xs ++ news) ∧ w.grownBy w' v.ownBlock ∧ (v' = .slice none 0 0 ↔ v = .slice none 0 0 ∧ m = 0) ∧ Same w v v' := by
  obtain ⟨v', w', r1, r2, r3, r4⟩ := run_append_ownF (P := P) w 0 t ty e i (.int .u8 0) 1 1 ht hi hz hsize hby rfl (by decide) v n xs hown a m c news (by omega) hnews h1 h63 (by omega) (Nat.zero_le _)
  refine ⟨v', w', r1, r2, r3, r4, ?_⟩
  rcases hown.2 with ⟨rfl, rfl⟩ | ⟨g, cap, cur, fz, rfl, hbg, hg, hfz, hnc, hcm, hcs, htake⟩
  · obtain ⟨v2, w2, q1, q2, q3, q4⟩ := run_append_ownF (P := P) w w.heap.size t ty e i (.int .u8 0) 1 1 ht hi hz hsize hby rfl (by decide) (.slice none 0 0) 0 xs ⟨hown.1, .inl ⟨rfl, rfl⟩⟩ a m c news (by omega) hnews h1 h63 (by omega) (Nat.le_refl _)
    rw [r1] at q1
    obtain ⟨rfl, rfl⟩ : v' = v2 ∧ w' = w2 := by injection q1 with e1 e2; exact ⟨e1, e2⟩
    cases ho : v'.ownBlock with
    | none => exact .inl (by rw [ho]; rfl)
    | some g => exact .inr ⟨g, ho, (q2.lt g ho).1⟩
  · by_cases hroom : n + m ≤ cap
    · have hr := run_append_roomF (P := P) w t ty e i ht hi g n cap cur fz hg (by rw [hsize]; exact hfz) a m c news (by rw [hsize]; omega) hnews h1 hroom (by rw [hsize]; omega)
      rw [r1] at hr
      obtain ⟨rfl, _⟩ : v' = .slice (some ⟨g, 0, none⟩) (n + m) cap ∧ True := by injection hr with e1 e2; exact ⟨e1, trivial⟩
      exact .inl rfl
    · have holds : ∀ j u, xs[j]? = some u → w.cell? ((⟨g, 0, none⟩ : Addr).add j) = some u := hown.cells (g := g) rfl
      have hsmall : n + m ≤ 9223372036854775807 := by simp only [maxLen] at h63; omega
      have hr := run_append_grow (P := P) w t ty e i (.int .u8 0) ht hi hz ⟨g, 0, none⟩ n cap xs (by rw [hsize]; exact hown.1) holds a m c news (by rw [hsize]; omega) hnews (by omega) (by omega) (growslice_fits (by omega) (by rw [hby]; omega))
      rw [r1] at hr
      obtain ⟨rfl, _⟩ : v' = .slice (some ⟨w.heap.size, 0, none⟩) (n + m) (grownCap w (n + m) cap e) ∧ True := by injection hr with e1 e2; exact ⟨e1, trivial⟩
      exact .inr ⟨w.heap.size, rfl, Nat.le_refl _⟩

theorem append_own_strX (t u ty e : TypeId) (i : TypeInfo) (ht : P.underlying t = some (.slice e)) (hu : P.underlying u = some .string) (hi : P.info? e = some i) (hz : i.zero = some (.int .u8 0)) (hsize : i.size = 1) (hby : i.bytes = 1)
    (v : Value) (n : Nat) (xs : List Value) (hown : w.ownsRowF 0 e 1 v n xs) (s : ByteArray) (h63 : n + s.size ≤ maxLen) (hbytes : n + s.size ≤ 140737488355328) :
    ∃ v' w', (Builtin.append_ #[t, u] ty #[v, .string s]).run P w = .ok v' w' ∧ w'.ownsRowF 0 e 1 v' (n + s.size) (xs ++ Lib.strCells s) ∧ w.grownBy w' v.ownBlock ∧ (v' = .slice none 0 0 ↔ v = .slice none 0 0 ∧ s.size = 0) ∧ Same w v v' := by
  obtain ⟨v', w', r1, r2, r3, r4⟩ := Lib.run_append_own_stringF (P := P) w 0 t u ty e i ht hu hi hz hsize hby v n xs hown s h63 hbytes (Nat.zero_le _)
  refine ⟨v', w', r1, r2, r3, r4, ?_⟩
  rcases hown.2 with ⟨rfl, rfl⟩ | ⟨g, cap, cur, fz, rfl, hbg, hg, hfz, hnc, hcm, hcs, htake⟩
  · obtain ⟨v2, w2, q1, q2, q3, q4⟩ := Lib.run_append_own_stringF (P := P) w w.heap.size t u ty e i ht hu hi hz hsize hby (.slice none 0 0) 0 xs ⟨hown.1, .inl ⟨rfl, rfl⟩⟩ s h63 hbytes (Nat.le_refl _)
    rw [r1] at q1
    obtain ⟨rfl, rfl⟩ : v' = v2 ∧ w' = w2 := by injection q1 with e1 e2; exact ⟨e1, e2⟩
    cases ho : v'.ownBlock with
    | none => exact .inl (by rw [ho]; rfl)
    | some g => exact .inr ⟨g, ho, (q2.lt g ho).1⟩
  · by_cases hroom : n + s.size ≤ cap
    · have hr := Lib.run_append_room_stringF (P := P) w t u ty e i ht hu hi hsize g n cap cur fz hg (by omega) s hroom (by omega)
      rw [r1] at hr
      obtain ⟨rfl, _⟩ : v' = .slice (some ⟨g, 0, none⟩) (n + s.size) cap ∧ True := by injection hr with e1 e2; exact ⟨e1, trivial⟩
      exact .inl rfl
    · have holds : ∀ j u, xs[j]? = some u → w.cell? ((⟨g, 0, none⟩ : Addr).add j) = some u := hown.cells (g := g) rfl
      have hsmall : n + s.size ≤ 9223372036854775807 := by simp only [maxLen] at h63; omega
      have hr := Lib.run_append_grow_string (P := P) w t u ty e i (.int .u8 0) ht hu hi hz ⟨g, 0, none⟩ n cap xs (by rw [hsize]; exact hown.1) holds s (by omega) (by omega) (growslice_fits (by omega) (by rw [hby]; omega))
      rw [r1] at hr
      obtain ⟨rfl, _⟩ : v' = .slice (some ⟨w.heap.size, 0, none⟩) (n + s.size) (grownCap w (n + s.size) cap e) ∧ True := by injection hr with e1 e2; exact ⟨e1, trivial⟩
      exact .inr ⟨w.heap.size, rfl, Nat.le_refl _⟩

theorem wp_append_ownX {ops : Array Oper} {rest : List Oper} {o : Oper} {a : Act} {Q : Exit → Act → World → Prop} (hgd : o.guard = none) (s x : Operand) (t : TypeId)
    (ho : o.op = .call { callee := .builtin .append, args := #[s, x], argTypes := #[t, t] })
    (e : TypeId) (i : TypeInfo) (ht : P.underlying t = some (.slice e)) (hi : P.info? e = some i) (hz : i.zero = some (.int .u8 0)) (hsize : i.size = 1) (hby : i.bytes = 1)
    (v : Value) (n : Nat) (xs : List Value) (hs : a.eval s = v) (hown : w.ownsRowF 0 e 1 v n xs)
    (ad : Addr) (m c : Nat) (news : List Value) (hx : a.eval x = .slice (some ad) m c) (hl : news.length = m) (hnews : ∀ j u, news[j]? = some u → w.cell? (ad.add j) = some u) (h1 : ∀ u ∈ news, u.oneCell' = true) (h63 : n + m ≤ maxLen) (hbytes : n + m ≤ 140737488355328)
    (h : ∀ v' w', w'.ownsRowF 0 e 1 v' (n + m) (xs ++ news) → w.grownBy w' v.ownBlock → (v' = .slice none 0 0 ↔ v = .slice none 0 0 ∧ m = 0) → Same w v v' → wpList P ops Q rest (a.put o.dst v') w') : wpList P ops Q (o :: rest) a w := by
  refine wpList_plain hgd fun K hK => ?_
  obtain ⟨v', w', hr, h2, h3, h4, h5⟩ := append_ownX (P := P) (w := w) t o.type e i ht hi hz hsize hby v n xs hown ad m c news hl hnews h1 h63 hbytes
  unfold Oper.wp execOp
  simp only [ho, resolve, invoke, builtin, Sem.run_bind, Sem.run_pure, Result.andThen_ok, List.map_toArray, List.map_cons, List.map_nil, hs, hx, hr]
  exact hK _ _ (h v' w' h2 h3 h4 h5)
theorem wp_append_own_strX {ops : Array Oper} {rest : List Oper} {o : Oper} {a : Act} {Q : Exit → Act → World → Prop} (hgd : o.guard = none) (sl x : Operand) (t u : TypeId)
    (ho : o.op = .call { callee := .builtin .append, args := #[sl, x], argTypes := #[t, u] })
    (e : TypeId) (i : TypeInfo) (ht : P.underlying t = some (.slice e)) (hu : P.underlying u = some .string) (hi : P.info? e = some i) (hz : i.zero = some (.int .u8 0)) (hsize : i.size = 1) (hby : i.bytes = 1)
    (v : Value) (n : Nat) (xs : List Value) (hs : a.eval sl = v) (hown : w.ownsRowF 0 e 1 v n xs) (s : ByteArray) (hx : a.eval x = .string s) (h63 : n + s.size ≤ maxLen) (hbytes : n + s.size ≤ 140737488355328)
    (h : ∀ v' w', w'.ownsRowF 0 e 1 v' (n + s.size) (xs ++ Lib.strCells s) → w.grownBy w' v.ownBlock → (v' = .slice none 0 0 ↔ v = .slice none 0 0 ∧ s.size = 0) → Same w v v' → wpList P ops Q rest (a.put o.dst v') w') : wpList P ops Q (o :: rest) a w := by
  refine wpList_plain hgd fun K hK => ?_
  obtain ⟨v', w', hr, h2, h3, h4, h5⟩ := append_own_strX (P := P) (w := w) t u o.type e i ht hu hi hz hsize hby v n xs hown s h63 hbytes
  unfold Oper.wp execOp
  simp only [ho, resolve, invoke, builtin, Sem.run_bind, Sem.run_pure, Result.andThen_ok, List.map_toArray, List.map_cons, List.map_nil, hs, hx, hr]
  exact hK _ _ (h v' w' h2 h3 h4 h5)
end

end Go.Vm
end

section
set_option linter.unusedVariables false
namespace Go.Vm
open Go.RowKit Go.Shelf Go.Proofs

section
variable {P : Program} {ρ : Ren}

structure BAt (T e : TypeId) (w : World) (b : Nat) (p v : Value) (bs : List Value) : Prop where
  hp : p = .pointer none ∨ p = .pointer (some ⟨b, 0, none⟩)
  hb : w.heap[b]? = some (.cells #[p, v] T (0, 0))
  own : w.ownsRowF 0 e 1 v bs.length bs
  ne : v.ownBlock ≠ some b
theorem BAt.isB {T e : TypeId} {w : World} {b : Nat} {p v : Value} {bs : List Value} (h : BAt T e w b p v bs) : Lib.IsBuilderF T e 0 b bs w := by
  rcases h.hp with rfl | rfl
  · exact .inl ⟨Nat.zero_le _, v, h.hb, h.own, h.ne⟩
  · exact .inr ⟨Nat.zero_le _, v, h.hb, h.own, h.ne⟩
theorem BAt.lt {T e : TypeId} {w : World} {b : Nat} {p v : Value} {bs : List Value} (h : BAt T e w b p v bs) : b < w.heap.size := by
  rcases Nat.lt_or_ge b w.heap.size with h' | h'
  · exact h'
  · have := h.hb; simp [Array.getElem?_eq_none h'] at this

structure Kept (w w' : World) (b : Nat) (v v' : Value) : Prop where
  os : w'.os = w.os
  tape : w'.tape = w.tape
  output : w'.output = w.output
  size : w.heap.size ≤ w'.heap.size
  blk : ∀ k, k < w.heap.size → k ≠ b → some k ≠ v.ownBlock → w'.heap[k]? = w.heap[k]?
  same : Same w v v'

def SizeEq (w1 w : World) : Prop := w1.heap.size = w.heap.size
theorem SizeEq.eq {w1 w : World} (h : SizeEq w1 w) : w1.heap.size = w.heap.size := h

theorem bld_copyCheck (L : Lays.n240 P ρ) (X : Builder.X72 P ρ) {w : World} {b : Nat} {p v : Value} {bs : List Value} (h : BAt (ρ.t 72) (ρ.t 5) w b p v bs) :
    Calls P (ρ.f 240) #[.pointer (some ⟨b, 0, none⟩)] w fun e w' => e = .returned (.tuple #[]) ∧ BAt (ρ.t 72) (ρ.t 5) w' b (.pointer (some ⟨b, 0, none⟩)) v bs ∧ w'.os = w.os ∧ w'.tape = w.tape ∧ w'.output = w.output ∧ SizeEq w' w ∧ ∀ k, k ≠ b → w'.heap[k]? = w.heap[k]? := by
  rcases h.hp with rfl | rfl
  · have hA : Lib.BuilderAtF (ρ.t 72) (ρ.t 5) 0 b (.pointer none) bs w := ⟨Nat.zero_le _, v, h.hb, h.own, h.ne⟩
    refine (Any.Builder_copyCheck_fresh L X b w hA.cell0 hA.shape hA.frozen0).mono ?_
    rintro e w' ⟨rfl, rfl⟩
    refine ⟨rfl, ⟨.inr rfl, ?_, ?_, h.ne⟩, rfl, rfl, rfl, by simp [SizeEq], fun k hk => Below.heap_setCell _ _ _ _ hk⟩
    · have := h.hb
      simp [World.setCell, Array.getElem?_modify, this]
    · exact h.own.kept (row := some b) ⟨rfl, rfl, rfl, by simp [World.setCell], fun k _ hk => Below.heap_setCell _ _ _ _ (fun e => hk (by simp [e]))⟩ (Or.inr h.ne)
  · have hA : Lib.BuilderAtF (ρ.t 72) (ρ.t 5) 0 b (.pointer (some ⟨b, 0, none⟩)) bs w := ⟨Nat.zero_le _, v, h.hb, h.own, h.ne⟩
    refine (Any.Builder_copyCheck_used L X b w hA.cell0).mono ?_
    rintro e w' ⟨rfl, rfl⟩
    exact ⟨rfl, h, rfl, rfl, rfl, rfl, fun _ _ => rfl⟩

theorem bld_put {T e : TypeId} {w w1 w2 : World} {b : Nat} {v v' : Value} {bs' : List Value} (hTe : T ≠ e) (hsz : w1.heap.size = w.heap.size ∨ w1.heap.size = w.heap.size + 1) (hos : w1.os = w.os ∧ w1.tape = w.tape ∧ w1.output = w.output) (hold : ∀ k, k < w.heap.size → k ≠ b → w1.heap[k]? = w.heap[k]?)
    (hb2 : w2.heap[b]? = some (.cells #[.pointer (some ⟨b, 0, none⟩), v] T (0, 0))) (hgrow : w1.grownBy w2 v.ownBlock) (hown : w2.ownsRowF 0 e 1 v' bs'.length bs') (hs : Same w1 v v') (hv : ∀ g, v.ownBlock = some g → g < w.heap.size) :
    BAt T e (w2.setCell ⟨b, 1, none⟩ v') b (.pointer (some ⟨b, 0, none⟩)) v' bs' ∧ Kept w (w2.setCell ⟨b, 1, none⟩ v') b v v' := by
  have hne := Lib.ownBlock_neF hown hb2 hTe
  refine ⟨⟨.inr rfl, ?_, ?_, hne⟩, ⟨hgrow.os.trans hos.1, hgrow.tape.trans hos.2.1, hgrow.output.trans hos.2.2, by have := hgrow.size; simp; omega, fun k hk h1 h2 => ?_, ?_⟩⟩
  · simp [World.setCell, Array.getElem?_modify, hb2]
  · exact hown.kept (row := some b) ⟨rfl, rfl, rfl, by simp [World.setCell], fun k _ hk => Below.heap_setCell _ _ _ _ (fun e => hk (by simp [e]))⟩ (Or.inr hne)
  · rw [Below.heap_setCell _ _ _ _ h1, hgrow.block k (by omega) h2, hold k hk h1]
  · rcases hs with h | ⟨g, h1, h2⟩
    · exact .inl h
    · exact .inr ⟨g, h1, by omega⟩

set_option maxHeartbeats 2000000 in
set_option maxRecDepth 100000 in
theorem bld_WriteByte (L : Lays.n167 P ρ) (X : Builder.Extra P ρ) {w : World} {b : Nat} {p v : Value} {bs : List Value} (h : BAt (ρ.t 72) (ρ.t 5) w b p v bs) (c : Int) (hlen : bs.length + 1 ≤ 140737488355328) :
    Calls P (ρ.f 167) #[.pointer (some ⟨b, 0, none⟩), .int .u8 c] w fun e w' => e = .returned .nilIface ∧ ∃ v', BAt (ρ.t 72) (ρ.t 5) w' b (.pointer (some ⟨b, 0, none⟩)) v' (bs ++ [.int .u8 c]) ∧ Kept w w' b v v' := by
  obtain ⟨i0, hi, hz0, hz1, hz2⟩ := info_parts X.infoByte
  have mixed := L.mixed
  have t72 := L.t72; have a72 := L.a72; have z72 := L.z72; have v72 := L.v72; have u72 := run_underlying L.t72
  have t70 := L.t70; have a70 := L.a70; have z70 := L.z70; have v70 := L.v70; have u70 := run_underlying L.t70
  have t5 := L.t5; have a5 := L.a5; have z5 := L.z5; have v5 := L.v5; have u5 := run_underlying L.t5
  have t37 := L.t37; have a37 := L.a37; have z37 := L.z37; have v37 := L.v37; have u37 := run_underlying L.t37
  have t9 := L.t9; have a9 := L.a9; have z9 := L.z9; have v9 := L.v9; have u9 := run_underlying L.t9
  have t4 := L.t4; have a4 := L.a4; have z4 := L.z4; have v4 := L.v4; have u4 := run_underlying L.t4
  have t164 := L.t164; have a164 := L.a164; have z164 := L.z164; have v164 := L.v164; have u164 := run_underlying L.t164
  have e240 : ∀ args w, (callFunc (ρ.f 240) args).run P w = .ok (.enter (ρ.f 240) args) w := enters_of L.f240 (by kernel_rfl) rfl
  go_enter L.f167, Body.n167_ntmps ρ
  go_wp2_with (go_at_fn (ρ.f 240); refine (bld_copyCheck { L with } X.toX72 h).mono ?_)
  rintro e w1 ⟨rfl, h1, o1, o2, o3, hsz1, hold1⟩
  obtain ⟨_, hbk, hown, hne⟩ := h1
  have c0 : w1.cell? ⟨b, 0, none⟩ = some (.pointer (some ⟨b, 0, none⟩)) := by rw [Lib.cell_of_heap hbk]; rfl
  have c1 : w1.cell? ⟨b, 1, none⟩ = some v := by rw [Lib.cell_of_heap hbk]; rfl
  go_wp2_with (at_builtin; refine wp_append_ownX rfl _ _ (ρ.t 37) rfl (ρ.t 5) i0 L.t37 hi hz0 hz1 hz2 _ _ _ rfl (hown.alloc _) ⟨w1.heap.size, 0, none⟩ 1 1 [.int .u8 c] rfl rfl ?c1 ?c2 ?c3 ?c4 ?_)
  case c1 =>
    intro j u hj
    match j, hj with
    | 0, hj => simp at hj; subst hj; simp [Addr.add]
  case c2 => intro u hu; simp at hu; subst hu; rfl
  case c3 => unfold maxLen; omega
  case c4 => omega
  intro v' w2 hown' hgrow _ hsame
  have hlt : b < w1.heap.size := by
    rcases Nat.lt_or_ge b w1.heap.size with h' | h'
    · exact h'
    · simp [Array.getElem?_eq_none h'] at hbk
  have hb2 : w2.heap[b]? = some (.cells #[.pointer (some ⟨b, 0, none⟩), v] (ρ.t 72) (0, 0)) := by
    rw [hgrow.block b (by simp; omega) (fun e => hne e.symm), Lib.alloc_old w1 _ b hlt]
    exact hbk
  have d0 : w2.cell? ⟨b, 0, none⟩ = some (.pointer (some ⟨b, 0, none⟩)) := by rw [Lib.cell_of_heap hb2]; rfl
  have d1 : w2.cell? ⟨b, 1, none⟩ = some v := by rw [Lib.cell_of_heap hb2]; rfl
  have f1 : w2.frozen? ⟨b, 1, none⟩ = false := Lib.frozen_of_heap hb2 1
  obtain ⟨g, cap, rfl⟩ : ∃ g cap, v' = .slice (some ⟨g, 0, none⟩) (bs.length + 1) cap := by
    rcases hown'.2 with ⟨_, h0⟩ | ⟨g, cap, cur, fz, hv, _⟩
    · omega
    · exact ⟨g, cap, hv⟩
  go_wp2
  go_ret
  refine ⟨rfl, _, bld_put X.neB5 (w := w) (w1 := w1.alloc (.cells #[.int .u8 c] (ρ.t 5))) (.inr (by simp [hsz1.eq])) ⟨o1, o2, o3⟩ (fun k hk hkb => by rw [Lib.alloc_old w1 _ k (by rw [hsz1.eq]; exact hk)]; exact hold1 k hkb) hb2 hgrow (by simpa using hown') hsame (fun g hg => (h.own.lt g hg).2)⟩

set_option maxHeartbeats 2000000 in
set_option maxRecDepth 100000 in
theorem bld_WriteString (L : Lays.n166 P ρ) (X : Builder.Extra P ρ) {w : World} {b : Nat} {p v : Value} {bs : List Value} (h : BAt (ρ.t 72) (ρ.t 5) w b p v bs) (s : ByteArray) (hlen : bs.length + s.size ≤ 140737488355328) :
    Calls P (ρ.f 166) #[.pointer (some ⟨b, 0, none⟩), .string s] w fun e w' => e = .returned (.tuple #[.int .i64 s.size, .nilIface]) ∧ ∃ v', BAt (ρ.t 72) (ρ.t 5) w' b (.pointer (some ⟨b, 0, none⟩)) v' (bs ++ Lib.strCells s) ∧ Kept w w' b v v' ∧ (v = .slice none 0 0 → s.size = 0 → v' = .slice none 0 0) := by
  obtain ⟨i0, hi, hz0, hz1, hz2⟩ := info_parts X.infoByte
  have mixed := L.mixed
  have t72 := L.t72; have a72 := L.a72; have z72 := L.z72; have v72 := L.v72; have u72 := run_underlying L.t72
  have t70 := L.t70; have a70 := L.a70; have z70 := L.z70; have v70 := L.v70; have u70 := run_underlying L.t70
  have t37 := L.t37; have a37 := L.a37; have z37 := L.z37; have v37 := L.v37; have u37 := run_underlying L.t37
  have t3 := L.t3; have a3 := L.a3; have z3 := L.z3; have v3 := L.v3; have u3 := run_underlying L.t3
  have t9 := L.t9; have a9 := L.a9; have z9 := L.z9; have v9 := L.v9; have u9 := run_underlying L.t9
  have t4 := L.t4; have a4 := L.a4; have z4 := L.z4; have v4 := L.v4; have u4 := run_underlying L.t4
  have t164 := L.t164; have a164 := L.a164; have z164 := L.z164; have v164 := L.v164; have u164 := run_underlying L.t164
  have t5 := X.t5; have a5 := X.a5; have z5 := X.z5; have v5 := X.v5; have u5 := run_underlying X.t5
  have e240 : ∀ args w, (callFunc (ρ.f 240) args).run P w = .ok (.enter (ρ.f 240) args) w := enters_of L.f240 (by kernel_rfl) rfl
  go_enter L.f166, Body.n166_ntmps ρ
  go_wp2_with (go_at_fn (ρ.f 240); refine (bld_copyCheck { L with } X.toX72 h).mono ?_)
  rintro e w1 ⟨rfl, h1, o1, o2, o3, hsz1, hold1⟩
  obtain ⟨_, hbk, hown, hne⟩ := h1
  have c0 : w1.cell? ⟨b, 0, none⟩ = some (.pointer (some ⟨b, 0, none⟩)) := by rw [Lib.cell_of_heap hbk]; rfl
  have c1 : w1.cell? ⟨b, 1, none⟩ = some v := by rw [Lib.cell_of_heap hbk]; rfl
  go_wp2_with (at_builtin; refine wp_append_own_strX rfl _ _ (ρ.t 37) (ρ.t 9) rfl (ρ.t 5) i0 L.t37 L.t9 hi hz0 hz1 hz2 _ _ _ rfl hown s rfl ?c3 ?c4 ?_)
  case c3 => unfold maxLen; omega
  case c4 => omega
  intro v' w2 hown' hgrow hnil hsame
  have hlt : b < w1.heap.size := by
    rcases Nat.lt_or_ge b w1.heap.size with h' | h'
    · exact h'
    · simp [Array.getElem?_eq_none h'] at hbk
  have hb2 : w2.heap[b]? = some (.cells #[.pointer (some ⟨b, 0, none⟩), v] (ρ.t 72) (0, 0)) := by
    rw [hgrow.block b hlt (fun e => hne e.symm)]
    exact hbk
  have d0 : w2.cell? ⟨b, 0, none⟩ = some (.pointer (some ⟨b, 0, none⟩)) := by rw [Lib.cell_of_heap hb2]; rfl
  have d1 : w2.cell? ⟨b, 1, none⟩ = some v := by rw [Lib.cell_of_heap hb2]; rfl
  have f1 : w2.frozen? ⟨b, 1, none⟩ = false := Lib.frozen_of_heap hb2 1
  obtain ⟨ao, n', cap, rfl⟩ : ∃ ao n' cap, v' = .slice ao n' cap := by
    rcases hown'.2 with ⟨hv, _⟩ | ⟨g, cap, cur, fz, hv, _⟩
    · exact ⟨_, _, _, hv⟩
    · exact ⟨_, _, _, hv⟩
  go_wp2
  go_ret2
  have hp := bld_put (bs' := bs ++ Lib.strCells s) X.neB5 (w := w) (.inl hsz1.eq) ⟨o1, o2, o3⟩ (fun k hk hkb => hold1 k hkb) hb2 hgrow (by simpa [Lib.strCells_length] using hown') hsame (fun g hg => (h.own.lt g hg).2)
  exact ⟨rfl, _, hp.1, hp.2, fun h1 h2 => hnil.2 ⟨h1, by
    obtain ⟨⟨l⟩⟩ := s
    cases l with
    | nil => rfl
    | cons a r => simp [ByteArray.size] at h2⟩⟩

end
end Go.Vm
end

section
set_option linter.unusedVariables false
namespace Go.Vm
open Go.RowKit Go.Shelf Go.Proofs

section
variable {P : Program} {ρ : Ren}

theorem freeze_other (w : World) (a : Addr) (n k : Nat) (h : k ≠ a.block) : (w.freeze a n).heap[k]? = w.heap[k]? := by
  unfold World.freeze
  split
  · rfl
  · simp [Array.getElem?_modify, h.symm]

set_option maxHeartbeats 2000000 in
set_option maxRecDepth 100000 in
theorem bld_String_nil (L : Lays.n169 P ρ) (X : Builder.Extra P ρ) {w : World} {b : Nat} {p : Value} (h : BAt (ρ.t 72) (ρ.t 5) w b p (.slice none 0 0) []) :
    Calls P (ρ.f 169) #[.pointer (some ⟨b, 0, none⟩)] w fun e w' => e = .returned (.string ⟨#[]⟩) ∧ w' = w.drew := by
  have hUS := Any.unsafeString_none L X
  have c1 : w.drew.cell? ⟨b, 1, none⟩ = some (.slice none 0 0) := by
    have : w.drew.heap[b]? = some (.cells #[p, .slice none 0 0] (ρ.t 72) (0, 0)) := h.hb
    rw [Lib.cell_of_heap this]; rfl
  have hSD : (Builtin.unsafeSliceData_ #[(ρ.t 37)] (ρ.t 127) #[.slice none 0 0]).run P w.drew = .ok (.pointer none) w.drew := rfl
  have mixed := L.mixed
  have t72 := L.t72; have a72 := L.a72; have z72 := L.z72; have v72 := L.v72; have u72 := run_underlying L.t72
  have t70 := L.t70; have a70 := L.a70; have z70 := L.z70; have v70 := L.v70; have u70 := run_underlying L.t70
  have t37 := L.t37; have a37 := L.a37; have z37 := L.z37; have v37 := L.v37; have u37 := run_underlying L.t37
  have t127 := L.t127; have a127 := L.a127; have z127 := L.z127; have v127 := L.v127; have u127 := run_underlying L.t127
  have t3 := L.t3; have a3 := L.a3; have z3 := L.z3; have v3 := L.v3; have u3 := run_underlying L.t3
  have t9 := L.t9; have a9 := L.a9; have z9 := L.z9; have v9 := L.v9; have u9 := run_underlying L.t9
  have t5 := X.t5; have a5 := X.a5; have z5 := X.z5; have v5 := X.v5; have u5 := run_underlying X.t5
  go_enter L.f169, Body.n169_ntmps ρ
  go_wp2
  go_region_o
  all_goals (go_wp2; go_ret; exact ⟨rfl, rfl⟩)

set_option maxHeartbeats 2000000 in
set_option maxRecDepth 100000 in
theorem bld_String_some (L : Lays.n169 P ρ) (X : Builder.Extra P ρ) {w : World} {b g cap : Nat} {p : Value} {l : List UInt8} (h0 : l ≠ []) (h : BAt (ρ.t 72) (ρ.t 5) w b p (.slice (some ⟨g, 0, none⟩) l.length cap) (Lib.byteCells l)) :
    Calls P (ρ.f 169) #[.pointer (some ⟨b, 0, none⟩)] w fun e w' => e = .returned (.string ⟨l.toArray⟩) ∧ w' = w.drew.freeze ⟨g, 0, none⟩ l.length := by
  have hl0 : l.length ≠ 0 := by simpa using h0
  have hbk := h.hb
  have hown := h.own
  rw [Lib.byteCells_length] at hown
  obtain ⟨cur, fz, hg, hfz, hnc, hcm, hcs, htake⟩ : ∃ cur fz, w.heap[g]? = some (.cells cur (ρ.t 5) fz) ∧ fz.2 ≤ l.length * 1 ∧ l.length ≤ cap ∧ cap ≤ maxLen ∧ cur.size = cap * 1 ∧ cur.toList.take (l.length * 1) = Lib.byteCells l := by
    rcases hown.2 with ⟨_, hz⟩ | ⟨g', cap', cur, fz, hv, hB, r⟩
    · exact absurd hz hl0
    · injection hv with e1 e2 e3
      injection e1 with e1
      injection e1 with e1 _
      subst e1; subst e3
      exact ⟨cur, fz, r⟩
  have c1 : w.drew.cell? ⟨b, 1, none⟩ = some (.slice (some ⟨g, 0, none⟩) l.length cap) := by
    have : w.drew.heap[b]? = some (.cells #[p, .slice (some ⟨g, 0, none⟩) l.length cap] (ρ.t 72) (0, 0)) := hbk
    rw [Lib.cell_of_heap this]; rfl
  have hSD : (Builtin.unsafeSliceData_ #[(ρ.t 37)] (ρ.t 127) #[.slice (some ⟨g, 0, none⟩) l.length cap]).run P w.drew = .ok (.pointer (some ⟨g, 0, none⟩)) w.drew :=
    Lib.run_unsafeSliceData_row _ _ _ _ _ _ (by omega)
  have hUS : (Builtin.unsafeString_ #[(ρ.t 127), (ρ.t 3)] (ρ.t 9) #[.pointer (some ⟨g, 0, none⟩), .int .i64 l.length]).run P w.drew = .ok (.string ⟨l.toArray⟩) (w.drew.freeze ⟨g, 0, none⟩ l.length) := by
    refine Lib.run_unsafeString_row w.drew (ρ.t 127) (ρ.t 3) (ρ.t 9) (ρ.t 5) L.t127 X.cellsByte g cur.size (by have hg' : w.drew.heap[g]? = some (.cells cur (ρ.t 5) fz) := hg; simp [World.shape?, hg']) l h0 (by omega) (by unfold maxLen at hcm; omega) ?_
    intro j x hx
    have := hown.cells (g := g) rfl j (.int .u8 x.toNat) (by simp [Lib.byteCells, hx])
    exact this
  have mixed := L.mixed
  have t72 := L.t72; have a72 := L.a72; have z72 := L.z72; have v72 := L.v72; have u72 := run_underlying L.t72
  have t70 := L.t70; have a70 := L.a70; have z70 := L.z70; have v70 := L.v70; have u70 := run_underlying L.t70
  have t37 := L.t37; have a37 := L.a37; have z37 := L.z37; have v37 := L.v37; have u37 := run_underlying L.t37
  have t127 := L.t127; have a127 := L.a127; have z127 := L.z127; have v127 := L.v127; have u127 := run_underlying L.t127
  have t3 := L.t3; have a3 := L.a3; have z3 := L.z3; have v3 := L.v3; have u3 := run_underlying L.t3
  have t9 := L.t9; have a9 := L.a9; have z9 := L.z9; have v9 := L.v9; have u9 := run_underlying L.t9
  have t5 := X.t5; have a5 := X.a5; have z5 := X.z5; have v5 := X.v5; have u5 := run_underlying X.t5
  go_enter L.f169, Body.n169_ntmps ρ
  go_wp2
  go_region_o
  all_goals (go_wp2; go_ret; exact ⟨rfl, rfl⟩)

end
end Go.Vm
end

section
set_option linter.unusedVariables false
namespace Go.Vm
open Go.RowKit Go.Shelf Go.Proofs

@[reducible] def bldB (T b n : Nat) : Blk := .map [(.nils T, .bsl b 0 n)]
@[reducible] def bufB (e : Nat) (bytes : List UInt8) : Blk := .map [(.emps e, .d false .nilp), (.str bytes, .d false .nilp)]

section
variable {P : Program} {ρ : Ren} {w w' : World} {F : Nat → Prop} {σ : Nat → Option Loc}

theorem bCells_len (l : List UInt8) : (bCells l).length = l.length := by simp [bCells]

theorem bld_open {T e : Nat} {bytes : List UInt8} (hH : HeapRel w F (OwnB σ) w.heap.size σ 2 (indexed [bldB T 1 bytes.length, bufB e bytes])) :
    ∃ l0 p v, σ 0 = some l0 ∧ l0.k = 0 ∧ BAt T e w l0.blk p v (bCells bytes) ∧ (bytes = [] → v = .slice none 0 0) ∧ ∀ g, v.ownBlock = some g → ∃ l, σ 1 = some l ∧ l.blk = g := by
  have h0 := hH.blk 0 (bldB T 1 bytes.length) rfl
  have h1 := hH.blk 1 (bufB e bytes) rfl
  rcases h0 with ⟨hn, _⟩ | ⟨l0, es, ck, ds, hds, hs0, hm, hk, _, _⟩ | ⟨_, _, _, _, _, _, _, _, _, he⟩
  · simp [Blk.n, nilBuf, nilKeys] at hn
  · obtain rfl : [(D.nils T, V.bsl 1 0 bytes.length)] = ds := by injection hds
    rcases hm with ⟨_, _, ht⟩ | ⟨T', p, v, x, hx, hw, hp, hv⟩ | ⟨T', cur, fz, bs, hx, _⟩
    · simp [tagged] at ht
    · simp only [List.cons.injEq, Prod.mk.injEq, D.nils.injEq, and_true] at hx
      obtain ⟨rfl, rfl⟩ := hx
      obtain ⟨_, hv⟩ := hv
      refine ⟨l0, p, v, hs0, hk, ?_⟩
      rcases hv with ⟨hb, rfl⟩ | ⟨l, hl, hpos, rfl⟩
      · obtain rfl : bytes = [] := List.eq_nil_of_length_eq_zero hb
        exact ⟨⟨hp, hw, World.ownsRowF_nil _ _ _ _, by simp [Value.ownBlock]⟩, fun _ => rfl, fun g hg => by simp [Value.ownBlock] at hg⟩
      · rcases h1 with ⟨_, hn⟩ | ⟨l1, es1, ck1, ds1, hds1, hs1, hm1, hk1, _, _⟩ | ⟨_, _, _, _, _, _, _, _, _, he⟩
        · rw [hl] at hn; cases hn
        · obtain rfl : [(D.emps e, V.d false .nilp), (.str bytes, .d false .nilp)] = ds1 := by injection hds1
          rw [hl] at hs1
          obtain rfl := Option.some.inj hs1
          rcases hm1 with ⟨_, _, ht⟩ | ⟨T', p', v', x', hx, _⟩ | ⟨T', cur, fz, bs, hx, hg, f1, f2, f3, f4, f5⟩
          · simp [tagged] at ht
          · simp at hx
          · simp only [List.map_cons, List.map_nil, List.cons.injEq, D.emps.injEq, D.str.injEq, and_true] at hx
            obtain ⟨rfl, rfl⟩ := hx
            refine ⟨⟨hp, hw, ⟨by simp, .inr ⟨l.blk, l.ext, cur, fz, by rw [bCells_len], Nat.zero_le _, hg, by rw [bCells_len]; omega, by rw [bCells_len]; exact f2, f4, by omega, ?_⟩⟩, ?_⟩, fun h => ?_, fun g hg => ⟨l, hl, ?_⟩⟩
            · rw [bCells_len, Nat.mul_one]; exact f5
            · intro h
              simp only [Value.ownBlock, Option.some.injEq] at h
              have := hH.inj 0 1 l0 l hs0 hl h.symm
              cases this
            · rw [h] at hpos; simp at hpos
            · simpa [Value.ownBlock] using hg
        · simp [Blk.entries] at he
    · simp at hx
  · simp [Blk.entries] at he

theorem bld_close {T e : Nat} {l0 : Loc} {p' v v' : Value} {bytes' : List UInt8} {H : List (Nat × Blk)} (hH : HeapRel w F (OwnB σ) w.heap.size σ 2 H) (hs0 : σ 0 = some l0) (hk0 : l0.k = 0) (hv : ∀ g, v.ownBlock = some g → ∃ l, σ 1 = some l ∧ l.blk = g)
    (hb : BAt T e w' l0.blk p' v' (bCells bytes')) (hK : Kept w w' l0.blk v v') (hnil : bytes' = [] → v' = .slice none 0 0) :
    ∃ σ', Frame (OwnB σ) w.heap.size w w' ∧ HeapRel w' F (OwnB σ) w.heap.size σ' 2 (indexed [bldB T 1 bytes'.length, bufB e bytes']) ∧ ∀ i l, i < 2 → σ i = some l → i ∉ [1] → σ' i = some l := by
  have hF : ∀ b, F b → b < w'.heap.size := fun b hf => Nat.lt_of_lt_of_le (hH.fro b hf) hK.size
  have hframe : Frame (OwnB σ) w.heap.size w w' := ⟨hK.os, hK.tape, hK.output, hK.size, fun k hk hX => hK.blk k hk (fun h => hX 0 ⟨l0, hs0, h.symm⟩) (fun h => by
    obtain ⟨l, h1, h2⟩ := hv k h.symm
    exact hX 1 ⟨l, h1, h2⟩)⟩
  obtain ⟨o1, o2, o3, o4⟩ := hH.own 0 l0 hs0
  have hlt0 := hb.lt
  rcases hb.own.2 with ⟨rfl, hz⟩ | ⟨g, cap, cur, fz, rfl, _, hg, f1, f2, f3, f4, f5⟩
  · -- no buffer
    have hz' : bytes' = [] := by rw [bCells_len] at hz; exact List.eq_nil_of_length_eq_zero hz
    subst hz'
    refine ⟨fun i => if i = 0 then some l0 else none, hframe, ⟨fun i blk hi => ?_, fun i j l l' h1 h2 _ => ?_, fun i l h => ?_, hF⟩, fun i l hi hl hm => ?_⟩
    · have : (i = 0 ∧ blk = bldB T 1 0) ∨ (i = 1 ∧ blk = bufB e []) := by
        simp only [indexed, List.zipIdx_cons, List.zipIdx_nil, List.map_cons, List.map_nil, look, List.length_nil] at hi
        split at hi
        · rename_i h; exact .inl ⟨h.symm, (Option.some.inj hi).symm⟩
        · split at hi
          · rename_i h; exact .inr ⟨by omega, (Option.some.inj hi).symm⟩
          · cases hi
      rcases this with ⟨rfl, rfl⟩ | ⟨rfl, rfl⟩
      · exact .inr (.inl ⟨l0, #[⟨.slice none 0 0, .slice none 0 0, 0⟩], 0, _, rfl, rfl, .inr (.inl ⟨T, p', .slice none 0 0, _, rfl, hb.hb, hb.hp, rfl, .inl ⟨rfl, rfl⟩⟩), hk0, trivial, rfl, fun i e p he hp => by
          match i, he, hp with
          | 0, he, hp =>
            simp at he hp
            subst he; subst hp
            exact ⟨rfl, .nils T, .bsl0 none 1 0⟩
          | i + 1, he, hp => simp at he⟩)
      · exact .inl ⟨rfl, rfl⟩
    · split at h1
      · split at h2
        · omega
        · cases h2
      · cases h1
    · split at h
      · rename_i h0
        subst h0
        obtain rfl := Option.some.inj h
        exact ⟨by omega, o2, o3, hlt0⟩
      · cases h
    · have : i = 0 := by simp at hm; omega
      subst this
      show some l0 = some l
      rw [← hs0]; exact hl
  · have hgne : g ≠ l0.blk := fun h => hb.ne (by simp [Value.ownBlock, h])
    have hpos : 0 < bytes'.length := by
      rcases Nat.eq_zero_or_pos bytes'.length with h | h
      · have := hnil (List.eq_nil_of_length_eq_zero h)
        simp at this
      · exact h
    have hgl : g < w'.heap.size := by
      rcases Nat.lt_or_ge g w'.heap.size with h' | h'
      · exact h'
      · simp [Array.getElem?_eq_none h'] at hg
    rw [bCells_len, Nat.mul_one] at f1 f5
    rw [bCells_len] at f2
    -- where the buffer is
    have gown : ¬ F g ∧ (w.heap.size ≤ g ∨ OwnB σ 1 g) := by
      rcases hK.same with h | ⟨g', h1, h2⟩
      · obtain ⟨l, h1, h2⟩ := hv g (by rw [← h]; rfl)
        obtain ⟨q1, q2, q3, q4⟩ := hH.own 1 l h1
        rw [h2] at q2
        exact ⟨q2, .inr ⟨l, h1, h2⟩⟩
      · simp only [Value.ownBlock, Option.some.injEq] at h1
        subst h1
        exact ⟨fun hf => by have := hH.fro _ hf; omega, .inl h2⟩
    let l1 : Loc := ⟨g, 0, cap⟩
    refine ⟨fun i => if i = 0 then some l0 else if i = 1 then some l1 else none, hframe, ⟨fun i blk hi => ?_, fun i j l l' h1 h2 he => ?_, fun i l h => ?_, hF⟩, fun i l hi hl hm => ?_⟩
    · have : (i = 0 ∧ blk = bldB T 1 bytes'.length) ∨ (i = 1 ∧ blk = bufB e bytes') := by
        simp only [indexed, List.zipIdx_cons, List.zipIdx_nil, List.map_cons, List.map_nil, look] at hi
        split at hi
        · rename_i h; exact .inl ⟨h.symm, (Option.some.inj hi).symm⟩
        · split at hi
          · rename_i h; exact .inr ⟨by omega, (Option.some.inj hi).symm⟩
          · cases hi
      rcases this with ⟨rfl, rfl⟩ | ⟨rfl, rfl⟩
      · refine .inr (.inl ⟨l0, #[⟨.slice none 0 0, .slice (some ⟨g, 0, none⟩) bytes'.length cap, 0⟩], 0, _, rfl, rfl, .inr (.inl ⟨T, p', _, _, rfl, hb.hb, hb.hp, rfl, .inr ⟨l1, rfl, hpos, by rw [bCells_len]⟩⟩), hk0, trivial, rfl, fun i e p he hp => ?_⟩)
        match i, he, hp with
        | 0, he, hp =>
          simp at he hp
          subst he; subst hp
          exact ⟨rfl, .nils T, by
            have := RepV.bsl (w := w') (F := F) (base := w.heap.size) (σ := fun i => if i = 0 then some l0 else if i = 1 then some l1 else none) 1 0 bytes'.length cap l1 rfl f2 (by simp [l1])
            simpa [l1] using this⟩
        | i + 1, he, hp => simp at he
      · refine .inr (.inl ⟨l1, #[⟨.slice (some ⟨0, 0, none⟩) 0 0, .pointer none, 0⟩, ⟨.string ⟨bytes'.toArray⟩, .pointer none, 0⟩], 0, _, rfl, rfl, .inr (.inr ⟨e, cur, fz, bytes', rfl, hg, f1, f2, by simpa using f4, f3, f5⟩), rfl, trivial, rfl, fun i e' p he hp => ?_⟩)
        match i, he, hp with
        | 0, he, hp =>
          simp at he hp
          subst he; subst hp
          exact ⟨rfl, .emps _ _ e, .d _ _ _ .nilp⟩
        | 1, he, hp =>
          simp at he hp
          subst he; subst hp
          exact ⟨rfl, .str ⟨bytes'.toArray⟩, .d _ _ _ .nilp⟩
        | i + 2, he, hp => simp at he
    · have two : ∀ {i : Nat} {l : Loc}, (if i = 0 then some l0 else if i = 1 then some l1 else none) = some l → (i = 0 ∧ l = l0) ∨ (i = 1 ∧ l = l1) := by
        intro i l h
        split at h
        · rename_i h0; exact .inl ⟨h0, (Option.some.inj h).symm⟩
        · split at h
          · rename_i h0; exact .inr ⟨h0, (Option.some.inj h).symm⟩
          · cases h
      rcases two h1 with ⟨rfl, rfl⟩ | ⟨rfl, rfl⟩ <;> rcases two h2 with ⟨rfl, rfl⟩ | ⟨rfl, rfl⟩
      · rfl
      · exact absurd he.symm hgne
      · exact absurd he hgne
      · rfl
    · split at h
      · rename_i h0
        subst h0
        obtain rfl := Option.some.inj h
        exact ⟨by omega, o2, o3, hlt0⟩
      · split at h
        · rename_i h0
          subst h0
          obtain rfl := Option.some.inj h
          exact ⟨by omega, gown.1, gown.2, hgl⟩
        · cases h
    · have : i = 0 := by simp at hm; omega
      subst this
      show some l0 = some l
      rw [← hs0]; exact hl

theorem ptr0_inv {base : Nat} {v : Value} {l0 : Loc} (hs0 : σ 0 = some l0) (h : RepV w F base σ v (.ptr 0 0 0)) : v = .pointer (some ⟨l0.blk, 0, none⟩) := by
  cases h with
  | ptr _ _ _ l hl =>
    rw [hs0] at hl
    obtain rfl := Option.some.inj hl
    simp

variable {G : Nat → Option (List D)}

def WbOk (P : Program) (f : FuncId) (T e : TypeId) : Prop := ∀ {w : World} {b : Nat} {p v : Value} {bs : List Value}, BAt T e w b p v bs → ∀ (c : Int), bs.length + 1 ≤ 140737488355328 →
    Calls P f #[.pointer (some ⟨b, 0, none⟩), .int .u8 c] w fun x w' => x = .returned .nilIface ∧ ∃ v', BAt T e w' b (.pointer (some ⟨b, 0, none⟩)) v' (bs ++ [.int .u8 c]) ∧ Kept w w' b v v'
def WsOk (P : Program) (f : FuncId) (T e : TypeId) : Prop := ∀ {w : World} {b : Nat} {p v : Value} {bs : List Value}, BAt T e w b p v bs → ∀ (s : ByteArray), bs.length + s.size ≤ 140737488355328 →
    Calls P f #[.pointer (some ⟨b, 0, none⟩), .string s] w fun x w' => x = .returned (.tuple #[.int .i64 s.size, .nilIface]) ∧ ∃ v', BAt T e w' b (.pointer (some ⟨b, 0, none⟩)) v' (bs ++ Lib.strCells s) ∧ Kept w w' b v v' ∧ (v = .slice none 0 0 → s.size = 0 → v' = .slice none 0 0)

theorem eff_WriteByte {f T e : Nat} (hW : WbOk P f T e) (bytes : List UInt8) (c : UInt8) (hlen : bytes.length + 1 ≤ 140737488355328) :
    EffCall P G f [.ptr 0 0 0, .d false (.int .u8 c.toNat)] [bldB T 1 bytes.length, bufB e bytes] (.d false .nilif) [bldB T 1 (bytes ++ [c]).length, bufB e (bytes ++ [c])] [1] := by
  intro w F σ vals hG hH hR
  obtain ⟨l0, p, v, hs0, hk0, hB, hn0, hv⟩ := bld_open hH
  obtain ⟨hsz, hval⟩ := hR
  obtain ⟨l⟩ := vals
  match l, hsz, hval with
  | [v0, v1], hsz, hval =>
    have e0 := ptr0_inv hs0 (hval 0 v0 (.ptr 0 0 0) rfl rfl)
    have e1 := (hval 1 v1 (.d false (.int .u8 c.toNat)) rfl rfl).int_inv
    subst e0; subst e1
    refine (hW hB c.toNat (by rw [bCells_len]; exact hlen)).mono ?_
    rintro x w' ⟨rfl, v', hB', hK⟩
    have hB'' : BAt T e w' l0.blk (.pointer (some ⟨l0.blk, 0, none⟩)) v' (bCells (bytes ++ [c])) := by
      have : bCells (bytes ++ [c]) = bCells bytes ++ [.int .u8 c.toNat] := by simp [bCells]
      rw [this]; exact hB'
    obtain ⟨σ', h1, h2, h3⟩ := bld_close hH hs0 hk0 hv hB'' hK (fun h => by simp at h)
    exact ⟨.nilIface, F, σ', rfl, h1, fun _ h => h, fun _ h => .inl h, .d _ _ _ .nilif, h2, h3⟩
  | [], hsz, _ => simp at hsz
  | [_], hsz, _ => simp at hsz
  | _ :: _ :: _ :: _, hsz, _ => simp at hsz

theorem eff_WriteString {f T e : Nat} (hW : WsOk P f T e) (bytes s : List UInt8) (hlen : bytes.length + s.length ≤ 140737488355328) :
    EffCall P G f [.ptr 0 0 0, .d false (.str s)] [bldB T 1 bytes.length, bufB e bytes] (.tup [.d false (.int .i64 s.length), .d false .nilif]) [bldB T 1 (bytes ++ s).length, bufB e (bytes ++ s)] [1] := by
  intro w F σ vals hG hH hR
  obtain ⟨l0, p, v, hs0, hk0, hB, hn0, hv⟩ := bld_open hH
  obtain ⟨hsz, hval⟩ := hR
  obtain ⟨l⟩ := vals
  match l, hsz, hval with
  | [v0, v1], hsz, hval =>
    have e0 := ptr0_inv hs0 (hval 0 v0 (.ptr 0 0 0) rfl rfl)
    obtain ⟨t, e1, e2⟩ := (hval 1 v1 (.d false (.str s)) rfl rfl).str_inv
    subst e0; subst e1; subst e2
    have hst : t.size = t.data.toList.length := rfl
    refine (hW hB t (by rw [bCells_len, hst]; exact hlen)).mono ?_
    rintro x w' ⟨rfl, v', hB', hK, hnil⟩
    have hB'' : BAt T e w' l0.blk (.pointer (some ⟨l0.blk, 0, none⟩)) v' (bCells (bytes ++ t.data.toList)) := by
      have : bCells (bytes ++ t.data.toList) = bCells bytes ++ Lib.strCells t := by simp [bCells, Lib.strCells]
      rw [this]; exact hB'
    obtain ⟨σ', h1, h2, h3⟩ := bld_close hH hs0 hk0 hv hB'' hK (fun h => by
      rw [List.append_eq_nil_iff] at h
      exact hnil (hn0 h.1) (by rw [hst, h.2]; rfl))
    refine ⟨_, F, σ', rfl, h1, fun _ h => h, fun _ h => .inl h, .tup _ _ rfl (fun j u x hu hx => ?_), h2, h3⟩
    match j, hu, hx with
    | 0, hu, hx => simp at hu hx; subst hu; subst hx; rw [hst]; exact .d _ _ _ (.int _ _)
    | 1, hu, hx => simp at hu hx; subst hu; subst hx; exact .d _ _ _ .nilif
    | j + 2, hu, hx => simp at hu
  | [], hsz, _ => simp at hsz
  | [_], hsz, _ => simp at hsz
  | _ :: _ :: _ :: _, hsz, _ => simp at hsz

theorem eff_Len (L : Lays.n170 P ρ) (bytes : List UInt8) :
    EffCall P G (ρ.f 170) [.ptr 0 0 0] [bldB (ρ.t 72) 1 bytes.length, bufB (ρ.t 5) bytes] (.d false (.int .i64 bytes.length)) [bldB (ρ.t 72) 1 bytes.length, bufB (ρ.t 5) bytes] [] := by
  intro w F σ vals hG hH hR
  obtain ⟨l0, p, v, hs0, hk0, hB, hn0, hv⟩ := bld_open hH
  obtain ⟨hsz, hval⟩ := hR
  obtain ⟨l⟩ := vals
  match l, hsz, hval with
  | [v0], hsz, hval =>
    have e0 := ptr0_inv hs0 (hval 0 v0 (.ptr 0 0 0) rfl rfl)
    subst e0
    refine (Any.Builder_Len_f L 0 l0.blk (bCells bytes) w hB.isB).mono ?_
    rintro e w' ⟨rfl, rfl⟩
    exact ⟨_, F, σ, rfl, .refl _ _ _, fun _ h => h, fun _ h => .inl h, by rw [bCells_len]; exact .d _ _ _ (.int _ _), hH, fun _ _ _ h _ => h⟩
  | [], hsz, _ => simp at hsz
  | _ :: _ :: _, hsz, _ => simp at hsz

theorem eff_String (L : Lays.n169 P ρ) (X : Builder.Extra P ρ) (bytes : List UInt8) :
    EffCall P G (ρ.f 169) [.ptr 0 0 0] [bldB (ρ.t 72) 1 bytes.length, bufB (ρ.t 5) bytes] (.d false (.str bytes)) [bldB (ρ.t 72) 1 bytes.length, bufB (ρ.t 5) bytes] [1] := by
  intro w F σ vals hG hH hR
  obtain ⟨l0, p, v, hs0, hk0, hB, hn0, hv⟩ := bld_open hH
  obtain ⟨hsz, hval⟩ := hR
  obtain ⟨l⟩ := vals
  match l, hsz, hval with
  | [v0], hsz, hval =>
    have e0 := ptr0_inv hs0 (hval 0 v0 (.ptr 0 0 0) rfl rfl)
    subst e0
    by_cases h0 : bytes = []
    · subst h0
      have := hn0 rfl
      subst this
      refine (bld_String_nil L X hB).mono ?_
      rintro e w' ⟨rfl, rfl⟩
      have hB' : BAt (ρ.t 72) (ρ.t 5) w.drew l0.blk p (.slice none 0 0) (bCells []) := ⟨hB.hp, hB.hb, hB.own, hB.ne⟩
      have hK : Kept w w.drew l0.blk (.slice none 0 0) (.slice none 0 0) := ⟨rfl, rfl, rfl, Nat.le_refl _, fun _ _ _ _ => rfl, .inl rfl⟩
      obtain ⟨σ', h1, h2, h3⟩ := bld_close hH hs0 hk0 hv hB' hK (fun _ => rfl)
      exact ⟨_, F, σ', rfl, h1, fun _ h => h, fun _ h => .inl h, .d _ _ _ (.str ⟨#[]⟩), h2, h3⟩
    · obtain ⟨g, cap, rfl⟩ : ∃ g cap, v = .slice (some ⟨g, 0, none⟩) bytes.length cap := by
        rcases hB.own.2 with ⟨_, hz⟩ | ⟨g, cap, cur, fz, hv, _⟩
        · rw [bCells_len] at hz; exact absurd (List.eq_nil_of_length_eq_zero hz) h0
        · rw [bCells_len] at hv; exact ⟨g, cap, hv⟩
      refine (bld_String_some L X h0 hB).mono ?_
      rintro e w' ⟨rfl, rfl⟩
      have hlen : (bCells bytes).length = bytes.length := bCells_len _
      have hA : Lib.BuilderAtF (ρ.t 72) (ρ.t 5) 0 l0.blk p (bCells bytes) w.drew := ⟨Nat.zero_le _, _, hB.hb, hB.own, hB.ne⟩
      have c1 : w.drew.cell? ⟨l0.blk, 1, none⟩ = some (.slice (some ⟨g, 0, none⟩) (bCells bytes).length cap) := by
        have : w.drew.heap[l0.blk]? = some (.cells #[p, .slice (some ⟨g, 0, none⟩) bytes.length cap] (ρ.t 72) (0, 0)) := hB.hb
        rw [Lib.cell_of_heap this, hlen]; rfl
      have hne : g ≠ l0.blk := fun h => hB.ne (by simp [Value.ownBlock, h])
      have hF' := hA.froze (g := g) (cap := cap) c1
      rw [hlen] at hF'
      have hbk : (w.drew.freeze ⟨g, 0, none⟩ bytes.length).heap[l0.blk]? = some (.cells #[p, .slice (some ⟨g, 0, none⟩) bytes.length cap] (ρ.t 72) (0, 0)) := by
        rw [freeze_other _ _ _ _ (fun h => hne h.symm)]; exact hB.hb
      have hB' : BAt (ρ.t 72) (ρ.t 5) (w.drew.freeze ⟨g, 0, none⟩ bytes.length) l0.blk p (.slice (some ⟨g, 0, none⟩) bytes.length cap) (bCells bytes) := by
        obtain ⟨_, v2, hb2, hown2, hne2⟩ := hF'
        rw [hbk] at hb2
        have : v2 = .slice (some ⟨g, 0, none⟩) bytes.length cap := by
          injection hb2 with e1
          injection e1 with e2
          have e2' := congrArg Array.toList e2
          simp at e2'
          exact e2'.symm
        subst this
        exact ⟨hB.hp, hbk, hown2, hne2⟩
      have hsz' : (w.drew.freeze ⟨g, 0, none⟩ bytes.length).heap.size = w.heap.size := by
        unfold World.freeze
        split
        · rfl
        · show (w.heap.modify _ _).size = _
          simp only [Array.size_modify]
      have hos : (w.drew.freeze ⟨g, 0, none⟩ bytes.length).os = w.os ∧ (w.drew.freeze ⟨g, 0, none⟩ bytes.length).tape = w.tape ∧ (w.drew.freeze ⟨g, 0, none⟩ bytes.length).output = w.output := by
        unfold World.freeze
        split <;> exact ⟨rfl, rfl, rfl⟩
      have hK : Kept w (w.drew.freeze ⟨g, 0, none⟩ bytes.length) l0.blk (.slice (some ⟨g, 0, none⟩) bytes.length cap) (.slice (some ⟨g, 0, none⟩) bytes.length cap) :=
        ⟨hos.1, hos.2.1, hos.2.2, by rw [hsz']; exact Nat.le_refl _, fun k _ _ hk => by rw [freeze_other _ _ _ _ (fun h => hk (by simp [Value.ownBlock, h]))]; rfl, .inl rfl⟩
      obtain ⟨σ', h1, h2, h3⟩ := bld_close hH hs0 hk0 hv hB' hK (fun h => absurd h h0)
      exact ⟨_, F, σ', rfl, h1, fun _ h => h, fun _ h => .inl h, .d _ _ _ (.str ⟨bytes.toArray⟩), h2, h3⟩
  | [], hsz, _ => simp at hsz
  | _ :: _ :: _, hsz, _ => simp at hsz

end
end Go.Vm
end

section
namespace Go.Vm

structure Sp where
  α : Type
  f : FuncId
  ok : α → Prop
  args : α → List V
  res : α → V × List Blk
  inj : ∀ a b, ok a → ok b → args a = args b → res a = res b

structure Se where
  α : Type
  f : FuncId
  ok : α → Prop
  args : α → List V
  blks : α → List Blk
  res : α → V × List Blk × List Nat
  inj : ∀ a b, ok a → ok b → args a = args b → blks a = blks b → res a = res b

open Classical in
noncomputable def callOf : List Sp → FuncId → List V → Option (V × List Blk)
  | [], _, _ => none
  | s :: L, f, vs => if s.f = f then (if h : ∃ a, s.ok a ∧ s.args a = vs then some (s.res h.choose) else none) else callOf L f vs
open Classical in
noncomputable def effOf : List Se → FuncId → List V → List Blk → Option (V × List Blk × List Nat)
  | [], _, _, _ => none
  | s :: L, f, vs, bs => if s.f = f then (if h : ∃ a, s.ok a ∧ s.args a = vs ∧ s.blks a = bs then some (s.res h.choose) else none) else effOf L f vs bs

noncomputable def cx (G : Nat → Option (List D)) (L : List Sp) (E : List Se) : Cx := ⟨callOf L, effOf E, G, fun _ => false⟩

def Has (L : List Sp) (s : Sp) : Prop := ∀ a, s.ok a → callOf L s.f (s.args a) = some (s.res a)
def HasE (L : List Se) (s : Se) : Prop := ∀ a, s.ok a → effOf L s.f (s.args a) (s.blks a) = some (s.res a)

theorem has_head (s : Sp) (L : List Sp) : Has (s :: L) s := by
  intro a ha
  have h : ∃ b, s.ok b ∧ s.args b = s.args a := ⟨a, ha, rfl⟩
  simp only [callOf, if_true]
  rw [dif_pos h]
  exact congrArg some (s.inj _ _ h.choose_spec.1 ha h.choose_spec.2)
theorem has_tail {s t : Sp} {L : List Sp} (h : Has L s) (hne : t.f ≠ s.f) : Has (t :: L) s := by
  intro a ha
  simp only [callOf]
  rw [if_neg hne]
  exact h a ha
theorem hasE_head (s : Se) (L : List Se) : HasE (s :: L) s := by
  intro a ha
  have h : ∃ b, s.ok b ∧ s.args b = s.args a ∧ s.blks b = s.blks a := ⟨a, ha, rfl, rfl⟩
  simp only [effOf, if_true]
  rw [dif_pos h]
  exact congrArg some (s.inj _ _ h.choose_spec.1 ha h.choose_spec.2.1 h.choose_spec.2.2)

variable {P : Program} {G : Nat → Option (List D)}

def Sp.Holds (P : Program) (G : Nat → Option (List D)) (s : Sp) : Prop := ∀ a, s.ok a → callable P s.f = true ∧ PureCall P G s.f (s.args a) (s.res a).1 (s.res a).2
def Se.Holds (P : Program) (G : Nat → Option (List D)) (s : Se) : Prop := ∀ a, s.ok a → callable P s.f = true ∧ EffCall P G s.f (s.args a) (s.blks a) (s.res a).1 (s.res a).2.1 (s.res a).2.2

theorem callOf_from : ∀ (L : List Sp) (f : FuncId) (vs : List V) (p : V × List Blk), callOf L f vs = some p → ∃ s ∈ L, s.f = f ∧ ∃ a, s.ok a ∧ s.args a = vs ∧ s.res a = p
  | [], f, vs, p, h => by cases h
  | s :: L, f, vs, p, h => by
    simp only [callOf] at h
    split at h
    · rename_i hf
      split at h
      · rename_i hx
        obtain ⟨h1, h2⟩ := hx.choose_spec
        exact ⟨s, by simp, hf, _, h1, h2, Option.some.inj h⟩
      · cases h
    · obtain ⟨t, ht, r⟩ := callOf_from L f vs p h
      exact ⟨t, List.mem_cons_of_mem _ ht, r⟩
theorem effOf_from : ∀ (L : List Se) (f : FuncId) (vs : List V) (bs : List Blk) (p : V × List Blk × List Nat), effOf L f vs bs = some p → ∃ s ∈ L, s.f = f ∧ ∃ a, s.ok a ∧ s.args a = vs ∧ s.blks a = bs ∧ s.res a = p
  | [], f, vs, bs, p, h => by cases h
  | s :: L, f, vs, bs, p, h => by
    simp only [effOf] at h
    split at h
    · rename_i hf
      split at h
      · rename_i hx
        obtain ⟨h1, h2, h3⟩ := hx.choose_spec
        exact ⟨s, by simp, hf, _, h1, h2, h3, Option.some.inj h⟩
      · cases h
    · obtain ⟨t, ht, r⟩ := effOf_from L f vs bs p h
      exact ⟨t, List.mem_cons_of_mem _ ht, r⟩

theorem cx_sound {L : List Sp} {E : List Se} (h1 : ∀ s ∈ L, s.Holds P G) (h2 : ∀ s ∈ E, s.Holds P G) : (cx G L E).Sound P := by
  refine ⟨fun f args r news h => ?_, fun f args r news hl _ => absurd hl (by simp [cx]), fun f args blks r blks' mv h => ?_⟩
  · obtain ⟨s, hs, rfl, a, ha, rfl, hr⟩ := callOf_from L f args (r, news) h
    have := h1 s hs a ha
    rw [hr] at this
    exact this
  · obtain ⟨s, hs, rfl, a, ha, rfl, rfl, hr⟩ := effOf_from E f args blks (r, blks', mv) h
    have := h2 s hs a ha
    rw [hr] at this
    exact this

theorem holds_of {L : List Sp} {E : List Se} (hm : P.follows .mixedOrders = true) (hK : (cx G L E).Sound P) {s : Sp} {g : Fun} (hok : ∀ a, s.ok a → funOk P s.f 0 (s.args a).length g = true)
    (hev : ∀ a, s.ok a → ∃ mv, runFun (cx G L E) g (s.args a) [] = some ((s.res a).1, (s.res a).2, mv)) : s.Holds P G := by
  intro a ha
  obtain ⟨mv, h⟩ := hev a ha
  exact pure_sound hm hK (hok a ha) h
theorem holdsE_of {L : List Sp} {E : List Se} (hm : P.follows .mixedOrders = true) (hK : (cx G L E).Sound P) {s : Se} {g : Fun} (hok : ∀ a, s.ok a → funOk P s.f (s.blks a).length (s.args a).length g = true)
    (hev : ∀ a, s.ok a → runFun (cx G L E) g (s.args a) (s.blks a) = some (s.res a)) : s.Holds P G := by
  intro a ha
  exact eff_sound hm hK (hok a ha) (hev a ha)

structure Known (P : Program) (G : Nat → Option (List D)) (L : List Sp) (E : List Se) : Prop where
  one : ∀ s ∈ L, s.Holds P G
  eff : ∀ s ∈ E, s.Holds P G
theorem Known.sound {L : List Sp} {E : List Se} (h : Known P G L E) : (cx G L E).Sound P := cx_sound h.one h.eff
theorem Known.nil : Known P G [] [] := ⟨fun s h => by simp at h, fun s h => by simp at h⟩
theorem Known.add {L : List Sp} {E : List Se} (h : Known P G L E) (hm : P.follows .mixedOrders = true) {s : Sp} {g : Fun} (hok : ∀ a, s.ok a → funOk P s.f 0 (s.args a).length g = true)
    (hev : ∀ a, s.ok a → ∃ mv, runFun (cx G L E) g (s.args a) [] = some ((s.res a).1, (s.res a).2, mv)) : Known P G (s :: L) E := by
  refine ⟨fun t ht => ?_, h.eff⟩
  rcases List.mem_cons.1 ht with rfl | ht
  · exact holds_of hm h.sound hok hev
  · exact h.one t ht
theorem Known.addE {L : List Sp} {E : List Se} (h : Known P G L E) (hm : P.follows .mixedOrders = true) {s : Se} {g : Fun} (hok : ∀ a, s.ok a → funOk P s.f (s.blks a).length (s.args a).length g = true)
    (hev : ∀ a, s.ok a → runFun (cx G L E) g (s.args a) (s.blks a) = some (s.res a)) : Known P G L (s :: E) := by
  refine ⟨h.one, fun t ht => ?_⟩
  rcases List.mem_cons.1 ht with rfl | ht
  · exact holdsE_of hm h.sound hok hev
  · exact h.eff t ht

def V.ease1 : V → V
  | .fs c k rows => .d c (.sl k rows)
  | v => v
def V.ease : V → V
  | .tup vs => .tup (vs.map V.ease1)
  | v => v.ease1
theorem ease1_sound {w : World} {F : Nat → Prop} {base : Nat} {σ : Nat → Option Loc} {v : Value} {r : V} (h : RepV w F base σ v r) : RepV w F base σ v r.ease1 := by
  cases h with
  | fs c a len k rows h => exact .d _ _ _ h
  | d c v x h => exact .d _ _ _ h
  | ptr b i j l h => exact .ptr b i j l h
  | bsl0 a b i => exact .bsl0 a b i
  | bsl b i len cap l h h1 h2 => exact .bsl b i len cap l h h1 h2
  | agg cs vs h1 h2 h3 => exact .agg cs vs h1 h2 h3
  | tup cs vs h1 h2 => exact .tup cs vs h1 h2
  | fn f cs vs h1 h2 => exact .fn f cs vs h1 h2
  | iface t v x h => exact .iface t v x h
  | map b l h => exact .map b l h
  | junk v => exact .junk v
theorem ease_sound {w : World} {F : Nat → Prop} {base : Nat} {σ : Nat → Option Loc} {v : Value} {r : V} (h : RepV w F base σ v r) : RepV w F base σ v r.ease := by
  cases h with
  | tup cs vs h1 h2 =>
    refine .tup cs _ (by simpa using h1) (fun j v x hv hx => ?_)
    rw [List.getElem?_map, Option.map_eq_some_iff] at hx
    obtain ⟨y, hy, rfl⟩ := hx
    exact ease1_sound (h2 j v y hv hy)
  | fs c a len k rows h => exact .d _ _ _ h
  | d c v x h => exact .d _ _ _ h
  | ptr b i j l h => exact .ptr b i j l h
  | bsl0 a b i => exact .bsl0 a b i
  | bsl b i len cap l h h1 h2 => exact .bsl b i len cap l h h1 h2
  | agg cs vs h1 h2 h3 => exact .agg cs vs h1 h2 h3
  | fn f cs vs h1 h2 => exact .fn f cs vs h1 h2
  | iface t v x h => exact .iface t v x h
  | map b l h => exact .map b l h
  | junk v => exact .junk v
theorem Known.addEase {L : List Sp} {E : List Se} (h : Known P G L E) (hm : P.follows .mixedOrders = true) {s : Sp} {g : Fun} (hok : ∀ a, s.ok a → funOk P s.f 0 (s.args a).length g = true)
    (hev : ∀ a, s.ok a → ∃ r mv, runFun (cx G L E) g (s.args a) [] = some (r, (s.res a).2, mv) ∧ r.ease = (s.res a).1) : Known P G (s :: L) E := by
  refine ⟨fun t ht => ?_, h.eff⟩
  rcases List.mem_cons.1 ht with rfl | ht
  · intro a ha
    obtain ⟨r, mv, h1, h2⟩ := hev a ha
    obtain ⟨q1, q2⟩ := pure_sound hm h.sound (hok a ha) h1
    refine ⟨q1, fun w F vals hF hG hR => (q2 w F vals hF hG hR).mono ?_⟩
    rintro e w' ⟨v, F', σ', he, hb, hF', hv, hH⟩
    exact ⟨v, F', σ', he, hb, hF', by rw [← h2]; exact ease_sound hv, hH⟩
  · exact h.one t ht
theorem Known.put {L : List Sp} {E : List Se} (h : Known P G L E) {s : Sp} (hs : s.Holds P G) : Known P G (s :: L) E := by
  refine ⟨fun t ht => ?_, h.eff⟩
  rcases List.mem_cons.1 ht with rfl | ht
  · exact hs
  · exact h.one t ht
theorem Known.putE {L : List Sp} {E : List Se} (h : Known P G L E) {s : Se} (hs : s.Holds P G) : Known P G L (s :: E) := by
  refine ⟨h.one, fun t ht => ?_⟩
  rcases List.mem_cons.1 ht with rfl | ht
  · exact hs
  · exact h.eff t ht
theorem hasE_tail {s t : Se} {L : List Se} (h : HasE L s) (hne : t.f ≠ s.f) : HasE (t :: L) s := by
  intro a ha
  simp only [effOf]
  rw [if_neg hne]
  exact h a ha

end Go.Vm
end

section
namespace Go.Vm
/- 'sloth/lex.class' -/
def f27 : Fun := ⟨
 (.seq
  (.reg [⟨[], [], [(.int .u8 0)], none, [0, 1], 1, [], [], []⟩])
  (.seq
   (.seq
    (.reg [⟨[], [(18, (.or (.or (.bin .lss (.sl 1) (.int .i64 0)) (.bin .geq (.sl 1) (.len true (.sl 0)))) (.bin .geq (.ix (.sl 0) (.sl 1)) (.int .u8 128))))], [], none, [0, 1], 14, [], [], []⟩])
    (.cond (.sl 18)
     (.seq
      (.reg [⟨[], [(4, (.int .u8 0))], [], none, [], 1, [], [], []⟩])
      (.seq
       (.tidy 0 [4])
       .ret))
     .skip))
   (.seq
    (.reg [⟨[], [(4, (.ld 1 false (.aa 128 1 (.glob 0) (.ix (.sl 0) (.sl 1)))))], [], none, [], 6, [], [], []⟩])
    (.seq
     (.tidy 0 [4])
     .ret)))),
 [(.sl 4)], false⟩
theorem f27_ok : funOk Go.Proofs.Tryd.prog 27 0 2 f27 = true := by kernel_rfl

/- 'strings.HasPrefix' -/
def f28 : Fun := ⟨
 (.seq
  (.reg [⟨[], [], [(.bool false)], none, [0, 1], 1, [], [], []⟩])
  (.seq
   (.reg [⟨[], [(4, (.call 40 (.cons (.sl 0) (.cons (.sl 1) .nil))))], [], none, [], 4, [], [], []⟩])
   (.seq
    (.tidy 0 [4])
    .ret))),
 [(.sl 4)], false⟩
theorem f28_ok : funOk Go.Proofs.Tryd.prog 28 0 2 f28 = true := by kernel_rfl

/- 'sloth/lex.run' -/
def f30_L0 : C :=
 (.seq
  (.seq
   (.reg [⟨[], [(11, (.bin .eql (.call 27 (.cons (.sl 0) (.cons (.sl 1) .nil))) (.sl 2)))], [], none, [0, 1, 2], 5, [], [], []⟩])
   (.cond (.sl 11)
    .skip
    (.seq
     (.tidy 0 [1])
     (.exit 0))))
  (.block 1
   (.reg [⟨[], [(1, (.bin .add (.sl 1) (.int .i64 1)))], [], none, [0, 2], 3, [], [], []⟩])))
def f30 : Fun := ⟨
 (.seq
  (.reg [⟨[], [], [(.int .i64 0)], none, [0, 1, 2], 1, [], [], []⟩])
  (.seq
   (.block 0
    (.seq (.tidy 0 [0, 1, 2]) (.loop (.seq (.tidy 0 [0, 1, 2]) f30_L0))))
   (.seq
    (.reg [⟨[], [(6, (.sl 1))], [], none, [], 2, [], [], []⟩])
    (.seq
     (.tidy 0 [6])
     .ret)))),
 [(.sl 6)], false⟩
theorem f30_ok : funOk Go.Proofs.Tryd.prog 30 0 3 f30 = true := by kernel_rfl

/- 'internal/stringslite.HasPrefix' -/
def f40 : Fun := ⟨
 (.seq
  (.reg [⟨[], [], [(.bool false)], none, [0, 1], 1, [], [], []⟩])
  (.seq
   (.reg [⟨[], [(4, (.and (.bin .geq (.len true (.sl 0)) (.len true (.sl 1))) (.bin .eql (.cut true false true false 0 (.sl 0) .nil (.len true (.sl 1)) .nil) (.sl 1))))], [], none, [], 14, [], [], []⟩])
   (.seq
    (.tidy 0 [4])
    .ret))),
 [(.sl 4)], false⟩
theorem f40_ok : funOk Go.Proofs.Tryd.prog 40 0 2 f40 = true := by kernel_rfl

/- 'sloth/lex.name' -/
def f42_L0 : C :=
 (.seq
  (.seq
   (.reg [⟨[], [(7, (.call 48 (.cons (.sl 0) (.cons (.sl 1) .nil))))], [], none, [0, 1], 3, [], [], []⟩])
   (.cond (.sl 7)
    .skip
    (.seq
     (.tidy 0 [1])
     (.exit 0))))
  (.block 1
   (.reg [⟨[], [(1, (.bin .add (.sl 1) (.int .i64 1)))], [], none, [0], 3, [], [], []⟩])))
def f42 : Fun := ⟨
 (.seq
  (.reg [⟨[], [], [(.int .i64 0)], none, [0, 1], 1, [], [], []⟩])
  (.seq
   (.block 0
    (.seq (.tidy 0 [0, 1]) (.loop (.seq (.tidy 0 [0, 1]) f42_L0))))
   (.seq
    (.reg [⟨[], [(4, (.sl 1))], [], none, [], 2, [], [], []⟩])
    (.seq
     (.tidy 0 [4])
     .ret)))),
 [(.sl 4)], false⟩
theorem f42_ok : funOk Go.Proofs.Tryd.prog 42 0 2 f42 = true := by kernel_rfl

/- 'sloth/lex.inName' -/
def f48 : Fun := ⟨
 (.seq
  (.reg [⟨[], [], [(.bool false)], none, [0, 1], 1, [], [], []⟩])
  (.seq
   (.reg [⟨[], [(5, (.call 27 (.cons (.sl 0) (.cons (.sl 1) .nil))))], [], none, [], 4, [], [], []⟩])
   (.seq
    (.reg [⟨[], [(4, (.and (.bin .geq (.sl 5) (.int .u8 1)) (.bin .leq (.sl 5) (.int .u8 4))))], [], none, [], 7, [], [], []⟩])
    (.seq
     (.tidy 0 [4])
     .ret)))),
 [(.sl 4)], false⟩
theorem f48_ok : funOk Go.Proofs.Tryd.prog 48 0 2 f48 = true := by kernel_rfl


abbrev BS := List UInt8
def eN8 (n : Nat) : List D := [.int .u8 n]
def clTab : List Nat := [
  0, 0, 0, 0, 0, 0, 0, 0, 0, 7, 7, 0, 0, 7, 0, 0,
  0, 0, 0, 0, 0, 0, 0, 0, 0, 0, 0, 0, 0, 0, 0, 0,
  7, 5, 0, 5, 5, 5, 5, 4, 6, 6, 5, 5, 6, 5, 5, 5,
  3, 3, 3, 3, 3, 3, 3, 3, 3, 3, 5, 6, 5, 5, 5, 5,
  5, 2, 2, 2, 2, 2, 2, 2, 2, 2, 2, 2, 2, 2, 2, 2,
  2, 2, 2, 2, 2, 2, 2, 2, 2, 2, 2, 6, 6, 6, 5, 4,
  6, 1, 1, 1, 1, 1, 1, 1, 1, 1, 1, 1, 1, 1, 1, 1,
  1, 1, 1, 1, 1, 1, 1, 1, 1, 1, 1, 6, 5, 6, 5, 0]
def clB (c : UInt8) : Nat := clTab.getD c.toNat 0
def cls : BS → Nat
  | [] => 0
  | c :: _ => clB c
def inNm (l : BS) : Bool := decide (1 ≤ cls l) && decide (cls l ≤ 4)
def runL (k : Nat) : BS → Nat
  | [] => 0
  | c :: r => if clB c = k then runL k r + 1 else 0
def nameL : BS → Nat
  | [] => 0
  | c :: r => if inNm (c :: r) then nameL r + 1 else 0
def pre (p s : BS) : Bool := decide (p.length ≤ s.length) && decide (s.take p.length = p)

theorem cast1 (i : Nat) : (i : Int) + 1 = ((i + 1 : Nat) : Int) := rfl
theorem cast2 (i : Nat) : (i : Int) + 2 = ((i + 2 : Nat) : Int) := rfl
theorem cast4 (i : Nat) : (i : Int) + 4 = ((i + 4 : Nat) : Int) := rfl

def GlobOk (K : Cx) : Prop := K.glob 0 = some (clTab.map fun n => .int .u8 n)
def K27 (K : Cx) : Prop := ∀ (s : BS) (i : Nat), i ≤ s.length → K.call 27 [.d false (.str s), .d false (.int .i64 i)] = some (.d false (.int .u8 (cls (s.drop i))), [])
def K30 (K : Cx) : Prop := ∀ (s : BS) (i k : Nat), i ≤ s.length → s.length ≤ 2000000 → k ≠ 0 → K.call 30 [.d false (.str s), .d false (.int .i64 i), .d false (.int .u8 k)] = some (.d false (.int .i64 ((i + runL k (s.drop i) : Nat))), [])
def K42 (K : Cx) : Prop := ∀ (s : BS) (i : Nat), i ≤ s.length → s.length ≤ 2000000 → K.call 42 [.d false (.str s), .d false (.int .i64 i)] = some (.d false (.int .i64 ((i + nameL (s.drop i) : Nat))), [])
def K48 (K : Cx) : Prop := ∀ (s : BS) (i : Nat), i ≤ s.length → K.call 48 [.d false (.str s), .d false (.int .i64 i)] = some (.d false (.bool (inNm (s.drop i))), [])
def K28 (K : Cx) : Prop := ∀ (p s : BS), s.length ≤ 2000000 → p.length ≤ 2000000 → K.call 28 [.d false (.str s), .d false (.str p)] = some (.d false (.bool (pre p s)), [])
def K40 (K : Cx) : Prop := ∀ (p s : BS), s.length ≤ 2000000 → p.length ≤ 2000000 → K.call 40 [.d false (.str s), .d false (.str p)] = some (.d false (.bool (pre p s)), [])

theorem e_glob (K : Cx) (s g cs) (h : K.glob g = some cs) (hh : isHandle cs = false := by rfl) : ev K s (.glob g) = some (.d false (.ptr cs)) := by
  simp only [ev, h, hh]
  rfl
theorem evAa_d (len : Nat) (c c' kd cells) (n : Int) (h0 : 0 ≤ n) (h : n < len) : evAa len 1 (.d c (.ptr cells)) (.d c' (.int kd n)) = some (.d c (.ptr (cells.drop n.toNat))) := by
  simp only [evAa]
  rw [if_pos ⟨h0, h⟩, Nat.mul_one]
theorem ld_cl (n : Nat) (h : n < 128) : part false 1 (List.map (mkd false) ((clTab.map fun n => D.int .u8 (n : Nat)).drop n)) = some (.d false (.int .u8 (clTab.getD n 0 : Nat))) := by
  have hl : n < clTab.length := h
  rw [← List.map_drop, List.drop_eq_getElem_cons hl]
  simp [part, mkd, D.flat, hl]

theorem ev_class (K : Cx) (hg : GlobOk K) (s : BS) (i : Nat) (hi : i ≤ s.length) : runFun K f27 [.d false (.str s), .d false (.int .i64 i)] [] = some (.d false (.int .u8 (cls (s.drop i))), [], []) := by
  by_cases h : i < s.length
  · have hd : s.drop i = s[i] :: s.drop (i + 1) := List.drop_eq_getElem_cons h
    have hn : nth s (i : Int) = s[i] := by simp [nth, h]
    rw [hd]
    simp only [cls, clB]
    generalize s[i] = c at hn
    clear hd
    by_cases h2 : c.toNat < 128
    · have hl := ld_cl c.toNat h2
      simp (disch := first | decide | omega | (simp only [LN]; omega) | (simp only [LN]; done) | fail) only [SV, f27, Nat.zero_add, Nat.reduceAdd, Bool.and_self, beq_self_eq_true, Nat.reduceBEq, evBin, intBin, decide_false, if_true, evLen, Bool.or_self, hn, e_aa, e_glob K _ 0 _ hg, evAa, and_self, Int.toNat_natCast, Nat.mul_one, hl, V.refs, decide_true, oneOr, Bool.false_eq_true, if_false, finV, finA, finC]
    · have hz : clTab.getD c.toNat 0 = 0 := by
        rw [List.getD_eq_getElem?_getD, List.getElem?_eq_none (by simp [clTab]; omega)]; rfl
      rw [hz]
      simp (disch := first | decide | omega | (simp only [LN]; omega) | (simp only [LN]; done) | fail) only [SV, f27, Nat.zero_add, Nat.reduceAdd, Bool.and_self, beq_self_eq_true, Nat.reduceBEq, evBin, intBin, decide_false, if_true, evLen, Bool.or_self, hn, decide_true, Bool.or_true, V.refs, oneOr, Bool.false_eq_true, if_false, finV, finA, finC, Int.natCast_zero]
  · have : i = s.length := by omega
    subst this
    rw [List.drop_length]
    simp only [cls]
    simp (disch := first | decide | omega | (simp only [LN]; omega) | (simp only [LN]; done) | fail) only [SV, f27, Nat.zero_add, Nat.reduceAdd, Bool.and_self, beq_self_eq_true, Nat.reduceBEq, evBin, intBin, decide_false, if_true, evLen, decide_true, Bool.or_true, orV_true, V.refs, oneOr, Bool.false_eq_true, if_false, finV, finA, finC, Int.natCast_zero]

theorem run_loop (K : Cx) (h27 : K27 K) (s : BS) (kd : Nat) (hs : s.length ≤ 2000000) (hk : kd ≠ 0) : ∀ (k i : Nat), i + k = s.length →
    lp K 0 [0, 1, 2] f30_L0 ⟨[(0, .d false (.str s)), (1, .d false (.int .i64 i)), (2, .d false (.int .u8 kd))], [], 0, []⟩ = some (.exit 0, ⟨[(1, .d false (.int .i64 ((i + runL kd (s.drop i) : Nat))))], [], 0, []⟩) := by
  intro k
  induction k with
  | zero =>
    intro i hi
    have h := h27 s i (by omega)
    have hd : s.drop i = [] := by rw [List.drop_eq_nil_iff]; omega
    rw [hd] at h ⊢
    simp only [cls, runL] at h ⊢
    have hk' : ¬ ((0 : Int) = (kd : Int)) := by omega
    rw [lp_un f30_L0.eq_1]
    simp (disch := first | decide | omega | (simp only [LN]; omega) | (simp only [LN]; done) | fail) only [SV, beq_self_eq_true, Nat.reduceBEq, V.own, V.own1, Bool.or_self, V.new, V.new1, D.flat, Bool.or_true, Bool.and_self, V.flatV, V.flat1, Bool.not_true, Bool.and_false, Bool.false_and, view, viewD, h, Int.natCast_zero, Bool.false_eq_true, if_false, evBin, intBin, if_true, V.refs, decide_true, Nat.add_zero]
  | succ k ih =>
    intro i hi
    have h := h27 s i (by omega)
    have ih := ih (i + 1) (by omega)
    have hlt : i < s.length := by omega
    rw [List.drop_eq_getElem_cons hlt] at h ⊢
    generalize s[i] = c at h ⊢
    simp only [cls, runL] at h ⊢
    rw [lp_un f30_L0.eq_1]
    by_cases g : clB c = kd
    · rw [if_pos g]
      have e : i + (runL kd (s.drop (i + 1)) + 1) = i + 1 + runL kd (s.drop (i + 1)) := by omega
      rw [e]
      rw [g] at h
      simp (disch := first | decide | omega | (simp only [LN]; omega) | (simp only [LN]; done) | fail) only [SV, beq_self_eq_true, Nat.reduceBEq, V.own, V.own1, Bool.or_self, V.new, V.new1, D.flat, Bool.or_true, Bool.and_self, V.flatV, V.flat1, Bool.not_true, Bool.and_false, Bool.false_and, view, viewD, h, Bool.false_eq_true, if_false, evBin, intBin, if_true, cast1, V.refs, decide_true]
      exact ih
    · have g' : ¬ ((clB c : Int) = (kd : Int)) := by omega
      rw [if_neg g]
      simp (disch := first | decide | omega | (simp only [LN]; omega) | (simp only [LN]; done) | fail) only [SV, beq_self_eq_true, Nat.reduceBEq, V.own, V.own1, Bool.or_self, V.new, V.new1, D.flat, Bool.or_true, Bool.and_self, V.flatV, V.flat1, Bool.not_true, Bool.and_false, Bool.false_and, view, viewD, h, Bool.false_eq_true, if_false, evBin, intBin, if_true, V.refs, decide_true, Nat.add_zero]

theorem ev_run (K : Cx) (h27 : K27 K) (s : BS) (i kd : Nat) (hi : i ≤ s.length) (hs : s.length ≤ 2000000) (hk : kd ≠ 0) : runFun K f30 [.d false (.str s), .d false (.int .i64 i), .d false (.int .u8 kd)] [] = some (.d false (.int .i64 ((i + runL kd (s.drop i) : Nat))), [], []) := by
  have h := run_loop K h27 s kd hs hk (s.length - i) i (by omega)
  simp (disch := first | decide | omega | (simp only [LN]; omega) | (simp only [LN]; done) | fail) only [SV, f30, Nat.zero_add, Nat.reduceAdd, Bool.and_self, beq_self_eq_true, Nat.reduceBEq, V.refs, decide_true, if_true, h, oneOr, Bool.false_eq_true, if_false, finV, finA, finC]

theorem name_loop (K : Cx) (h48 : K48 K) (s : BS) (hs : s.length ≤ 2000000) : ∀ (k i : Nat), i + k = s.length →
    lp K 0 [0, 1] f42_L0 ⟨[(0, .d false (.str s)), (1, .d false (.int .i64 i))], [], 0, []⟩ = some (.exit 0, ⟨[(1, .d false (.int .i64 ((i + nameL (s.drop i) : Nat))))], [], 0, []⟩) := by
  intro k
  induction k with
  | zero =>
    intro i hi
    have h := h48 s i (by omega)
    have hd : s.drop i = [] := by rw [List.drop_eq_nil_iff]; omega
    have hn : inNm [] = false := rfl
    rw [hd] at h ⊢
    rw [hn] at h
    simp only [nameL] at h ⊢
    rw [lp_un f42_L0.eq_1]
    simp (disch := first | decide | omega | (simp only [LN]; omega) | (simp only [LN]; done) | fail) only [SV, beq_self_eq_true, Nat.reduceBEq, V.own, V.own1, Bool.or_self, V.new, V.new1, D.flat, Bool.or_true, Bool.and_self, V.flatV, V.flat1, Bool.not_true, Bool.and_false, Bool.false_and, view, viewD, h, Bool.false_eq_true, if_false, V.refs, decide_true, if_true, Nat.add_zero]
  | succ k ih =>
    intro i hi
    have h := h48 s i (by omega)
    have ih := ih (i + 1) (by omega)
    have hlt : i < s.length := by omega
    rw [List.drop_eq_getElem_cons hlt] at h ⊢
    generalize s[i] = c at h ⊢
    simp only [nameL] at h ⊢
    rw [lp_un f42_L0.eq_1]
    by_cases g : inNm (c :: s.drop (i + 1)) = true
    · rw [if_pos g]
      have e : i + (nameL (s.drop (i + 1)) + 1) = i + 1 + nameL (s.drop (i + 1)) := by omega
      rw [e]
      rw [g] at h
      simp (disch := first | decide | omega | (simp only [LN]; omega) | (simp only [LN]; done) | fail) only [SV, beq_self_eq_true, Nat.reduceBEq, V.own, V.own1, Bool.or_self, V.new, V.new1, D.flat, Bool.or_true, Bool.and_self, V.flatV, V.flat1, Bool.not_true, Bool.and_false, Bool.false_and, view, viewD, h, Bool.false_eq_true, if_false, evBin, intBin, cast1, if_true, V.refs, decide_true]
      exact ih
    · rw [if_neg g]
      rw [Bool.not_eq_true] at g
      rw [g] at h
      simp (disch := first | decide | omega | (simp only [LN]; omega) | (simp only [LN]; done) | fail) only [SV, beq_self_eq_true, Nat.reduceBEq, V.own, V.own1, Bool.or_self, V.new, V.new1, D.flat, Bool.or_true, Bool.and_self, V.flatV, V.flat1, Bool.not_true, Bool.and_false, Bool.false_and, view, viewD, h, Bool.false_eq_true, if_false, V.refs, decide_true, if_true, Nat.add_zero]

theorem ev_name (K : Cx) (h48 : K48 K) (s : BS) (i : Nat) (hi : i ≤ s.length) (hs : s.length ≤ 2000000) : runFun K f42 [.d false (.str s), .d false (.int .i64 i)] [] = some (.d false (.int .i64 ((i + nameL (s.drop i) : Nat))), [], []) := by
  have h := name_loop K h48 s hs (s.length - i) i (by omega)
  simp (disch := first | decide | omega | (simp only [LN]; omega) | (simp only [LN]; done) | fail) only [SV, f42, Nat.zero_add, Nat.reduceAdd, Bool.and_self, beq_self_eq_true, Nat.reduceBEq, V.refs, decide_true, if_true, h, oneOr, Bool.false_eq_true, if_false, finV, finA, finC]

theorem ev_inName (K : Cx) (h27 : K27 K) (s : BS) (i : Nat) (hi : i ≤ s.length) : runFun K f48 [.d false (.str s), .d false (.int .i64 i)] [] = some (.d false (.bool (inNm (s.drop i))), [], []) := by
  have h := h27 s i hi
  unfold inNm
  generalize cls (s.drop i) = n at h ⊢
  by_cases g : 1 ≤ n
  · by_cases g2 : n ≤ 4
    · have a : (1 : Int) ≤ n := by omega
      have b : (n : Int) ≤ 4 := by omega
      simp (disch := first | decide | omega | (simp only [LN]; omega) | (simp only [LN]; done) | fail) only [SV, f48, Nat.zero_add, Nat.reduceAdd, Bool.and_self, beq_self_eq_true, Nat.reduceBEq, V.own, V.own1, Bool.or_self, V.new, V.new1, D.flat, Bool.or_true, V.flatV, V.flat1, Bool.not_true, Bool.and_false, Bool.false_and, view, viewD, h, Bool.false_eq_true, if_false, evBin, intBin, decide_true, if_true, V.refs, oneOr, finV, finA, finC, g, g2]
    · simp (disch := first | decide | omega | (simp only [LN]; omega) | (simp only [LN]; done) | fail) only [SV, f48, Nat.zero_add, Nat.reduceAdd, Bool.and_self, beq_self_eq_true, Nat.reduceBEq, V.own, V.own1, Bool.or_self, V.new, V.new1, D.flat, Bool.or_true, V.flatV, V.flat1, Bool.not_true, Bool.and_false, Bool.false_and, view, viewD, h, Bool.false_eq_true, if_false, evBin, intBin, decide_true, if_true, decide_false, V.refs, oneOr, finV, finA, finC, g, g2]
  · simp (disch := first | decide | omega | (simp only [LN]; omega) | (simp only [LN]; done) | fail) only [SV, f48, Nat.zero_add, Nat.reduceAdd, Bool.and_self, beq_self_eq_true, Nat.reduceBEq, V.own, V.own1, Bool.or_self, V.new, V.new1, D.flat, Bool.or_true, V.flatV, V.flat1, Bool.not_true, Bool.and_false, Bool.false_and, view, viewD, h, Bool.false_eq_true, if_false, evBin, intBin, decide_false, if_true, decide_true, Bool.and_true, V.refs, oneOr, finV, finA, finC, g]

theorem ev_pre (K : Cx) (p s : BS) (hs : s.length ≤ 2000000) (hp : p.length ≤ 2000000) : runFun K f40 [.d false (.str s), .d false (.str p)] [] = some (.d false (.bool (pre p s)), [], []) := by
  unfold pre
  by_cases g : p.length ≤ s.length
  · have hc : evCutS [] true false true false 0 (V.d false (.str s)) (.tup []) (.d false (.int .i64 (p.length : Int))) (.tup []) = some (.d false (.str (s.take p.length))) := by
      simp [evCutS, V.isStr, evCut, bound, g]
    by_cases g2 : s.take p.length = p
    · simp (disch := first | decide | omega | (simp only [LN]; omega) | (simp only [LN]; done) | fail) only [SV, f40, Nat.zero_add, Nat.reduceAdd, Bool.and_self, beq_self_eq_true, Nat.reduceBEq, evLen, evBin, intBin, decide_true, if_true, e_cut, o4_some, hc, g2, strBin, V.refs, oneOr, Bool.false_eq_true, if_false, finV, finA, finC, g]
    · simp (disch := first | decide | omega | (simp only [LN]; omega) | (simp only [LN]; done) | fail) only [SV, f40, Nat.zero_add, Nat.reduceAdd, Bool.and_self, beq_self_eq_true, Nat.reduceBEq, evLen, evBin, intBin, decide_true, if_true, e_cut, o4_some, hc, strBin, g2, decide_false, Bool.and_false, V.refs, oneOr, Bool.false_eq_true, if_false, finV, finA, finC, g]
  · simp (disch := first | decide | omega | (simp only [LN]; omega) | (simp only [LN]; done) | fail) only [SV, f40, Nat.zero_add, Nat.reduceAdd, Bool.and_self, beq_self_eq_true, Nat.reduceBEq, evLen, evBin, intBin, decide_false, if_true, e_cut, o4_some, V.refs, decide_true, oneOr, Bool.false_eq_true, if_false, finV, finA, finC, g, Bool.false_and]
theorem ev_hasPrefix (K : Cx) (h40 : K40 K) (p s : BS) (hs : s.length ≤ 2000000) (hp : p.length ≤ 2000000) : runFun K f28 [.d false (.str s), .d false (.str p)] [] = some (.d false (.bool (pre p s)), [], []) := by
  have h := h40 p s hs hp
  simp (disch := first | decide | omega | (simp only [LN]; omega) | (simp only [LN]; done) | fail) only [SV, f28, Nat.zero_add, Nat.reduceAdd, Bool.and_self, beq_self_eq_true, Nat.reduceBEq, V.own, V.own1, Bool.or_self, V.new, V.new1, D.flat, Bool.or_true, V.flatV, V.flat1, Bool.not_true, Bool.and_false, Bool.false_and, view, viewD, h, Bool.false_eq_true, if_false, V.refs, decide_true, if_true, oneOr, finV, finA, finC]
end Go.Vm
end

section
namespace Go.Vm
set_option maxRecDepth 20000
/- 'sloth/lex.comment' -/
def f29_L0 : C :=
 (.seq
  (.seq
   (.reg [⟨[], [(10, (.bin .lss (.bin .add (.sl 1) (.int .i64 1)) (.len true (.sl 0))))], [], none, [0, 1, 5], 5, [], [], []⟩])
   (.cond (.sl 10)
    .skip
    (.seq
     (.tidy 0 [])
     (.exit 0))))
  (.block 1
   (.seq
    (.reg [⟨[], [(15, (.cut true true true false 0 (.sl 0) (.sl 1) (.bin .add (.sl 1) (.int .i64 2)) .nil))], [], none, [0, 1, 5], 5, [], [], []⟩])
    (.block 2
     (.seq
      (.reg [⟨[], [(18, (.bin .eql (.sl 15) (.str [123, 45])))], [], none, [0, 1, 5, 15], 2, [], [], []⟩])
      (.cond (.sl 18)
       (.seq
        (.reg [⟨[], [(5, (.bin .add (.sl 5) (.int .i64 1)))], [], none, [0, 1], 3, [], [], []⟩])
        (.reg [⟨[], [(1, (.bin .add (.sl 1) (.int .i64 2)))], [], none, [0, 5], 3, [], [], []⟩]))
       (.seq
        (.reg [⟨[], [(24, (.bin .eql (.sl 15) (.str [45, 125])))], [], none, [0, 1, 5], 2, [], [], []⟩])
        (.cond (.sl 24)
         (.seq
          (.reg [⟨[], [(5, (.bin .sub (.sl 5) (.int .i64 1)))], [], none, [0, 1], 3, [], [], []⟩])
          (.seq
           (.reg [⟨[], [(1, (.bin .add (.sl 1) (.int .i64 2)))], [], none, [0, 5], 3, [], [], []⟩])
           (.seq
            (.reg [⟨[], [(31, (.bin .eql (.sl 5) (.int .i64 0)))], [], none, [0, 1, 5], 2, [], [], []⟩])
            (.cond (.sl 31)
             (.seq
              (.reg [⟨[], [(4, (.sl 1))], [], none, [], 2, [], [], []⟩])
              (.seq
               (.tidy 0 [4])
               .ret))
             .skip))))
         (.reg [⟨[], [(1, (.bin .add (.sl 1) (.int .i64 1)))], [], none, [0, 5], 3, [], [], []⟩])))))))))
def f29 : Fun := ⟨
 (.seq
  (.reg [⟨[], [], [(.int .i64 0)], none, [0, 1], 1, [], [], []⟩])
  (.seq
   (.reg [⟨[], [(5, (.int .i64 0))], [], none, [0, 1], 1, [], [], []⟩])
   (.seq
    (.block 0
     (.seq (.tidy 0 [0, 1, 5]) (.loop (.seq (.tidy 0 [0, 1, 5]) f29_L0))))
    (.seq
     (.reg [⟨[], [(4, (.int .i64 (-1)))], [], none, [], 1, [], [], []⟩])
     (.seq
      (.tidy 0 [4])
      .ret))))),
 [(.sl 4)], false⟩
theorem f29_ok : funOk Go.Proofs.Tryd.prog 29 0 2 f29 = true := by kernel_rfl

/- 'sloth/lex.dashes' -/
def f31 : Fun := ⟨
 (.seq
  (.reg [⟨[], [], [(.bool false)], none, [0], 1, [], [], []⟩])
  (.seq
   (.reg [⟨[], [(2, (.and (.bin .geq (.len true (.sl 0)) (.int .i64 2)) (.bin .eql (.call 41 (.cons (.sl 0) (.cons (.str [45]) .nil))) (.str []))))], [], none, [], 9, [], [], []⟩])
   (.seq
    (.tidy 0 [2])
    .ret))),
 [(.sl 2)], false⟩
theorem f31_ok : funOk Go.Proofs.Tryd.prog 31 0 1 f31 = true := by kernel_rfl

/- 'strings.Trim' -/
def f41 : Fun := ⟨
 (.seq
  (.reg [⟨[], [], [(.str [])], none, [0, 1], 1, [], [], []⟩])
  (.seq
   (.seq
    (.reg [⟨[], [(12, (.or (.bin .eql (.sl 0) (.str [])) (.bin .eql (.sl 1) (.str []))))], [], none, [0, 1], 6, [], [], []⟩])
    (.cond (.sl 12)
     (.seq
      (.reg [⟨[], [(4, (.sl 0))], [], none, [], 2, [], [], []⟩])
      (.seq
       (.tidy 0 [4])
       .ret))
     .skip))
   (.seq
    (.seq
     (.reg [⟨[], [(21, (.and (.bin .eql (.len true (.sl 1)) (.int .i64 1)) (.bin .lss (.ix (.sl 1) (.int .i64 0)) (.int .u8 128))))], [], none, [0, 1], 8, [], [], []⟩])
     (.cond (.sl 21)
      (.seq
       (.reg [⟨[], [(4, (.call 61 (.cons (.call 62 (.cons (.sl 0) (.cons (.ix (.sl 1) (.int .i64 0)) .nil))) (.cons (.ix (.sl 1) (.int .i64 0)) .nil))))], [], none, [], 8, [[], [], [1], [1, 2, 0], [], [4], [4, 5, 0, 2, 1, 3], [3, 1, 2, 0, 5, 4, 6]], [], []⟩])
       (.seq
        (.tidy 0 [4])
        .ret))
      .skip))
    (.seq
     (.seq
      (.reg [⟨[(5, .box (.agg (.cons (.bool false) (.cons (.bool false) (.cons (.bool false) (.cons (.bool false) (.cons (.bool false) (.cons (.bool false) (.cons (.bool false) (.cons (.bool false) (.cons (.bool false) (.cons (.bool false) (.cons (.bool false) (.cons (.bool false) (.cons (.bool false) (.cons (.bool false) (.cons (.bool false) (.cons (.bool false) (.cons (.bool false) (.cons (.bool false) (.cons (.bool false) (.cons (.bool false) (.cons (.bool false) (.cons (.bool false) (.cons (.bool false) (.cons (.bool false) (.cons (.bool false) (.cons (.bool false) (.cons (.bool false) (.cons (.bool false) (.cons (.bool false) (.cons (.bool false) (.cons (.bool false) (.cons (.bool false) (.cons (.bool false) (.cons (.bool false) (.cons (.bool false) (.cons (.bool false) (.cons (.bool false) (.cons (.bool false) (.cons (.bool false) (.cons (.bool false) (.cons (.bool false) (.cons (.bool false) (.cons (.bool false) (.cons (.bool false) (.cons (.bool false) (.cons (.bool false) (.cons (.bool false) (.cons (.bool false) (.cons (.bool false) (.cons (.bool false) (.cons (.bool false) (.cons (.bool false) (.cons (.bool false) (.cons (.bool false) (.cons (.bool false) (.cons (.bool false) (.cons (.bool false) (.cons (.bool false) (.cons (.bool false) (.cons (.bool false) (.cons (.bool false) (.cons (.bool false) (.cons (.bool false) (.cons (.bool false) (.cons (.bool false) (.cons (.bool false) (.cons (.bool false) (.cons (.bool false) (.cons (.bool false) (.cons (.bool false) (.cons (.bool false) (.cons (.bool false) (.cons (.bool false) (.cons (.bool false) (.cons (.bool false) (.cons (.bool false) (.cons (.bool false) (.cons (.bool false) (.cons (.bool false) (.cons (.bool false) (.cons (.bool false) (.cons (.bool false) (.cons (.bool false) (.cons (.bool false) (.cons (.bool false) (.cons (.bool false) (.cons (.bool false) (.cons (.bool false) (.cons (.bool false) (.cons (.bool false) (.cons (.bool false) (.cons (.bool false) (.cons (.bool false) (.cons (.bool false) (.cons (.bool false) (.cons (.bool false) (.cons (.bool false) (.cons (.bool false) (.cons (.bool false) (.cons (.bool false) (.cons (.bool false) (.cons (.bool false) (.cons (.bool false) (.cons (.bool false) (.cons (.bool false) (.cons (.bool false) (.cons (.bool false) (.cons (.bool false) (.cons (.bool false) (.cons (.bool false) (.cons (.bool false) (.cons (.bool false) (.cons (.bool false) (.cons (.bool false) (.cons (.bool false) (.cons (.bool false) (.cons (.bool false) (.cons (.bool false) (.cons (.bool false) (.cons (.bool false) (.cons (.bool false) (.cons (.bool false) (.cons (.bool false) (.cons (.bool false) (.cons (.bool false) (.cons (.bool false) (.cons (.bool false) (.cons (.bool false) (.cons (.bool false) (.cons (.bool false) (.cons (.bool false) (.cons (.bool false) (.cons (.bool false) (.cons (.bool false) (.cons (.bool false) (.cons (.bool false) (.cons (.bool false) (.cons (.bool false) (.cons (.bool false) (.cons (.bool false) (.cons (.bool false) (.cons (.bool false) (.cons (.bool false) (.cons (.bool false) (.cons (.bool false) (.cons (.bool false) (.cons (.bool false) (.cons (.bool false) (.cons (.bool false) (.cons (.bool false) (.cons (.bool false) (.cons (.bool false) (.cons (.bool false) (.cons (.bool false) (.cons (.bool false) (.cons (.bool false) (.cons (.bool false) (.cons (.bool false) (.cons (.bool false) (.cons (.bool false) (.cons (.bool false) (.cons (.bool false) (.cons (.bool false) (.cons (.bool false) (.cons (.bool false) (.cons (.bool false) (.cons (.bool false) (.cons (.bool false) (.cons (.bool false) (.cons (.bool false) (.cons (.bool false) (.cons (.bool false) (.cons (.bool false) (.cons (.bool false) (.cons (.bool false) (.cons (.bool false) (.cons (.bool false) (.cons (.bool false) (.cons (.bool false) (.cons (.bool false) (.cons (.bool false) (.cons (.bool false) (.cons (.bool false) (.cons (.bool false) (.cons (.bool false) (.cons (.bool false) (.cons (.bool false) (.cons (.bool false) (.cons (.bool false) (.cons (.bool false) (.cons (.bool false) (.cons (.bool false) (.cons (.bool false) (.cons (.bool false) (.cons (.bool false) (.cons (.bool false) (.cons (.bool false) (.cons (.bool false) (.cons (.bool false) (.cons (.bool false) (.cons (.bool false) (.cons (.bool false) (.cons (.bool false) (.cons (.bool false) (.cons (.bool false) (.cons (.bool false) (.cons (.bool false) (.cons (.bool false) (.cons (.bool false) (.cons (.bool false) (.cons (.bool false) (.cons (.bool false) (.cons (.bool false) (.cons (.bool false) (.cons (.bool false) (.cons (.bool false) (.cons (.bool false) (.cons (.bool false) (.cons (.bool false) (.cons (.bool false) (.cons (.bool false) (.cons (.bool false) (.cons (.bool false) (.cons (.bool false) (.cons (.bool false) (.cons (.bool false) (.cons (.bool false) (.cons (.bool false) (.cons (.bool false) (.cons (.bool false) (.cons (.bool false) (.cons (.bool false) (.cons (.bool false) (.cons (.bool false) (.cons (.bool false) (.cons (.bool false) (.cons (.bool false) (.cons (.bool false) (.cons (.bool false) (.cons (.bool false) (.cons (.bool false) (.cons (.bool false) (.cons (.bool false) (.cons (.bool false) (.cons (.bool false) (.cons (.bool false) (.cons (.bool false) (.cons (.bool false) (.cons (.bool false) (.cons (.bool false) (.cons (.bool false) (.cons (.bool false) (.cons (.bool false) (.cons (.bool false) (.cons (.bool false) (.cons (.bool false) .nil))))))))))))))))))))))))))))))))))))))))))))))))))))))))))))))))))))))))))))))))))))))))))))))))))))))))))))))))))))))))))))))))))))))))))))))))))))))))))))))))))))))))))))))))))))))))))))))))))))))))))))))))))))))))))))))))))))))))))))))))))))))))))))))))))], [(33, (.ext 1 (.call 63 (.cons (.sl 1) .nil))))], [], some (none, .store 256 (.sl 5) (.ext 0 (.call 63 (.cons (.sl 1) .nil)))), [0, 1, 5], 7, [], [], []⟩, ⟨[], [(6, (.sl 33))], [], none, [0, 1, 5], 1, [], [], []⟩])
      (.seq
       (.reg [⟨[], [(34, (.sl 6))], [], none, [0, 1, 5], 1, [], [], []⟩])
       (.cond (.sl 34)
        (.seq
         (.reg [⟨[], [(4, (.call 64 (.cons (.call 65 (.cons (.sl 0) (.cons (.sl 5) .nil))) (.cons (.sl 5) .nil))))], [], none, [], 4, [], [], []⟩])
         (.seq
          (.tidy 0 [4])
          .ret))
        .skip)))
     (.seq
      (.reg [⟨[], [(4, (.call 66 (.cons (.call 67 (.cons (.sl 0) (.cons (.sl 1) .nil))) (.cons (.sl 1) .nil))))], [], none, [], 6, [], [], []⟩])
      (.seq
       (.tidy 0 [4])
       .ret)))))),
 [(.sl 4)], false⟩
theorem f41_ok : funOk Go.Proofs.Tryd.prog 41 0 2 f41 = true := by kernel_rfl

/- 'sloth/lex.reserved' -/
def f43 : Fun := ⟨
 (.seq
  (.reg [⟨[], [], [(.bool false)], none, [0], 1, [], [], []⟩])
  (.seq
   (.seq
    (.reg [⟨[], [(3, (.sl 0))], [], none, [], 1, [], [], []⟩])
    (.block 0
     (.seq
      (.seq
       (.reg [⟨[], [(4, (.bin .eql (.sl 3) (.str [109, 111, 100, 117, 108, 101])))], [], none, [3], 2, [], [], []⟩])
       (.cond (.sl 4)
        .skip
        (.seq
         (.reg [⟨[], [(4, (.bin .eql (.sl 3) (.str [105, 109, 112, 111, 114, 116])))], [], none, [3], 2, [], [], []⟩])
         (.cond (.sl 4)
          .skip
          (.seq
           (.reg [⟨[], [(4, (.bin .eql (.sl 3) (.str [100, 97, 116, 97])))], [], none, [3], 2, [], [], []⟩])
           (.cond (.sl 4)
            .skip
            (.seq
             (.reg [⟨[], [(4, (.bin .eql (.sl 3) (.str [105, 110, 102, 105, 120, 108])))], [], none, [3], 2, [], [], []⟩])
             (.cond (.sl 4)
              .skip
              (.seq
               (.reg [⟨[], [(4, (.bin .eql (.sl 3) (.str [105, 110, 102, 105, 120, 114])))], [], none, [3], 2, [], [], []⟩])
               (.cond (.sl 4)
                .skip
                (.seq
                 (.reg [⟨[], [(4, (.bin .eql (.sl 3) (.str [105, 110, 102, 105, 120])))], [], none, [3], 2, [], [], []⟩])
                 (.cond (.sl 4)
                  .skip
                  (.seq
                   (.reg [⟨[], [(4, (.bin .eql (.sl 3) (.str [108, 101, 116])))], [], none, [3], 2, [], [], []⟩])
                   (.cond (.sl 4)
                    .skip
                    (.seq
                     (.reg [⟨[], [(4, (.bin .eql (.sl 3) (.str [105, 110])))], [], none, [3], 2, [], [], []⟩])
                     (.cond (.sl 4)
                      .skip
                      (.seq
                       (.reg [⟨[], [(4, (.bin .eql (.sl 3) (.str [99, 97, 115, 101])))], [], none, [3], 2, [], [], []⟩])
                       (.cond (.sl 4)
                        .skip
                        (.seq
                         (.reg [⟨[], [(4, (.bin .eql (.sl 3) (.str [111, 102])))], [], none, [3], 2, [], [], []⟩])
                         (.cond (.sl 4)
                          .skip
                          (.seq
                           (.reg [⟨[], [(4, (.bin .eql (.sl 3) (.str [105, 102])))], [], none, [3], 2, [], [], []⟩])
                           (.cond (.sl 4)
                            .skip
                            (.seq
                             (.reg [⟨[], [(4, (.bin .eql (.sl 3) (.str [116, 104, 101, 110])))], [], none, [3], 2, [], [], []⟩])
                             (.cond (.sl 4)
                              .skip
                              (.reg [⟨[], [(4, (.bin .eql (.sl 3) (.str [101, 108, 115, 101])))], [], none, [], 2, [], [], []⟩])))))))))))))))))))))))))
      (.cond (.sl 4)
       (.seq
        (.reg [⟨[], [(2, (.bool true))], [], none, [], 1, [], [], []⟩])
        (.seq
         (.tidy 0 [2])
         .ret))
       .skip))))
   (.seq
    (.reg [⟨[], [(2, (.bool false))], [], none, [], 1, [], [], []⟩])
    (.seq
     (.tidy 0 [2])
     .ret)))),
 [(.sl 2)], false⟩
theorem f43_ok : funOk Go.Proofs.Tryd.prog 43 0 1 f43 = true := by kernel_rfl

/- 'sloth/lex.isSign' -/
def f46 : Fun := ⟨
 (.seq
  (.reg [⟨[], [], [(.bool false)], none, [0], 1, [], [], []⟩])
  (.seq
   (.reg [⟨[], [(2, (.or (.or (.or (.bin .eql (.sl 0) (.str [61])) (.bin .eql (.sl 0) (.str [124]))) (.bin .eql (.sl 0) (.str [45, 62]))) (.bin .eql (.sl 0) (.str [58, 58]))))], [], none, [], 15, [], [], []⟩])
   (.seq
    (.tidy 0 [2])
    .ret))),
 [(.sl 2)], false⟩
theorem f46_ok : funOk Go.Proofs.Tryd.prog 46 0 1 f46 = true := by kernel_rfl

/- 'strings.trimLeftByte' -/
def f61_L0 : C :=
 (.seq
  (.seq
   (.reg [⟨[], [(13, (.and (.bin .gtr (.len true (.sl 0)) (.int .i64 0)) (.bin .eql (.ix (.sl 0) (.int .i64 0)) (.sl 1))))], [], none, [0, 1], 9, [], [], []⟩])
   (.cond (.sl 13)
    .skip
    (.seq
     (.tidy 0 [0])
     (.exit 0))))
  (.block 1
   (.reg [⟨[], [(0, (.cut true true false false 0 (.sl 0) (.int .i64 1) .nil .nil))], [], none, [1], 3, [], [], []⟩])))
def f61 : Fun := ⟨
 (.seq
  (.reg [⟨[], [], [(.str [])], none, [0, 1], 1, [], [], []⟩])
  (.seq
   (.block 0
    (.seq (.tidy 0 [0, 1]) (.loop (.seq (.tidy 0 [0, 1]) f61_L0))))
   (.seq
    (.reg [⟨[], [(4, (.sl 0))], [], none, [], 2, [], [], []⟩])
    (.seq
     (.tidy 0 [4])
     .ret)))),
 [(.sl 4)], false⟩
theorem f61_ok : funOk Go.Proofs.Tryd.prog 61 0 2 f61 = true := by kernel_rfl

/- 'strings.trimRightByte' -/
def f62_L0 : C :=
 (.seq
  (.seq
   (.reg [⟨[], [(16, (.and (.bin .gtr (.len true (.sl 0)) (.int .i64 0)) (.bin .eql (.ix (.sl 0) (.bin .sub (.len true (.sl 0)) (.int .i64 1))) (.sl 1))))], [], none, [0, 1], 12, [], [], []⟩])
   (.cond (.sl 16)
    .skip
    (.seq
     (.tidy 0 [0])
     (.exit 0))))
  (.block 1
   (.reg [⟨[], [(0, (.cut true false true false 0 (.sl 0) .nil (.bin .sub (.len true (.sl 0)) (.int .i64 1)) .nil))], [], none, [1], 6, [], [], []⟩])))
def f62 : Fun := ⟨
 (.seq
  (.reg [⟨[], [], [(.str [])], none, [0, 1], 1, [], [], []⟩])
  (.seq
   (.block 0
    (.seq (.tidy 0 [0, 1]) (.loop (.seq (.tidy 0 [0, 1]) f62_L0))))
   (.seq
    (.reg [⟨[], [(4, (.sl 0))], [], none, [], 2, [], [], []⟩])
    (.seq
     (.tidy 0 [4])
     .ret)))),
 [(.sl 4)], false⟩
theorem f62_ok : funOk Go.Proofs.Tryd.prog 62 0 2 f62 = true := by kernel_rfl

/- 'sloth/lex.byteAt' -/
def f68 : Fun := ⟨
 (.seq
  (.reg [⟨[], [], [(.int .u8 0)], none, [0, 1], 1, [], [], []⟩])
  (.seq
   (.seq
    (.reg [⟨[], [(8, (.bin .geq (.sl 1) (.len true (.sl 0))))], [], none, [0, 1], 4, [], [], []⟩])
    (.cond (.sl 8)
     (.seq
      (.reg [⟨[], [(4, (.int .u8 0))], [], none, [], 1, [], [], []⟩])
      (.seq
       (.tidy 0 [4])
       .ret))
     .skip))
   (.seq
    (.reg [⟨[], [(4, (.ix (.sl 0) (.sl 1)))], [], none, [], 4, [], [], []⟩])
    (.seq
     (.tidy 0 [4])
     .ret)))),
 [(.sl 4)], false⟩
theorem f68_ok : funOk Go.Proofs.Tryd.prog 68 0 2 f68 = true := by kernel_rfl

/- 'sloth/lex.hex' -/
def f69 : Fun := ⟨
 (.seq
  (.reg [⟨[], [], [(.int .i64 0)], none, [0, 1], 1, [], [], []⟩])
  (.seq
   (.reg [⟨[], [(4, (.call 85 (.cons (.str [48, 49, 50, 51, 52, 53, 54, 55, 56, 57, 97, 98, 99, 100, 101, 102]) (.cons (.call 68 (.cons (.sl 0) (.cons (.sl 1) .nil))) .nil))))], [], none, [], 5, [], [], []⟩])
   (.seq
    (.tidy 0 [4])
    .ret))),
 [(.sl 4)], false⟩
theorem f69_ok : funOk Go.Proofs.Tryd.prog 69 0 2 f69 = true := by kernel_rfl

/- 'strings.IndexByte' -/
def f85 : Fun := ⟨
 (.seq
  (.reg [⟨[], [], [(.int .i64 0)], none, [0, 1], 1, [], [], []⟩])
  (.seq
   (.reg [⟨[], [(4, (.call 94 (.cons (.sl 0) (.cons (.sl 1) .nil))))], [], none, [], 4, [], [], []⟩])
   (.seq
    (.tidy 0 [4])
    .ret))),
 [(.sl 4)], false⟩
theorem f85_ok : funOk Go.Proofs.Tryd.prog 85 0 2 f85 = true := by kernel_rfl


theorem cut_sh (H : List (Nat × Blk)) (s : BS) (x y : V) (n : Nat) (h : n ≤ s.length) : evCutS H true false true false 0 (.d false (.str s)) (.tup []) (.d false (.int .i64 (n : Int))) (.tup []) = some (.d false (.str (s.take n))) := by
  simp [evCutS, V.isStr, evCut, bound, h]
theorem cut_sl (H : List (Nat × Blk)) (s : BS) (n : Nat) (h : n ≤ s.length) : evCutS H true true false false 0 (.d false (.str s)) (.d false (.int .i64 (n : Int))) (.tup []) (.tup []) = some (.d false (.str (s.drop n))) := by
  have : (s.drop n).take (s.length - n) = s.drop n := List.take_of_length_le (by simp)
  simp [evCutS, V.isStr, evCut, bound, h, this]
theorem cut_slh (H : List (Nat × Blk)) (s : BS) (n m : Nat) (h1 : n ≤ m) (h : m ≤ s.length) : evCutS H true true true false 0 (.d false (.str s)) (.d false (.int .i64 (n : Int))) (.d false (.int .i64 (m : Int))) (.tup []) = some (.d false (.str ((s.drop n).take (m - n)))) := by
  simp [evCutS, V.isStr, evCut, bound, h, h1]

def words : List BS := [[109, 111, 100, 117, 108, 101], [105, 109, 112, 111, 114, 116], [100, 97, 116, 97], [105, 110, 102, 105, 120, 108], [105, 110, 102, 105, 120, 114], [105, 110, 102, 105, 120], [108, 101, 116], [105, 110], [99, 97, 115, 101], [111, 102], [105, 102], [116, 104, 101, 110], [101, 108, 115, 101]]
def resv (s : BS) : Bool := decide (s ∈ words)
def signs : List BS := [[61], [124], [45, 62], [58, 58]]
def isSg (s : BS) : Bool := decide (s ∈ signs)
def dsh (s : BS) : Bool := decide (2 ≤ s.length) && s.all (· == 45)
def trR (c : UInt8) (s : BS) : BS := (s.reverse.dropWhile (· == c)).reverse
def trL (c : UInt8) (s : BS) : BS := s.dropWhile (· == c)
def bAt : BS → UInt8
  | [] => 0
  | c :: _ => c
def comL : Int → BS → Option Nat
  | d, x :: y :: r => if x = 123 ∧ y = 45 then (comL (d + 1) r).map (· + 2) else if x = 45 ∧ y = 125 then (if d - 1 = 0 then some 2 else (comL (d - 1) r).map (· + 2)) else (comL d (y :: r)).map (· + 1)
  | _, _ => none
def hexB (c : UInt8) : Int := if 48 ≤ c.toNat ∧ c.toNat ≤ 57 then c.toNat - 48 else if 97 ≤ c.toNat ∧ c.toNat ≤ 102 then c.toNat - 87 else -1
def hexL (l : BS) : Int := hexB (bAt l)

def K43 (K : Cx) : Prop := ∀ s : BS, K.call 43 [.d false (.str s)] = some (.d false (.bool (resv s)), [])
def K46 (K : Cx) : Prop := ∀ s : BS, K.call 46 [.d false (.str s)] = some (.d false (.bool (isSg s)), [])
def K31 (K : Cx) : Prop := ∀ s : BS, s.length ≤ 2000000 → K.call 31 [.d false (.str s)] = some (.d false (.bool (dsh s)), [])
def K41 (K : Cx) : Prop := ∀ s : BS, s ≠ [] → s.length ≤ 2000000 → K.call 41 [.d false (.str s), .d false (.str [45])] = some (.d false (.str (trL 45 (trR 45 s))), [])
def K61 (K : Cx) : Prop := ∀ (s : BS) (c : UInt8), s.length ≤ 2000000 → K.call 61 [.d false (.str s), .d false (.int .u8 c.toNat)] = some (.d false (.str (trL c s)), [])
def K62 (K : Cx) : Prop := ∀ (s : BS) (c : UInt8), s.length ≤ 2000000 → K.call 62 [.d false (.str s), .d false (.int .u8 c.toNat)] = some (.d false (.str (trR c s)), [])
def K29 (K : Cx) : Prop := ∀ (s : BS) (i : Nat), i ≤ s.length → s.length ≤ 2000000 → K.call 29 [.d false (.str s), .d false (.int .i64 i)] = some (.d false (.int .i64 (match comL 0 (s.drop i) with | some n => ((i + n : Nat) : Int) | none => -1)), [])
def K68 (K : Cx) : Prop := ∀ (s : BS) (i : Nat), s.length ≤ 2000000 → K.call 68 [.d false (.str s), .d false (.int .i64 i)] = some (.d false (.int .u8 (bAt (s.drop i)).toNat), [])
def K85 (K : Cx) : Prop := ∀ c : UInt8, K.call 85 [.d false (.str [48, 49, 50, 51, 52, 53, 54, 55, 56, 57, 97, 98, 99, 100, 101, 102]), .d false (.int .u8 c.toNat)] = some (.d false (.int .i64 (hexB c)), [])
def K69 (K : Cx) : Prop := ∀ (s : BS) (i : Nat), s.length ≤ 2000000 → K.call 69 [.d false (.str s), .d false (.int .i64 i)] = some (.d false (.int .i64 (hexL (s.drop i))), [])

theorem ev_reserved (K : Cx) (s : BS) : runFun K f43 [.d false (.str s)] [] = some (.d false (.bool (resv s)), [], []) := by
  unfold resv words
  by_cases g1 : s = [109, 111, 100, 117, 108, 101]
  · have e : (s = [109, 111, 100, 117, 108, 101]) = True := eq_true g1
    clear g1
    simp (disch := first | decide | omega | (simp only [LN]; omega) | (simp only [LN]; done) | fail) only [SV, f43, Nat.zero_add, Bool.and_self, beq_self_eq_true, evBin, strBin, e, decide_true, V.refs, if_true, oneOr, Bool.false_eq_true, if_false, finV, finA, finC, or_false, true_or]
  by_cases g2 : s = [105, 109, 112, 111, 114, 116]
  · have e : (s = [105, 109, 112, 111, 114, 116]) = True := eq_true g2
    clear g2
    simp (disch := first | decide | omega | (simp only [LN]; omega) | (simp only [LN]; done) | fail) only [SV, f43, Nat.zero_add, Bool.and_self, beq_self_eq_true, evBin, strBin, g1, decide_false, Nat.reduceBEq, e, decide_true, V.refs, if_true, oneOr, Bool.false_eq_true, if_false, finV, finA, finC, or_false, true_or, or_true]
  by_cases g3 : s = [100, 97, 116, 97]
  · have e : (s = [100, 97, 116, 97]) = True := eq_true g3
    clear g3
    simp (disch := first | decide | omega | (simp only [LN]; omega) | (simp only [LN]; done) | fail) only [SV, f43, Nat.zero_add, Bool.and_self, beq_self_eq_true, evBin, strBin, g1, decide_false, Nat.reduceBEq, g2, e, decide_true, V.refs, if_true, oneOr, Bool.false_eq_true, if_false, finV, finA, finC, or_false, true_or, or_true]
  by_cases g4 : s = [105, 110, 102, 105, 120, 108]
  · have e : (s = [105, 110, 102, 105, 120, 108]) = True := eq_true g4
    clear g4
    simp (disch := first | decide | omega | (simp only [LN]; omega) | (simp only [LN]; done) | fail) only [SV, f43, Nat.zero_add, Bool.and_self, beq_self_eq_true, evBin, strBin, g1, decide_false, Nat.reduceBEq, g2, g3, e, decide_true, V.refs, if_true, oneOr, Bool.false_eq_true, if_false, finV, finA, finC, or_false, true_or, or_true]
  by_cases g5 : s = [105, 110, 102, 105, 120, 114]
  · have e : (s = [105, 110, 102, 105, 120, 114]) = True := eq_true g5
    clear g5
    simp (disch := first | decide | omega | (simp only [LN]; omega) | (simp only [LN]; done) | fail) only [SV, f43, Nat.zero_add, Bool.and_self, beq_self_eq_true, evBin, strBin, g1, decide_false, Nat.reduceBEq, g2, g3, g4, e, decide_true, V.refs, if_true, oneOr, Bool.false_eq_true, if_false, finV, finA, finC, or_false, true_or, or_true]
  by_cases g6 : s = [105, 110, 102, 105, 120]
  · have e : (s = [105, 110, 102, 105, 120]) = True := eq_true g6
    clear g6
    simp (disch := first | decide | omega | (simp only [LN]; omega) | (simp only [LN]; done) | fail) only [SV, f43, Nat.zero_add, Bool.and_self, beq_self_eq_true, evBin, strBin, g1, decide_false, Nat.reduceBEq, g2, g3, g4, g5, e, decide_true, V.refs, if_true, oneOr, Bool.false_eq_true, if_false, finV, finA, finC, or_false, true_or, or_true]
  by_cases g7 : s = [108, 101, 116]
  · have e : (s = [108, 101, 116]) = True := eq_true g7
    clear g7
    simp (disch := first | decide | omega | (simp only [LN]; omega) | (simp only [LN]; done) | fail) only [SV, f43, Nat.zero_add, Bool.and_self, beq_self_eq_true, evBin, strBin, g1, decide_false, Nat.reduceBEq, g2, g3, g4, g5, g6, e, decide_true, V.refs, if_true, oneOr, Bool.false_eq_true, if_false, finV, finA, finC, or_false, true_or, or_true]
  by_cases g8 : s = [105, 110]
  · have e : (s = [105, 110]) = True := eq_true g8
    clear g8
    simp (disch := first | decide | omega | (simp only [LN]; omega) | (simp only [LN]; done) | fail) only [SV, f43, Nat.zero_add, Bool.and_self, beq_self_eq_true, evBin, strBin, g1, decide_false, Nat.reduceBEq, g2, g3, g4, g5, g6, g7, e, decide_true, V.refs, if_true, oneOr, Bool.false_eq_true, if_false, finV, finA, finC, or_false, true_or, or_true]
  by_cases g9 : s = [99, 97, 115, 101]
  · have e : (s = [99, 97, 115, 101]) = True := eq_true g9
    clear g9
    simp (disch := first | decide | omega | (simp only [LN]; omega) | (simp only [LN]; done) | fail) only [SV, f43, Nat.zero_add, Bool.and_self, beq_self_eq_true, evBin, strBin, g1, decide_false, Nat.reduceBEq, g2, g3, g4, g5, g6, g7, g8, e, decide_true, V.refs, if_true, oneOr, Bool.false_eq_true, if_false, finV, finA, finC, or_false, true_or, or_true]
  by_cases g10 : s = [111, 102]
  · have e : (s = [111, 102]) = True := eq_true g10
    clear g10
    simp (disch := first | decide | omega | (simp only [LN]; omega) | (simp only [LN]; done) | fail) only [SV, f43, Nat.zero_add, Bool.and_self, beq_self_eq_true, evBin, strBin, g1, decide_false, Nat.reduceBEq, g2, g3, g4, g5, g6, g7, g8, g9, e, decide_true, V.refs, if_true, oneOr, Bool.false_eq_true, if_false, finV, finA, finC, or_false, true_or, or_true]
  by_cases g11 : s = [105, 102]
  · have e : (s = [105, 102]) = True := eq_true g11
    clear g11
    simp (disch := first | decide | omega | (simp only [LN]; omega) | (simp only [LN]; done) | fail) only [SV, f43, Nat.zero_add, Bool.and_self, beq_self_eq_true, evBin, strBin, g1, decide_false, Nat.reduceBEq, g2, g3, g4, g5, g6, g7, g8, g9, g10, e, decide_true, V.refs, if_true, oneOr, Bool.false_eq_true, if_false, finV, finA, finC, or_false, true_or, or_true]
  by_cases g12 : s = [116, 104, 101, 110]
  · have e : (s = [116, 104, 101, 110]) = True := eq_true g12
    clear g12
    simp (disch := first | decide | omega | (simp only [LN]; omega) | (simp only [LN]; done) | fail) only [SV, f43, Nat.zero_add, Bool.and_self, beq_self_eq_true, evBin, strBin, g1, decide_false, Nat.reduceBEq, g2, g3, g4, g5, g6, g7, g8, g9, g10, g11, e, decide_true, V.refs, if_true, oneOr, Bool.false_eq_true, if_false, finV, finA, finC, or_false, true_or, or_true]
  by_cases g13 : s = [101, 108, 115, 101]
  · have e : (s = [101, 108, 115, 101]) = True := eq_true g13
    clear g13
    simp (disch := first | decide | omega | (simp only [LN]; omega) | (simp only [LN]; done) | fail) only [SV, f43, Nat.zero_add, Bool.and_self, beq_self_eq_true, evBin, strBin, g1, decide_false, Nat.reduceBEq, g2, g3, g4, g5, g6, g7, g8, g9, g10, g11, g12, e, decide_true, V.refs, if_true, oneOr, Bool.false_eq_true, if_false, finV, finA, finC, or_false, or_true]
  simp (disch := first | decide | omega | (simp only [LN]; omega) | (simp only [LN]; done) | fail) only [SV, f43, Nat.zero_add, Bool.and_self, beq_self_eq_true, evBin, strBin, g1, decide_false, Nat.reduceBEq, g2, g3, g4, g5, g6, g7, g8, g9, g10, g11, g12, g13, V.refs, decide_true, if_true, oneOr, Bool.false_eq_true, if_false, finV, finA, finC, or_self]

theorem ev_isSign (K : Cx) (s : BS) : runFun K f46 [.d false (.str s)] [] = some (.d false (.bool (isSg s)), [], []) := by
  unfold isSg signs
  by_cases g1 : s = [61]
  · have e : (s = [61]) = True := eq_true g1
    clear g1
    simp (disch := first | decide | omega | (simp only [LN]; omega) | (simp only [LN]; done) | fail) only [SV, f46, Nat.zero_add, Bool.and_self, beq_self_eq_true, evBin, strBin, e, decide_true, Bool.true_or, V.refs, if_true, oneOr, Bool.false_eq_true, if_false, finV, finA, finC, or_false, true_or]
  by_cases g2 : s = [124]
  · have e : (s = [124]) = True := eq_true g2
    clear g2
    simp (disch := first | decide | omega | (simp only [LN]; omega) | (simp only [LN]; done) | fail) only [SV, f46, Nat.zero_add, Bool.and_self, beq_self_eq_true, evBin, strBin, g1, decide_false, e, decide_true, Bool.or_true, Bool.true_or, V.refs, if_true, oneOr, Bool.false_eq_true, if_false, finV, finA, finC, or_false, true_or, or_true]
  by_cases g3 : s = [45, 62]
  · have e : (s = [45, 62]) = True := eq_true g3
    clear g3
    simp (disch := first | decide | omega | (simp only [LN]; omega) | (simp only [LN]; done) | fail) only [SV, f46, Nat.zero_add, Bool.and_self, beq_self_eq_true, evBin, strBin, g1, decide_false, g2, Bool.or_self, e, decide_true, Bool.or_true, Bool.true_or, V.refs, if_true, oneOr, Bool.false_eq_true, if_false, finV, finA, finC, or_false, true_or, or_true]
  by_cases g4 : s = [58, 58]
  · have e : (s = [58, 58]) = True := eq_true g4
    clear g4
    simp (disch := first | decide | omega | (simp only [LN]; omega) | (simp only [LN]; done) | fail) only [SV, f46, Nat.zero_add, Bool.and_self, beq_self_eq_true, evBin, strBin, g1, decide_false, g2, Bool.or_self, g3, e, decide_true, Bool.or_true, V.refs, if_true, oneOr, Bool.false_eq_true, if_false, finV, finA, finC, or_false, or_true]
  simp (disch := first | decide | omega | (simp only [LN]; omega) | (simp only [LN]; done) | fail) only [SV, f46, Nat.zero_add, Bool.and_self, beq_self_eq_true, evBin, strBin, g1, decide_false, g2, Bool.or_self, g3, g4, V.refs, decide_true, if_true, oneOr, Bool.false_eq_true, if_false, finV, finA, finC, or_self]

theorem u8eq (a b : UInt8) : ((a.toNat : Int) = (b.toNat : Int)) = (a = b) := by
  apply propext
  constructor
  · intro h; exact UInt8.toNat_inj.1 (by omega)
  · rintro rfl; rfl

theorem ev_byteAt (K : Cx) (s : BS) (i : Nat) (hs : s.length ≤ 2000000) : runFun K f68 [.d false (.str s), .d false (.int .i64 i)] [] = some (.d false (.int .u8 (bAt (s.drop i)).toNat), [], []) := by
  by_cases h : i < s.length
  · have hd : s.drop i = s[i] :: s.drop (i + 1) := List.drop_eq_getElem_cons h
    have hn : nth s (i : Int) = s[i] := by simp [nth, h]
    rw [hd]
    simp only [bAt]
    simp (disch := first | decide | omega | (simp only [LN]; omega) | (simp only [LN]; done) | fail) only [SV, f68, Nat.zero_add, Nat.reduceAdd, Bool.and_self, beq_self_eq_true, Nat.reduceBEq, evLen, evBin, intBin, decide_false, if_true, hn, V.refs, decide_true, oneOr, Bool.false_eq_true, if_false, finV, finA, finC]
  · have hd : s.drop i = [] := by rw [List.drop_eq_nil_iff]; omega
    have hz : ((0 : UInt8).toNat : Int) = 0 := rfl
    rw [hd]
    simp only [bAt, hz]
    simp (disch := first | decide | omega | (simp only [LN]; omega) | (simp only [LN]; done) | fail) only [SV, f68, Nat.zero_add, Nat.reduceAdd, Bool.and_self, beq_self_eq_true, Nat.reduceBEq, evLen, evBin, intBin, decide_true, if_true, V.refs, oneOr, Bool.false_eq_true, if_false, finV, finA, finC]

theorem ev_hex (K : Cx) (h68 : K68 K) (h85 : K85 K) (s : BS) (i : Nat) (hs : s.length ≤ 2000000) : runFun K f69 [.d false (.str s), .d false (.int .i64 i)] [] = some (.d false (.int .i64 (hexL (s.drop i))), [], []) := by
  have h1 := h68 s i hs
  have h2 := h85 (bAt (s.drop i))
  simp (disch := first | decide | omega | (simp only [LN]; omega) | (simp only [LN]; done) | fail) only [SV, f69, Nat.zero_add, Nat.reduceAdd, Bool.and_self, beq_self_eq_true, Nat.reduceBEq, V.own, V.own1, Bool.or_self, V.new, V.new1, D.flat, Bool.or_true, V.flatV, V.flat1, Bool.not_true, Bool.and_false, Bool.false_and, view, viewD, h1, Bool.false_eq_true, if_false, h2, V.refs, decide_true, if_true, oneOr, finV, finA, finC, hexL]

theorem triml_loop (K : Cx) (c : UInt8) : ∀ s : BS, s.length ≤ 2000000 →
    lp K 0 [0, 1] f61_L0 ⟨[(0, .d false (.str s)), (1, .d false (.int .u8 c.toNat))], [], 0, []⟩ = some (.exit 0, ⟨[(0, .d false (.str (trL c s)))], [], 0, []⟩) := by
  intro s
  induction s with
  | nil =>
    intro _
    rw [lp_un f61_L0.eq_1]
    simp (disch := first | decide | omega | (simp only [LN]; omega) | (simp only [LN]; done) | fail) only [SV, beq_self_eq_true, evLen, Int.natCast_zero, evBin, intBin, decide_false, if_true, Nat.reduceBEq, V.refs, decide_true, Bool.and_self, trL, List.dropWhile_nil]
  | cons x r ih =>
    intro hs
    simp only [List.length_cons] at hs
    have ih := ih (by omega)
    have hn : nth (x :: r) 0 = x := rfl
    have hc := cut_sl [] (x :: r) 1 (by simp)
    rw [Int.natCast_one, List.drop_one, List.tail_cons] at hc
    rw [lp_un f61_L0.eq_1]
    by_cases g : x = c
    · subst g
      have e : trL x (x :: r) = trL x r := by simp [trL]
      rw [e]
      have h0 : (0 : Int) < ((r.length + 1 : Nat) : Int) := by omega
      simp (disch := first | decide | omega | (simp only [LN]; omega) | (simp only [LN]; done) | fail) only [SV, beq_self_eq_true, evLen, evBin, intBin, h0, decide_true, if_true, hn, Nat.reduceBEq, Bool.and_self, e_cut, o4_some, hc, V.refs]
      exact ih
    · have e : trL c (x :: r) = x :: r := by simp [trL, g]
      rw [e]
      have h0 : (0 : Int) < ((r.length + 1 : Nat) : Int) := by omega
      have g' : ¬ ((x.toNat : Int) = (c.toNat : Int)) := by rw [u8eq]; exact g
      simp (disch := first | decide | omega | (simp only [LN]; omega) | (simp only [LN]; done) | fail) only [SV, beq_self_eq_true, evLen, evBin, intBin, h0, decide_true, if_true, hn, Nat.reduceBEq, Bool.and_false, V.refs, Bool.and_self]
end Go.Vm
end

section
namespace Go.Vm

theorem trimr_loop (K : Cx) (c : UInt8) : ∀ (n : Nat) (s : BS), s.length = n → n ≤ 2000000 →
    lp K 0 [0, 1] f62_L0 ⟨[(0, .d false (.str s)), (1, .d false (.int .u8 c.toNat))], [], 0, []⟩ = some (.exit 0, ⟨[(0, .d false (.str (trR c s)))], [], 0, []⟩) := by
  intro n
  induction n with
  | zero =>
    intro s hs _
    have : s = [] := List.length_eq_zero_iff.1 hs
    subst this
    rw [lp_un f62_L0.eq_1]
    simp (disch := first | decide | omega | (simp only [LN]; omega) | (simp only [LN]; done) | fail) only [SV, beq_self_eq_true, evLen, Int.natCast_zero, evBin, intBin, decide_false, if_true, Int.reduceSub, Int.reduceNeg, Nat.reduceBEq, V.refs, decide_true, Bool.and_self, trR, List.reverse_nil, List.dropWhile_nil]
  | succ n ih =>
    intro s hs hl
    have hne : s ≠ [] := by intro h; subst h; simp at hs
    obtain ⟨t, x, rfl⟩ : ∃ t x, s = t ++ [x] := ⟨s.dropLast, s.getLast hne, (List.dropLast_concat_getLast hne).symm⟩
    have ht : t.length = n := by simpa using hs
    subst ht
    have ih := ih t rfl (by omega)
    have hn : nth (t ++ [x]) (t.length : Int) = x := by simp [nth]
    have hc := cut_sh [] (t ++ [x]) (.tup []) (.tup []) t.length (by simp)
    have et : (t ++ [x]).take t.length = t := by simp
    rw [et] at hc
    have ha : (((t.length + 1 : Nat) : Int) - 1) = (t.length : Int) := by omega
    have h0 : (0 : Int) < ((t.length + 1 : Nat) : Int) := by omega
    rw [lp_un f62_L0.eq_1]
    by_cases g : x = c
    · subst g
      have e : trR x (t ++ [x]) = trR x t := by simp [trR]
      rw [e]
      clear hne
      simp (disch := first | decide | omega | (simp only [LN]; omega) | (simp only [LN]; done) | fail) only [SV, beq_self_eq_true, evLen, List.length_append, Nat.zero_add, evBin, intBin, h0, decide_true, if_true, ha, hn, Nat.reduceBEq, Bool.and_self, e_cut, o4_some, hc, V.refs]
      exact ih
    · have e : trR c (t ++ [x]) = t ++ [x] := by simp [trR, g]
      rw [e]
      have g' : ¬ ((x.toNat : Int) = (c.toNat : Int)) := by rw [u8eq]; exact g
      clear hne
      simp (disch := first | decide | omega | (simp only [LN]; omega) | (simp only [LN]; done) | fail) only [SV, beq_self_eq_true, evLen, List.length_append, Nat.zero_add, evBin, intBin, h0, decide_true, if_true, ha, hn, Nat.reduceBEq, Bool.and_false, V.refs, Bool.and_self]

theorem ev_trimLeft (K : Cx) (s : BS) (c : UInt8) (hs : s.length ≤ 2000000) : runFun K f61 [.d false (.str s), .d false (.int .u8 c.toNat)] [] = some (.d false (.str (trL c s)), [], []) := by
  have h := triml_loop K c s hs
  simp (disch := first | decide | omega | (simp only [LN]; omega) | (simp only [LN]; done) | fail) only [SV, f61, Nat.zero_add, Nat.reduceAdd, Bool.and_self, beq_self_eq_true, Nat.reduceBEq, V.refs, decide_true, if_true, h, oneOr, Bool.false_eq_true, if_false, finV, finA, finC]
theorem ev_trimRight (K : Cx) (s : BS) (c : UInt8) (hs : s.length ≤ 2000000) : runFun K f62 [.d false (.str s), .d false (.int .u8 c.toNat)] [] = some (.d false (.str (trR c s)), [], []) := by
  have h := trimr_loop K c s.length s rfl hs
  simp (disch := first | decide | omega | (simp only [LN]; omega) | (simp only [LN]; done) | fail) only [SV, f62, Nat.zero_add, Nat.reduceAdd, Bool.and_self, beq_self_eq_true, Nat.reduceBEq, V.refs, decide_true, if_true, h, oneOr, Bool.false_eq_true, if_false, finV, finA, finC]

theorem trR_len (c : UInt8) (s : BS) : (trR c s).length ≤ s.length := by
  unfold trR
  rw [List.length_reverse]
  exact Nat.le_trans (List.dropWhile_sublist _).length_le (by simp)

set_option maxRecDepth 20000 in
theorem ev_trim (K : Cx) (h61 : K61 K) (h62 : K62 K) (s : BS) (hne : s ≠ []) (hs : s.length ≤ 2000000) : runFun K f41 [.d false (.str s), .d false (.str [45])] [] = some (.d false (.str (trL 45 (trR 45 s))), [], []) := by
  have h1 := h62 s 45 hs
  have h2 := h61 (trR 45 s) 45 (Nat.le_trans (trR_len _ _) hs)
  have e45 : ((45 : UInt8).toNat : Int) = 45 := rfl
  have hn : nth ([45] : BS) 0 = 45 := rfl
  have e1 : (s = []) = False := eq_false hne
  have e2 : (([45] : BS) = []) = False := eq_false (by simp)
  rw [e45] at h1 h2
  clear hne
  simp (disch := first | decide | omega | (simp only [LN]; omega) | (simp only [LN]; done) | fail) only [SV, f41, Nat.zero_add, Nat.reduceAdd, Bool.and_self, beq_self_eq_true, Nat.reduceBEq, evBin, strBin, e1, decide_false, e2, Bool.or_self, evLen, Int.natCast_one, intBin, if_true, hn, e45, decide_true, V.own, V.own1, V.new, V.new1, D.flat, Bool.or_true, V.flatV, V.flat1, Bool.not_true, Bool.and_false, Bool.false_and, view, viewD, h1, Bool.false_eq_true, if_false, h2, V.refs, oneOr, finV, finA, finC]

theorem dropWhile_nil (p : UInt8 → Bool) : ∀ l : BS, l.dropWhile p = [] ↔ ∀ x ∈ l, p x = true
  | [] => by simp
  | a :: l => by
    by_cases g : p a = true
    · rw [List.dropWhile_cons_of_pos g, dropWhile_nil p l]; simp [g]
    · rw [List.dropWhile_cons_of_neg g]; simp [g]

theorem dsh_trim (s : BS) : (trL 45 (trR 45 s) = []) ↔ s.all (· == 45) = true := by
  unfold trL trR
  rw [dropWhile_nil]
  constructor
  · intro h
    rw [List.all_eq_true]
    have key : ∀ l : BS, (∀ x, x ∈ (l.dropWhile (· == 45)).reverse → (x == 45) = true) → ∀ x, x ∈ l → (x == 45) = true := by
      intro l
      induction l with
      | nil => intro _ x hx; cases hx
      | cons a l ih =>
        intro h x hx
        by_cases g : (a == 45) = true
        · rw [List.dropWhile_cons_of_pos (by exact g)] at h
          rcases List.mem_cons.1 hx with rfl | hx
          · exact g
          · exact ih h x hx
        · rw [List.dropWhile_cons_of_neg (by exact g)] at h
          exact h x (by rw [List.mem_reverse]; exact hx)
    intro x hx
    exact key s.reverse h x (by simpa using hx)
  · intro h x hx
    rw [List.all_eq_true] at h
    exact h x (by
      have := (List.dropWhile_sublist (p := (· == 45)) (l := s.reverse)).mem (List.mem_reverse.1 hx)
      simpa using this)

theorem ev_dashes (K : Cx) (h41 : K41 K) (s : BS) (hs : s.length ≤ 2000000) : runFun K f31 [.d false (.str s)] [] = some (.d false (.bool (dsh s)), [], []) := by
  unfold dsh
  by_cases g : 2 ≤ s.length
  · have hne : s ≠ [] := by intro h; subst h; simp at g
    have h := h41 s hne hs
    have e := dsh_trim s
    clear hne
    by_cases g2 : s.all (· == 45) = true
    · have e' : (trL 45 (trR 45 s) = []) = True := eq_true (e.2 g2)
      clear e
      simp (disch := first | decide | omega | (simp only [LN]; omega) | (simp only [LN]; done) | fail) only [SV, f31, Nat.zero_add, Bool.and_self, beq_self_eq_true, evLen, evBin, intBin, decide_true, if_true, V.own, V.own1, Bool.or_self, V.new, V.new1, D.flat, Bool.or_true, V.flatV, V.flat1, Bool.not_true, Bool.and_false, Bool.false_and, view, viewD, h, Bool.false_eq_true, if_false, strBin, e', V.refs, oneOr, finV, finA, finC, g, g2]
    · have e' : (trL 45 (trR 45 s) = []) = False := eq_false (fun x => g2 (e.1 x))
      rw [Bool.not_eq_true] at g2
      clear e
      simp (disch := first | decide | omega | (simp only [LN]; omega) | (simp only [LN]; done) | fail) only [SV, f31, Nat.zero_add, Bool.and_self, beq_self_eq_true, evLen, evBin, intBin, decide_true, if_true, V.own, V.own1, Bool.or_self, V.new, V.new1, D.flat, Bool.or_true, V.flatV, V.flat1, Bool.not_true, Bool.and_false, Bool.false_and, view, viewD, h, Bool.false_eq_true, if_false, strBin, e', decide_false, V.refs, oneOr, finV, finA, finC, g, g2]
  · simp (disch := first | decide | omega | (simp only [LN]; omega) | (simp only [LN]; done) | fail) only [SV, f31, Nat.zero_add, Bool.and_self, beq_self_eq_true, evLen, evBin, intBin, decide_false, if_true, V.own, V.own1, Bool.or_self, V.new, V.new1, D.flat, Bool.or_true, V.flatV, V.flat1, Bool.not_true, Bool.and_false, Bool.false_and, view, viewD, V.refs, decide_true, oneOr, Bool.false_eq_true, if_false, finV, finA, finC, g]

def comOut (i : Nat) : Option Nat → Ex × S
  | some n => (.ret, ⟨[(4, .d false (.int .i64 ((i + n : Nat) : Int)))], [], 0, []⟩)
  | none => (.exit 0, ⟨[], [], 0, []⟩)
theorem comOut_map (i k : Nat) (o : Option Nat) : comOut i (o.map (· + k)) = comOut (i + k) o := by
  cases o with
  | none => rfl
  | some n => simp only [comOut, Option.map_some]; rw [show i + (n + k) = i + k + n from by omega]
theorem comOut_some (i n : Nat) : comOut i (some n) = (.ret, ⟨[(4, .d false (.int .i64 ((i + n : Nat) : Int)))], [], 0, []⟩) := rfl

theorem com_loop (K : Cx) (s : BS) (hs : s.length ≤ 2000000) : ∀ (k i : Nat) (d : Int), i + k = s.length → -2000000 ≤ d + (k : Int) ∧ d ≤ i ∧ -i ≤ d →
    lp K 0 [0, 1, 5] f29_L0 ⟨[(0, .d false (.str s)), (1, .d false (.int .i64 i)), (5, .d false (.int .i64 d))], [], 0, []⟩ = some (comOut i (comL d (s.drop i))) := by
  intro k
  induction k using Nat.strongRecOn with
  | ind k ih =>
    intro i d hi hd
    match k, hi, hd, ih with
    | 0, hi, hd, ih =>
      have e : s.drop i = [] := by rw [List.drop_eq_nil_iff]; omega
      rw [e]
      simp only [comL, comOut]
      rw [lp_un f29_L0.eq_1]
      simp (disch := first | decide | omega | (simp only [LN]; omega) | (simp only [LN]; done) | fail) only [SV, Nat.reduceBEq, beq_self_eq_true, evBin, intBin, if_true, evLen, decide_false, decide_true, Bool.and_self]
    | 1, hi, hd, ih =>
      have hlt : i < s.length := by omega
      have e : s.drop i = [s[i]] := by rw [List.drop_eq_getElem_cons hlt, List.drop_eq_nil_iff.2 (by omega)]
      rw [e]
      simp only [comL, comOut]
      rw [lp_un f29_L0.eq_1]
      simp (disch := first | decide | omega | (simp only [LN]; omega) | (simp only [LN]; done) | fail) only [SV, Nat.reduceBEq, beq_self_eq_true, evBin, intBin, if_true, evLen, decide_false, decide_true, Bool.and_self]
    | k + 2, hi, hd, ih =>
      have hlt : i < s.length := by omega
      have hlt2 : i + 1 < s.length := by omega
      have e : s.drop i = s[i] :: s[i + 1] :: s.drop (i + 2) := by rw [List.drop_eq_getElem_cons hlt, List.drop_eq_getElem_cons hlt2]
      have e1 : s.drop (i + 1) = s[i + 1] :: s.drop (i + 2) := List.drop_eq_getElem_cons hlt2
      have hc := cut_slh [] s i (i + 2) (by omega) (by omega)
      have et : (s.drop i).take (i + 2 - i) = [s[i], s[i + 1]] := by
        rw [e, show i + 2 - i = 2 from by omega]; rfl
      rw [et] at hc
      have ih1 := ih (k + 1) (by omega) (i + 1) d (by omega) (by omega)
      have ih2 := ih k (by omega) (i + 2) (d + 1) (by omega) (by omega)
      have ih3 := ih k (by omega) (i + 2) (d - 1) (by omega) (by omega)
      rw [e1] at ih1
      rw [e]
      clear e e1 et ih
      generalize s[i] = x at hc ih1 ⊢
      generalize s[i + 1] = y at hc ih1 ⊢
      simp only [comL]
      rw [lp_un f29_L0.eq_1]
      have u1 : ([x, y] = ([123, 45] : BS)) = (x = 123 ∧ y = 45) := by simp
      have u2 : ([x, y] = ([45, 125] : BS)) = (x = 45 ∧ y = 125) := by simp
      by_cases g : x = 123 ∧ y = 45
      · rw [if_pos g, comOut_map]
        have e1 : ([x, y] = ([123, 45] : BS)) = True := by rw [u1]; exact eq_true g
        clear u1 u2 g
        simp (disch := first | decide | omega | (simp only [LN]; omega) | (simp only [LN]; done) | fail) only [SV, Nat.reduceBEq, beq_self_eq_true, evBin, intBin, if_true, evLen, decide_true, e_cut, cast2, o4_some, hc, strBin, e1, V.refs, Bool.and_self]
        exact ih2
      · rw [if_neg g]
        have e1 : ([x, y] = ([123, 45] : BS)) = False := by rw [u1]; exact eq_false g
        by_cases g2 : x = 45 ∧ y = 125
        · rw [if_pos g2]
          have e2 : ([x, y] = ([45, 125] : BS)) = True := by rw [u2]; exact eq_true g2
          clear u1 u2 g g2
          by_cases g3 : d - 1 = 0
          · rw [if_pos g3, comOut_some]
            clear ih1 ih2 ih3
            simp (disch := first | decide | omega | (simp only [LN]; omega) | (simp only [LN]; done) | fail) only [SV, Nat.reduceBEq, beq_self_eq_true, evBin, intBin, if_true, evLen, decide_true, e_cut, cast2, o4_some, hc, strBin, e1, decide_false, e2, g3, V.refs, Bool.and_self]
          · rw [if_neg g3, comOut_map]
            clear ih1 ih2
            simp (disch := first | decide | omega | (simp only [LN]; omega) | (simp only [LN]; done) | fail) only [SV, Nat.reduceBEq, beq_self_eq_true, evBin, intBin, if_true, evLen, decide_true, e_cut, cast2, o4_some, hc, strBin, e1, decide_false, e2, V.refs, Bool.and_self]
            exact ih3
        · rw [if_neg g2, comOut_map]
          have e2 : ([x, y] = ([45, 125] : BS)) = False := by rw [u2]; exact eq_false g2
          clear u1 u2 g g2 ih2 ih3
          simp (disch := first | decide | omega | (simp only [LN]; omega) | (simp only [LN]; done) | fail) only [SV, Nat.reduceBEq, beq_self_eq_true, evBin, intBin, cast1, if_true, evLen, decide_true, e_cut, cast2, o4_some, hc, strBin, e1, decide_false, e2, V.refs, Bool.and_self]
          exact ih1

theorem ev_comment (K : Cx) (s : BS) (i : Nat) (hi : i ≤ s.length) (hs : s.length ≤ 2000000) : runFun K f29 [.d false (.str s), .d false (.int .i64 i)] [] = some (.d false (.int .i64 (match comL 0 (s.drop i) with | some n => ((i + n : Nat) : Int) | none => -1)), [], []) := by
  have h := com_loop K s hs (s.length - i) i 0 (by omega) (by omega)
  cases g : comL 0 (s.drop i) with
  | none =>
    rw [g] at h
    simp only [comOut] at h
    simp (disch := first | decide | omega | (simp only [LN]; omega) | (simp only [LN]; done) | fail) only [SV, f29, Int.reduceNeg, Nat.zero_add, Nat.reduceAdd, Bool.and_self, beq_self_eq_true, Nat.reduceBEq, V.refs, decide_true, if_true, h, oneOr, Bool.false_eq_true, if_false, finV, finA, finC]
  | some n =>
    rw [g] at h
    simp only [comOut] at h
    simp (disch := first | decide | omega | (simp only [LN]; omega) | (simp only [LN]; done) | fail) only [SV, f29, Int.reduceNeg, Nat.zero_add, Nat.reduceAdd, Bool.and_self, beq_self_eq_true, Nat.reduceBEq, V.refs, decide_true, if_true, h, oneOr, Bool.false_eq_true, if_false, finV, finA, finC]
end Go.Vm
end

section
namespace Go.Proofs
open Go.Shelf
def Tryd.lays170_ren : Go.Shelf.Ren := ⟨fun | 170 => 23 | n => n, fun | 70 => 48 | 3 => 3 | 0 => 0 | 72 => 50 | 37 => 46 | 5 => 5 | n => n, fun | n => n⟩
theorem Tryd.lays170 : Go.Proofs.Lays.n170 Tryd.prog Tryd.lays170_ren := {
  mixed := by kernel_rfl
  f170 := Tryd.func23.trans (congrArg some (by kernel_rfl))
  t0 := Tryd.underlying0
  a0 := Tryd.isAgg0
  z0 := Tryd.sizeOf0
  v0 := Tryd.zeroValue0
  t3 := Tryd.underlying3
  a3 := Tryd.isAgg3
  z3 := Tryd.sizeOf3
  v3 := Tryd.zeroValue3
  t37 := Tryd.underlying46
  a37 := Tryd.isAgg46
  z37 := Tryd.sizeOf46
  v37 := Tryd.zeroValue46
  t70 := Tryd.underlying48
  a70 := Tryd.isAgg48
  z70 := Tryd.sizeOf48
  v70 := Tryd.zeroValue48
  t72 := Tryd.underlying50
  a72 := Tryd.isAgg50
  z72 := Tryd.sizeOf50
  v72 := Tryd.zeroValue50 }
open Go.RowKit in
theorem Tryd.Builder_Len (B b : Nat) (bs : List Value) (w : World) (h : Lib.IsBuilder 50 5 B b bs w) :
    Calls Tryd.prog 23 #[.pointer (some ⟨b, 0, none⟩)] w fun e w' => e = .returned (.int .i64 bs.length) ∧ w' = w := Any.Builder_Len Tryd.lays170 B b bs w h
def Tryd.lays169_ren : Go.Shelf.Ren := ⟨fun | 169 => 26 | n => n, fun | 70 => 48 | 9 => 9 | 0 => 0 | 72 => 50 | 37 => 46 | 127 => 70 | 3 => 3 | 5 => 5 | n => n, fun | n => n⟩
theorem Tryd.lays169 : Go.Proofs.Lays.n169 Tryd.prog Tryd.lays169_ren := {
  mixed := by kernel_rfl
  f169 := Tryd.func26.trans (congrArg some (by kernel_rfl))
  t0 := Tryd.underlying0
  a0 := Tryd.isAgg0
  z0 := Tryd.sizeOf0
  v0 := Tryd.zeroValue0
  t3 := Tryd.underlying3
  a3 := Tryd.isAgg3
  z3 := Tryd.sizeOf3
  v3 := Tryd.zeroValue3
  t9 := Tryd.underlying9
  a9 := Tryd.isAgg9
  z9 := Tryd.sizeOf9
  v9 := Tryd.zeroValue9
  t37 := Tryd.underlying46
  a37 := Tryd.isAgg46
  z37 := Tryd.sizeOf46
  v37 := Tryd.zeroValue46
  t70 := Tryd.underlying48
  a70 := Tryd.isAgg48
  z70 := Tryd.sizeOf48
  v70 := Tryd.zeroValue48
  t72 := Tryd.underlying50
  a72 := Tryd.isAgg50
  z72 := Tryd.sizeOf50
  v72 := Tryd.zeroValue50
  t127 := Tryd.underlying70
  a127 := Tryd.isAgg70
  z127 := Tryd.sizeOf70
  v127 := Tryd.zeroValue70 }
theorem Tryd.Builder_Extra_169 : Builder.Extra Tryd.prog Tryd.lays169_ren := {
  sizeBuilder := by kernel_rfl
  liesBuilder := by kernel_rfl
  t5 := Tryd.underlying5
  a5 := Tryd.isAgg5
  z5 := Tryd.sizeOf5
  v5 := Tryd.zeroValue5
  infoByte := by kernel_rfl
  cellsByte := by kernel_rfl
  sizeByte := by kernel_rfl
  neB5 := by decide }
open Go.RowKit in
theorem Tryd.Builder_String (B b : Nat) (l : List UInt8) (w : World) (h : Lib.IsBuilder 50 5 B b (Lib.byteCells l) w) (h0 : l ≠ []) :
    Calls Tryd.prog 26 #[.pointer (some ⟨b, 0, none⟩)] w fun e w' => e = .returned (.string ⟨l.toArray⟩) ∧ Below B w w' := Any.Builder_String Tryd.lays169 Tryd.Builder_Extra_169 B b l w h h0
open Go.RowKit in
theorem Tryd.Builder_String_empty (B b : Nat) (w : World) (h : Lib.IsBuilder 50 5 B b [] w) (hBw : B ≤ w.heap.size) :
    Calls Tryd.prog 26 #[.pointer (some ⟨b, 0, none⟩)] w fun e w' => e = .returned (.string ⟨#[]⟩) ∧ Below B w w' := Any.Builder_String_empty Tryd.lays169 Tryd.Builder_Extra_169 B b w h hBw
open Go.RowKit in
theorem Tryd.Builder_String_any (B b : Nat) (l : List UInt8) (w : World) (h : Lib.IsBuilder 50 5 B b (Lib.byteCells l) w) (hBw : B ≤ w.heap.size) :
    Calls Tryd.prog 26 #[.pointer (some ⟨b, 0, none⟩)] w fun e w' => e = .returned (.string ⟨l.toArray⟩) ∧ Below B w w' := Any.Builder_String_any Tryd.lays169 Tryd.Builder_Extra_169 B b l w h hBw
def Tryd.lays137_ren : Go.Shelf.Ren := ⟨fun | 137 => 85 | 217 => 94 | 266 => 104 | n => n, fun | 9 => 9 | 5 => 5 | 3 => 3 | n => n, fun | n => n⟩
theorem Tryd.lays137 : Go.Proofs.Lays.n137 Tryd.prog Tryd.lays137_ren := {
  mixed := by kernel_rfl
  f137 := Tryd.func85.trans (congrArg some (by kernel_rfl))
  f217 := Tryd.func94.trans (congrArg some (by kernel_rfl))
  f266 := Tryd.func104.trans (congrArg some (by kernel_rfl))
  t3 := Tryd.underlying3
  a3 := Tryd.isAgg3
  z3 := Tryd.sizeOf3
  v3 := Tryd.zeroValue3
  t5 := Tryd.underlying5
  a5 := Tryd.isAgg5
  z5 := Tryd.sizeOf5
  v5 := Tryd.zeroValue5
  t9 := Tryd.underlying9
  a9 := Tryd.isAgg9
  z9 := Tryd.sizeOf9
  v9 := Tryd.zeroValue9 }
open Go.RowKit in
theorem Tryd.strings_IndexByte (s : ByteArray) (c : Int) (w : World) :
    Calls Tryd.prog 85 #[.string s, .int .u8 c] w fun e w' => e = .returned (.int .i64 (Lib.indexByte s.data.toList c.toNat.toUInt8)) ∧ w' = w := Any.strings_IndexByte Tryd.lays137 s c w
def Tryd.laysM246_ren : Go.Shelf.Ren := ⟨fun | 246 => 80 | 283 => 87 | 284 => 88 | 285 => 89 | 286 => 90 | 129 => 97 | 317 => 96 | 318 => 98 | 319 => 99 | 320 => 100 | 337 => 105 | 338 => 106 | n => n, fun | 2 => 2 | 3 => 3 | 9 => 9 | 4 => 4 | 171 => 121 | 0 => 0 | 53 => 122 | 37 => 46 | 5 => 5 | 173 => 125 | 212 => 130 | 51 => 131 | 20 => 20 | 213 => 132 | 46 => 134 | 232 => 143 | 233 => 144 | n => n, fun | 17 => 2 | 18 => 6 | 19 => 7 | n => n⟩
theorem Tryd.laysM246 : Go.Proofs.LaysM.n246 Tryd.prog Tryd.laysM246_ren := {
  mixed := by kernel_rfl
  f129 := Tryd.func97.trans (congrArg some (by kernel_rfl))
  f246 := Tryd.func80.trans (congrArg some (by kernel_rfl))
  f283 := Tryd.func87.trans (congrArg some (by kernel_rfl))
  f284 := Tryd.func88.trans (congrArg some (by kernel_rfl))
  f285 := Tryd.func89.trans (congrArg some (by kernel_rfl))
  f286 := Tryd.func90.trans (congrArg some (by kernel_rfl))
  f317 := Tryd.func96.trans (congrArg some (by kernel_rfl))
  f318 := Tryd.func98.trans (congrArg some (by kernel_rfl))
  f319 := Tryd.func99.trans (congrArg some (by kernel_rfl))
  f320 := Tryd.func100.trans (congrArg some (by kernel_rfl))
  f337 := Tryd.func105.trans (congrArg some (by kernel_rfl))
  f338 := Tryd.func106.trans (congrArg some (by kernel_rfl))
  t0 := Tryd.underlying0
  a0 := Tryd.isAgg0
  z0 := Tryd.sizeOf0
  v0 := Tryd.zeroValue0
  t2 := Tryd.underlying2
  a2 := Tryd.isAgg2
  z2 := Tryd.sizeOf2
  v2 := Tryd.zeroValue2
  t3 := Tryd.underlying3
  a3 := Tryd.isAgg3
  z3 := Tryd.sizeOf3
  v3 := Tryd.zeroValue3
  t4 := Tryd.underlying4
  a4 := Tryd.isAgg4
  z4 := Tryd.sizeOf4
  v4 := Tryd.zeroValue4
  t5 := Tryd.underlying5
  a5 := Tryd.isAgg5
  z5 := Tryd.sizeOf5
  v5 := Tryd.zeroValue5
  t9 := Tryd.underlying9
  a9 := Tryd.isAgg9
  z9 := Tryd.sizeOf9
  v9 := Tryd.zeroValue9
  t20 := Tryd.underlying20
  a20 := Tryd.isAgg20
  z20 := Tryd.sizeOf20
  v20 := Tryd.zeroValue20
  t37 := Tryd.underlying46
  a37 := Tryd.isAgg46
  z37 := Tryd.sizeOf46
  v37 := Tryd.zeroValue46
  t46 := Tryd.underlying134
  a46 := Tryd.isAgg134
  z46 := Tryd.sizeOf134
  v46 := Tryd.zeroValue134
  t51 := Tryd.underlying131
  a51 := Tryd.isAgg131
  z51 := Tryd.sizeOf131
  v51 := Tryd.zeroValue131
  t53 := Tryd.underlying122
  a53 := Tryd.isAgg122
  z53 := Tryd.sizeOf122
  v53 := Tryd.zeroValue122
  t171 := Tryd.underlying121
  a171 := Tryd.isAgg121
  z171 := Tryd.sizeOf121
  v171 := Tryd.zeroValue121
  t173 := Tryd.underlying125
  a173 := Tryd.isAgg125
  z173 := Tryd.sizeOf125
  v173 := Tryd.zeroValue125
  t212 := Tryd.underlying130
  a212 := Tryd.isAgg130
  z212 := Tryd.sizeOf130
  v212 := Tryd.zeroValue130
  t213 := Tryd.underlying132
  a213 := Tryd.isAgg132
  z213 := Tryd.sizeOf132
  t232 := Tryd.underlying143
  a232 := Tryd.isAgg143
  z232 := Tryd.sizeOf143
  v232 := Tryd.zeroValue143
  t233 := Tryd.underlying144
  a233 := Tryd.isAgg144
  z233 := Tryd.sizeOf144
  v233 := Tryd.zeroValue144
  g17 := by kernel_rfl
  g18 := by kernel_rfl
  g19 := by kernel_rfl
  i0 := by kernel_rfl
  i2 := by kernel_rfl
  i3 := by kernel_rfl
  i4 := by kernel_rfl
  i5 := by kernel_rfl
  i9 := by kernel_rfl
  i20 := by kernel_rfl
  i37 := by kernel_rfl
  i46 := by kernel_rfl
  i51 := by kernel_rfl
  i53 := by kernel_rfl
  i171 := by kernel_rfl
  i173 := by kernel_rfl
  i212 := by kernel_rfl
  i232 := by kernel_rfl
  i233 := by kernel_rfl
  m17 := by kernel_rfl
  m18 := by kernel_rfl
  m19 := by kernel_rfl }
open Go.RowKit Go.Sort Go.Lib in
theorem Tryd.internal_strconv_FormatInt_10 (n : Int) (h0 : -9223372036854775808 ≤ n) (h1 : n ≤ 9223372036854775807) (w : World) (htab : Lib.TabIs Tryd.prog w "internal/strconv.uint64pow10" .u64 Lib.pow10Tab) :
    Calls Tryd.prog 80 #[.int .i64 n, .int .i64 10] w fun e w' => e = .returned (.string ⟨(Lib.itoa n).toArray⟩) ∧ ∃ k os, w' = grow (w.drewN k) os := Any.internal_strconv_FormatInt_10 Tryd.laysM246 n h0 h1 w htab
def Tryd.lays246_ren : Go.Shelf.Ren := ⟨fun | 246 => 80 | 283 => 87 | 284 => 88 | 285 => 89 | 286 => 90 | 129 => 97 | 317 => 96 | 318 => 98 | 319 => 99 | 320 => 100 | 337 => 105 | 338 => 106 | n => n, fun | 2 => 2 | 3 => 3 | 9 => 9 | 4 => 4 | 171 => 121 | 0 => 0 | 53 => 122 | 37 => 46 | 5 => 5 | 173 => 125 | 212 => 130 | 51 => 131 | 20 => 20 | 213 => 132 | 46 => 134 | 232 => 143 | 233 => 144 | n => n, fun | 17 => 2 | 18 => 6 | 19 => 7 | n => n⟩
theorem Tryd.lays246 : Go.Proofs.Lays.n246 Tryd.prog Tryd.lays246_ren := {
  mixed := by kernel_rfl
  f129 := Tryd.func97.trans (congrArg some (by kernel_rfl))
  f246 := Tryd.func80.trans (congrArg some (by kernel_rfl))
  f283 := Tryd.func87.trans (congrArg some (by kernel_rfl))
  f284 := Tryd.func88.trans (congrArg some (by kernel_rfl))
  f285 := Tryd.func89.trans (congrArg some (by kernel_rfl))
  f286 := Tryd.func90.trans (congrArg some (by kernel_rfl))
  f317 := Tryd.func96.trans (congrArg some (by kernel_rfl))
  f318 := Tryd.func98.trans (congrArg some (by kernel_rfl))
  f319 := Tryd.func99.trans (congrArg some (by kernel_rfl))
  f320 := Tryd.func100.trans (congrArg some (by kernel_rfl))
  f337 := Tryd.func105.trans (congrArg some (by kernel_rfl))
  f338 := Tryd.func106.trans (congrArg some (by kernel_rfl))
  t0 := Tryd.underlying0
  a0 := Tryd.isAgg0
  z0 := Tryd.sizeOf0
  v0 := Tryd.zeroValue0
  t2 := Tryd.underlying2
  a2 := Tryd.isAgg2
  z2 := Tryd.sizeOf2
  v2 := Tryd.zeroValue2
  t3 := Tryd.underlying3
  a3 := Tryd.isAgg3
  z3 := Tryd.sizeOf3
  v3 := Tryd.zeroValue3
  t4 := Tryd.underlying4
  a4 := Tryd.isAgg4
  z4 := Tryd.sizeOf4
  v4 := Tryd.zeroValue4
  t5 := Tryd.underlying5
  a5 := Tryd.isAgg5
  z5 := Tryd.sizeOf5
  v5 := Tryd.zeroValue5
  t9 := Tryd.underlying9
  a9 := Tryd.isAgg9
  z9 := Tryd.sizeOf9
  v9 := Tryd.zeroValue9
  t20 := Tryd.underlying20
  a20 := Tryd.isAgg20
  z20 := Tryd.sizeOf20
  v20 := Tryd.zeroValue20
  t37 := Tryd.underlying46
  a37 := Tryd.isAgg46
  z37 := Tryd.sizeOf46
  v37 := Tryd.zeroValue46
  t46 := Tryd.underlying134
  a46 := Tryd.isAgg134
  z46 := Tryd.sizeOf134
  v46 := Tryd.zeroValue134
  t51 := Tryd.underlying131
  a51 := Tryd.isAgg131
  z51 := Tryd.sizeOf131
  v51 := Tryd.zeroValue131
  t53 := Tryd.underlying122
  a53 := Tryd.isAgg122
  z53 := Tryd.sizeOf122
  v53 := Tryd.zeroValue122
  t171 := Tryd.underlying121
  a171 := Tryd.isAgg121
  z171 := Tryd.sizeOf121
  v171 := Tryd.zeroValue121
  t173 := Tryd.underlying125
  a173 := Tryd.isAgg125
  z173 := Tryd.sizeOf125
  v173 := Tryd.zeroValue125
  t212 := Tryd.underlying130
  a212 := Tryd.isAgg130
  z212 := Tryd.sizeOf130
  v212 := Tryd.zeroValue130
  t213 := Tryd.underlying132
  a213 := Tryd.isAgg132
  z213 := Tryd.sizeOf132
  t232 := Tryd.underlying143
  a232 := Tryd.isAgg143
  z232 := Tryd.sizeOf143
  v232 := Tryd.zeroValue143
  t233 := Tryd.underlying144
  a233 := Tryd.isAgg144
  z233 := Tryd.sizeOf144
  v233 := Tryd.zeroValue144
  g17 := by kernel_rfl
  g18 := by kernel_rfl
  g19 := by kernel_rfl }
open Go.RowKit Go.Sort Go.Lib in
theorem Tryd.internal_strconv_FormatInt_10_small (i : Nat) (hi : i < 100) (w : World) :
    Calls Tryd.prog 80 #[.int .i64 i, .int .i64 10] w fun e w' => e = .returned (.string ⟨(Lib.decDigits i).toArray⟩) ∧ w' = w := Any.internal_strconv_FormatInt_10_small Tryd.lays246 i hi w
def Tryd.laysM243_ren : Go.Shelf.Ren := ⟨fun | 243 => 60 | 246 => 80 | 283 => 87 | 284 => 88 | 285 => 89 | 286 => 90 | 129 => 97 | 317 => 96 | 318 => 98 | 319 => 99 | 320 => 100 | 337 => 105 | 338 => 106 | n => n, fun | 3 => 3 | 9 => 9 | 2 => 2 | 4 => 4 | 171 => 121 | 0 => 0 | 53 => 122 | 37 => 46 | 5 => 5 | 173 => 125 | 212 => 130 | 51 => 131 | 20 => 20 | 213 => 132 | 46 => 134 | 232 => 143 | 233 => 144 | n => n, fun | 17 => 2 | 18 => 6 | 19 => 7 | n => n⟩
theorem Tryd.laysM243 : Go.Proofs.LaysM.n243 Tryd.prog Tryd.laysM243_ren := {
  mixed := by kernel_rfl
  f129 := Tryd.func97.trans (congrArg some (by kernel_rfl))
  f243 := Tryd.func60.trans (congrArg some (by kernel_rfl))
  f246 := Tryd.func80.trans (congrArg some (by kernel_rfl))
  f283 := Tryd.func87.trans (congrArg some (by kernel_rfl))
  f284 := Tryd.func88.trans (congrArg some (by kernel_rfl))
  f285 := Tryd.func89.trans (congrArg some (by kernel_rfl))
  f286 := Tryd.func90.trans (congrArg some (by kernel_rfl))
  f317 := Tryd.func96.trans (congrArg some (by kernel_rfl))
  f318 := Tryd.func98.trans (congrArg some (by kernel_rfl))
  f319 := Tryd.func99.trans (congrArg some (by kernel_rfl))
  f320 := Tryd.func100.trans (congrArg some (by kernel_rfl))
  f337 := Tryd.func105.trans (congrArg some (by kernel_rfl))
  f338 := Tryd.func106.trans (congrArg some (by kernel_rfl))
  t0 := Tryd.underlying0
  a0 := Tryd.isAgg0
  z0 := Tryd.sizeOf0
  v0 := Tryd.zeroValue0
  t2 := Tryd.underlying2
  a2 := Tryd.isAgg2
  z2 := Tryd.sizeOf2
  v2 := Tryd.zeroValue2
  t3 := Tryd.underlying3
  a3 := Tryd.isAgg3
  z3 := Tryd.sizeOf3
  v3 := Tryd.zeroValue3
  t4 := Tryd.underlying4
  a4 := Tryd.isAgg4
  z4 := Tryd.sizeOf4
  v4 := Tryd.zeroValue4
  t5 := Tryd.underlying5
  a5 := Tryd.isAgg5
  z5 := Tryd.sizeOf5
  v5 := Tryd.zeroValue5
  t9 := Tryd.underlying9
  a9 := Tryd.isAgg9
  z9 := Tryd.sizeOf9
  v9 := Tryd.zeroValue9
  t20 := Tryd.underlying20
  a20 := Tryd.isAgg20
  z20 := Tryd.sizeOf20
  v20 := Tryd.zeroValue20
  t37 := Tryd.underlying46
  a37 := Tryd.isAgg46
  z37 := Tryd.sizeOf46
  v37 := Tryd.zeroValue46
  t46 := Tryd.underlying134
  a46 := Tryd.isAgg134
  z46 := Tryd.sizeOf134
  v46 := Tryd.zeroValue134
  t51 := Tryd.underlying131
  a51 := Tryd.isAgg131
  z51 := Tryd.sizeOf131
  v51 := Tryd.zeroValue131
  t53 := Tryd.underlying122
  a53 := Tryd.isAgg122
  z53 := Tryd.sizeOf122
  v53 := Tryd.zeroValue122
  t171 := Tryd.underlying121
  a171 := Tryd.isAgg121
  z171 := Tryd.sizeOf121
  v171 := Tryd.zeroValue121
  t173 := Tryd.underlying125
  a173 := Tryd.isAgg125
  z173 := Tryd.sizeOf125
  v173 := Tryd.zeroValue125
  t212 := Tryd.underlying130
  a212 := Tryd.isAgg130
  z212 := Tryd.sizeOf130
  v212 := Tryd.zeroValue130
  t213 := Tryd.underlying132
  a213 := Tryd.isAgg132
  z213 := Tryd.sizeOf132
  t232 := Tryd.underlying143
  a232 := Tryd.isAgg143
  z232 := Tryd.sizeOf143
  v232 := Tryd.zeroValue143
  t233 := Tryd.underlying144
  a233 := Tryd.isAgg144
  z233 := Tryd.sizeOf144
  v233 := Tryd.zeroValue144
  g17 := by kernel_rfl
  g18 := by kernel_rfl
  g19 := by kernel_rfl
  i0 := by kernel_rfl
  i2 := by kernel_rfl
  i3 := by kernel_rfl
  i4 := by kernel_rfl
  i5 := by kernel_rfl
  i9 := by kernel_rfl
  i20 := by kernel_rfl
  i37 := by kernel_rfl
  i46 := by kernel_rfl
  i51 := by kernel_rfl
  i53 := by kernel_rfl
  i171 := by kernel_rfl
  i173 := by kernel_rfl
  i212 := by kernel_rfl
  i232 := by kernel_rfl
  i233 := by kernel_rfl
  m17 := by kernel_rfl
  m18 := by kernel_rfl
  m19 := by kernel_rfl }
open Go.RowKit Go.Sort Go.Lib in
theorem Tryd.internal_strconv_Itoa (n : Int) (h0 : -9223372036854775808 ≤ n) (h1 : n ≤ 9223372036854775807) (w : World) (htab : Lib.TabIs Tryd.prog w "internal/strconv.uint64pow10" .u64 Lib.pow10Tab) :
    Calls Tryd.prog 60 #[.int .i64 n] w fun e w' => e = .returned (.string ⟨(Lib.itoa n).toArray⟩) ∧ ∃ k os, w' = grow (w.drewN k) os := Any.internal_strconv_Itoa Tryd.laysM243 n h0 h1 w htab
def Tryd.lays243_ren : Go.Shelf.Ren := ⟨fun | 243 => 60 | 246 => 80 | 283 => 87 | 284 => 88 | 285 => 89 | 286 => 90 | 129 => 97 | 317 => 96 | 318 => 98 | 319 => 99 | 320 => 100 | 337 => 105 | 338 => 106 | n => n, fun | 3 => 3 | 9 => 9 | 2 => 2 | 4 => 4 | 171 => 121 | 0 => 0 | 53 => 122 | 37 => 46 | 5 => 5 | 173 => 125 | 212 => 130 | 51 => 131 | 20 => 20 | 213 => 132 | 46 => 134 | 232 => 143 | 233 => 144 | n => n, fun | 17 => 2 | 18 => 6 | 19 => 7 | n => n⟩
theorem Tryd.lays243 : Go.Proofs.Lays.n243 Tryd.prog Tryd.lays243_ren := {
  mixed := by kernel_rfl
  f129 := Tryd.func97.trans (congrArg some (by kernel_rfl))
  f243 := Tryd.func60.trans (congrArg some (by kernel_rfl))
  f246 := Tryd.func80.trans (congrArg some (by kernel_rfl))
  f283 := Tryd.func87.trans (congrArg some (by kernel_rfl))
  f284 := Tryd.func88.trans (congrArg some (by kernel_rfl))
  f285 := Tryd.func89.trans (congrArg some (by kernel_rfl))
  f286 := Tryd.func90.trans (congrArg some (by kernel_rfl))
  f317 := Tryd.func96.trans (congrArg some (by kernel_rfl))
  f318 := Tryd.func98.trans (congrArg some (by kernel_rfl))
  f319 := Tryd.func99.trans (congrArg some (by kernel_rfl))
  f320 := Tryd.func100.trans (congrArg some (by kernel_rfl))
  f337 := Tryd.func105.trans (congrArg some (by kernel_rfl))
  f338 := Tryd.func106.trans (congrArg some (by kernel_rfl))
  t0 := Tryd.underlying0
  a0 := Tryd.isAgg0
  z0 := Tryd.sizeOf0
  v0 := Tryd.zeroValue0
  t2 := Tryd.underlying2
  a2 := Tryd.isAgg2
  z2 := Tryd.sizeOf2
  v2 := Tryd.zeroValue2
  t3 := Tryd.underlying3
  a3 := Tryd.isAgg3
  z3 := Tryd.sizeOf3
  v3 := Tryd.zeroValue3
  t4 := Tryd.underlying4
  a4 := Tryd.isAgg4
  z4 := Tryd.sizeOf4
  v4 := Tryd.zeroValue4
  t5 := Tryd.underlying5
  a5 := Tryd.isAgg5
  z5 := Tryd.sizeOf5
  v5 := Tryd.zeroValue5
  t9 := Tryd.underlying9
  a9 := Tryd.isAgg9
  z9 := Tryd.sizeOf9
  v9 := Tryd.zeroValue9
  t20 := Tryd.underlying20
  a20 := Tryd.isAgg20
  z20 := Tryd.sizeOf20
  v20 := Tryd.zeroValue20
  t37 := Tryd.underlying46
  a37 := Tryd.isAgg46
  z37 := Tryd.sizeOf46
  v37 := Tryd.zeroValue46
  t46 := Tryd.underlying134
  a46 := Tryd.isAgg134
  z46 := Tryd.sizeOf134
  v46 := Tryd.zeroValue134
  t51 := Tryd.underlying131
  a51 := Tryd.isAgg131
  z51 := Tryd.sizeOf131
  v51 := Tryd.zeroValue131
  t53 := Tryd.underlying122
  a53 := Tryd.isAgg122
  z53 := Tryd.sizeOf122
  v53 := Tryd.zeroValue122
  t171 := Tryd.underlying121
  a171 := Tryd.isAgg121
  z171 := Tryd.sizeOf121
  v171 := Tryd.zeroValue121
  t173 := Tryd.underlying125
  a173 := Tryd.isAgg125
  z173 := Tryd.sizeOf125
  v173 := Tryd.zeroValue125
  t212 := Tryd.underlying130
  a212 := Tryd.isAgg130
  z212 := Tryd.sizeOf130
  v212 := Tryd.zeroValue130
  t213 := Tryd.underlying132
  a213 := Tryd.isAgg132
  z213 := Tryd.sizeOf132
  t232 := Tryd.underlying143
  a232 := Tryd.isAgg143
  z232 := Tryd.sizeOf143
  v232 := Tryd.zeroValue143
  t233 := Tryd.underlying144
  a233 := Tryd.isAgg144
  z233 := Tryd.sizeOf144
  v233 := Tryd.zeroValue144
  g17 := by kernel_rfl
  g18 := by kernel_rfl
  g19 := by kernel_rfl }
open Go.RowKit Go.Sort Go.Lib in
theorem Tryd.internal_strconv_Itoa_small (i : Nat) (hi : i < 100) (w : World) :
    Calls Tryd.prog 60 #[.int .i64 i] w fun e w' => e = .returned (.string ⟨(Lib.decDigits i).toArray⟩) ∧ w' = w := Any.internal_strconv_Itoa_small Tryd.lays243 i hi w
def Tryd.laysM171_ren : Go.Shelf.Ren := ⟨fun | 171 => 38 | 243 => 60 | 246 => 80 | 283 => 87 | 284 => 88 | 285 => 89 | 286 => 90 | 129 => 97 | 317 => 96 | 318 => 98 | 319 => 99 | 320 => 100 | 337 => 105 | 338 => 106 | n => n, fun | 3 => 3 | 9 => 9 | 2 => 2 | 4 => 4 | 171 => 121 | 0 => 0 | 53 => 122 | 37 => 46 | 5 => 5 | 173 => 125 | 212 => 130 | 51 => 131 | 20 => 20 | 213 => 132 | 46 => 134 | 232 => 143 | 233 => 144 | n => n, fun | 17 => 2 | 18 => 6 | 19 => 7 | n => n⟩
theorem Tryd.laysM171 : Go.Proofs.LaysM.n171 Tryd.prog Tryd.laysM171_ren := {
  mixed := by kernel_rfl
  f129 := Tryd.func97.trans (congrArg some (by kernel_rfl))
  f171 := Tryd.func38.trans (congrArg some (by kernel_rfl))
  f243 := Tryd.func60.trans (congrArg some (by kernel_rfl))
  f246 := Tryd.func80.trans (congrArg some (by kernel_rfl))
  f283 := Tryd.func87.trans (congrArg some (by kernel_rfl))
  f284 := Tryd.func88.trans (congrArg some (by kernel_rfl))
  f285 := Tryd.func89.trans (congrArg some (by kernel_rfl))
  f286 := Tryd.func90.trans (congrArg some (by kernel_rfl))
  f317 := Tryd.func96.trans (congrArg some (by kernel_rfl))
  f318 := Tryd.func98.trans (congrArg some (by kernel_rfl))
  f319 := Tryd.func99.trans (congrArg some (by kernel_rfl))
  f320 := Tryd.func100.trans (congrArg some (by kernel_rfl))
  f337 := Tryd.func105.trans (congrArg some (by kernel_rfl))
  f338 := Tryd.func106.trans (congrArg some (by kernel_rfl))
  t0 := Tryd.underlying0
  a0 := Tryd.isAgg0
  z0 := Tryd.sizeOf0
  v0 := Tryd.zeroValue0
  t2 := Tryd.underlying2
  a2 := Tryd.isAgg2
  z2 := Tryd.sizeOf2
  v2 := Tryd.zeroValue2
  t3 := Tryd.underlying3
  a3 := Tryd.isAgg3
  z3 := Tryd.sizeOf3
  v3 := Tryd.zeroValue3
  t4 := Tryd.underlying4
  a4 := Tryd.isAgg4
  z4 := Tryd.sizeOf4
  v4 := Tryd.zeroValue4
  t5 := Tryd.underlying5
  a5 := Tryd.isAgg5
  z5 := Tryd.sizeOf5
  v5 := Tryd.zeroValue5
  t9 := Tryd.underlying9
  a9 := Tryd.isAgg9
  z9 := Tryd.sizeOf9
  v9 := Tryd.zeroValue9
  t20 := Tryd.underlying20
  a20 := Tryd.isAgg20
  z20 := Tryd.sizeOf20
  v20 := Tryd.zeroValue20
  t37 := Tryd.underlying46
  a37 := Tryd.isAgg46
  z37 := Tryd.sizeOf46
  v37 := Tryd.zeroValue46
  t46 := Tryd.underlying134
  a46 := Tryd.isAgg134
  z46 := Tryd.sizeOf134
  v46 := Tryd.zeroValue134
  t51 := Tryd.underlying131
  a51 := Tryd.isAgg131
  z51 := Tryd.sizeOf131
  v51 := Tryd.zeroValue131
  t53 := Tryd.underlying122
  a53 := Tryd.isAgg122
  z53 := Tryd.sizeOf122
  v53 := Tryd.zeroValue122
  t171 := Tryd.underlying121
  a171 := Tryd.isAgg121
  z171 := Tryd.sizeOf121
  v171 := Tryd.zeroValue121
  t173 := Tryd.underlying125
  a173 := Tryd.isAgg125
  z173 := Tryd.sizeOf125
  v173 := Tryd.zeroValue125
  t212 := Tryd.underlying130
  a212 := Tryd.isAgg130
  z212 := Tryd.sizeOf130
  v212 := Tryd.zeroValue130
  t213 := Tryd.underlying132
  a213 := Tryd.isAgg132
  z213 := Tryd.sizeOf132
  t232 := Tryd.underlying143
  a232 := Tryd.isAgg143
  z232 := Tryd.sizeOf143
  v232 := Tryd.zeroValue143
  t233 := Tryd.underlying144
  a233 := Tryd.isAgg144
  z233 := Tryd.sizeOf144
  v233 := Tryd.zeroValue144
  g17 := by kernel_rfl
  g18 := by kernel_rfl
  g19 := by kernel_rfl
  i0 := by kernel_rfl
  i2 := by kernel_rfl
  i3 := by kernel_rfl
  i4 := by kernel_rfl
  i5 := by kernel_rfl
  i9 := by kernel_rfl
  i20 := by kernel_rfl
  i37 := by kernel_rfl
  i46 := by kernel_rfl
  i51 := by kernel_rfl
  i53 := by kernel_rfl
  i171 := by kernel_rfl
  i173 := by kernel_rfl
  i212 := by kernel_rfl
  i232 := by kernel_rfl
  i233 := by kernel_rfl
  m17 := by kernel_rfl
  m18 := by kernel_rfl
  m19 := by kernel_rfl }
open Go.RowKit Go.Sort Go.Lib in
theorem Tryd.strconv_Itoa (n : Int) (h0 : -9223372036854775808 ≤ n) (h1 : n ≤ 9223372036854775807) (w : World) (htab : Lib.TabIs Tryd.prog w "internal/strconv.uint64pow10" .u64 Lib.pow10Tab) :
    Calls Tryd.prog 38 #[.int .i64 n] w fun e w' => e = .returned (.string ⟨(Lib.itoa n).toArray⟩) ∧ ∃ k os, w' = grow (w.drewN k) os := Any.strconv_Itoa Tryd.laysM171 n h0 h1 w htab
def Tryd.lays171_ren : Go.Shelf.Ren := ⟨fun | 171 => 38 | 243 => 60 | 246 => 80 | 283 => 87 | 284 => 88 | 285 => 89 | 286 => 90 | 129 => 97 | 317 => 96 | 318 => 98 | 319 => 99 | 320 => 100 | 337 => 105 | 338 => 106 | n => n, fun | 3 => 3 | 9 => 9 | 2 => 2 | 4 => 4 | 171 => 121 | 0 => 0 | 53 => 122 | 37 => 46 | 5 => 5 | 173 => 125 | 212 => 130 | 51 => 131 | 20 => 20 | 213 => 132 | 46 => 134 | 232 => 143 | 233 => 144 | n => n, fun | 17 => 2 | 18 => 6 | 19 => 7 | n => n⟩
theorem Tryd.lays171 : Go.Proofs.Lays.n171 Tryd.prog Tryd.lays171_ren := {
  mixed := by kernel_rfl
  f129 := Tryd.func97.trans (congrArg some (by kernel_rfl))
  f171 := Tryd.func38.trans (congrArg some (by kernel_rfl))
  f243 := Tryd.func60.trans (congrArg some (by kernel_rfl))
  f246 := Tryd.func80.trans (congrArg some (by kernel_rfl))
  f283 := Tryd.func87.trans (congrArg some (by kernel_rfl))
  f284 := Tryd.func88.trans (congrArg some (by kernel_rfl))
  f285 := Tryd.func89.trans (congrArg some (by kernel_rfl))
  f286 := Tryd.func90.trans (congrArg some (by kernel_rfl))
  f317 := Tryd.func96.trans (congrArg some (by kernel_rfl))
  f318 := Tryd.func98.trans (congrArg some (by kernel_rfl))
  f319 := Tryd.func99.trans (congrArg some (by kernel_rfl))
  f320 := Tryd.func100.trans (congrArg some (by kernel_rfl))
  f337 := Tryd.func105.trans (congrArg some (by kernel_rfl))
  f338 := Tryd.func106.trans (congrArg some (by kernel_rfl))
  t0 := Tryd.underlying0
  a0 := Tryd.isAgg0
  z0 := Tryd.sizeOf0
  v0 := Tryd.zeroValue0
  t2 := Tryd.underlying2
  a2 := Tryd.isAgg2
  z2 := Tryd.sizeOf2
  v2 := Tryd.zeroValue2
  t3 := Tryd.underlying3
  a3 := Tryd.isAgg3
  z3 := Tryd.sizeOf3
  v3 := Tryd.zeroValue3
  t4 := Tryd.underlying4
  a4 := Tryd.isAgg4
  z4 := Tryd.sizeOf4
  v4 := Tryd.zeroValue4
  t5 := Tryd.underlying5
  a5 := Tryd.isAgg5
  z5 := Tryd.sizeOf5
  v5 := Tryd.zeroValue5
  t9 := Tryd.underlying9
  a9 := Tryd.isAgg9
  z9 := Tryd.sizeOf9
  v9 := Tryd.zeroValue9
  t20 := Tryd.underlying20
  a20 := Tryd.isAgg20
  z20 := Tryd.sizeOf20
  v20 := Tryd.zeroValue20
  t37 := Tryd.underlying46
  a37 := Tryd.isAgg46
  z37 := Tryd.sizeOf46
  v37 := Tryd.zeroValue46
  t46 := Tryd.underlying134
  a46 := Tryd.isAgg134
  z46 := Tryd.sizeOf134
  v46 := Tryd.zeroValue134
  t51 := Tryd.underlying131
  a51 := Tryd.isAgg131
  z51 := Tryd.sizeOf131
  v51 := Tryd.zeroValue131
  t53 := Tryd.underlying122
  a53 := Tryd.isAgg122
  z53 := Tryd.sizeOf122
  v53 := Tryd.zeroValue122
  t171 := Tryd.underlying121
  a171 := Tryd.isAgg121
  z171 := Tryd.sizeOf121
  v171 := Tryd.zeroValue121
  t173 := Tryd.underlying125
  a173 := Tryd.isAgg125
  z173 := Tryd.sizeOf125
  v173 := Tryd.zeroValue125
  t212 := Tryd.underlying130
  a212 := Tryd.isAgg130
  z212 := Tryd.sizeOf130
  v212 := Tryd.zeroValue130
  t213 := Tryd.underlying132
  a213 := Tryd.isAgg132
  z213 := Tryd.sizeOf132
  t232 := Tryd.underlying143
  a232 := Tryd.isAgg143
  z232 := Tryd.sizeOf143
  v232 := Tryd.zeroValue143
  t233 := Tryd.underlying144
  a233 := Tryd.isAgg144
  z233 := Tryd.sizeOf144
  v233 := Tryd.zeroValue144
  g17 := by kernel_rfl
  g18 := by kernel_rfl
  g19 := by kernel_rfl }
open Go.RowKit Go.Sort Go.Lib in
theorem Tryd.strconv_Itoa_small (i : Nat) (hi : i < 100) (w : World) :
    Calls Tryd.prog 38 #[.int .i64 i] w fun e w' => e = .returned (.string ⟨(Lib.decDigits i).toArray⟩) ∧ w' = w := Any.strconv_Itoa_small Tryd.lays171 i hi w
end Go.Proofs
end

section
set_option linter.unusedVariables false
namespace Go.Vm
open Go.RowKit Go.Shelf Go.Proofs

set_option maxHeartbeats 2000000 in
set_option maxRecDepth 100000 in
theorem tB_used (b : Nat) (w : World) (h0 : w.cell? ⟨b, 0, none⟩ = some (.pointer (some ⟨b, 0, none⟩))) :
    Calls Tryd.prog 37 #[.pointer (some ⟨b, 0, none⟩)] w fun e w' => e = .returned (.tuple #[]) ∧ w' = w := by
  obtain ⟨j, hj, _⟩ := Option.map_eq_some_iff.1 Tryd.Builder_Extra_169.sizeBuilder
  have mixed : Tryd.prog.follows .mixedOrders = true := by kernel_rfl
  have t72 := Tryd.underlying50; have a72 := Tryd.isAgg50; have z72 := Tryd.sizeOf50; have v72 := Tryd.zeroValue50; have u72 := Tryd.runUnderlying50
  have t70 := Tryd.underlying48; have a70 := Tryd.isAgg48; have z70 := Tryd.sizeOf48; have v70 := Tryd.zeroValue48; have u70 := Tryd.runUnderlying48
  have t9 := Tryd.underlying9; have a9 := Tryd.isAgg9; have z9 := Tryd.sizeOf9; have v9 := Tryd.zeroValue9; have u9 := Tryd.runUnderlying9
  have t4 := Tryd.underlying4; have a4 := Tryd.isAgg4; have z4 := Tryd.sizeOf4; have v4 := Tryd.zeroValue4; have u4 := Tryd.runUnderlying4
  have t164 := Tryd.underlying76; have a164 := Tryd.isAgg76; have z164 := Tryd.sizeOf76; have v164 := Tryd.zeroValue76; have u164 := Tryd.runUnderlying76
  go_enter Tryd.func37, Tryd.ntmps37
  go_wp2
  rw [Lib.run_neq_ptr_same w _ Tryd.underlying48 hj]
  go_wp2
  go_end0
  exact ⟨rfl, rfl⟩

set_option maxHeartbeats 2000000 in
set_option maxRecDepth 100000 in
theorem tB_fresh (b : Nat) (w : World) (h0 : w.cell? ⟨b, 0, none⟩ = some (.pointer none)) (hsh : w.shape? b = some (50, 2)) (hfz : w.frozen? ⟨b, 0, none⟩ = false) :
    Calls Tryd.prog 37 #[.pointer (some ⟨b, 0, none⟩)] w fun e w' => e = .returned (.tuple #[]) ∧ w' = w.setCell ⟨b, 0, none⟩ (.pointer (some ⟨b, 0, none⟩)) := by
  obtain ⟨j, hj, hjs⟩ := Option.map_eq_some_iff.1 Tryd.Builder_Extra_169.sizeBuilder
  have mixed : Tryd.prog.follows .mixedOrders = true := by kernel_rfl
  have t72 := Tryd.underlying50; have a72 := Tryd.isAgg50; have z72 := Tryd.sizeOf50; have v72 := Tryd.zeroValue50; have u72 := Tryd.runUnderlying50
  have t70 := Tryd.underlying48; have a70 := Tryd.isAgg48; have z70 := Tryd.sizeOf48; have v70 := Tryd.zeroValue48; have u70 := Tryd.runUnderlying48
  have t9 := Tryd.underlying9; have a9 := Tryd.isAgg9; have z9 := Tryd.sizeOf9; have v9 := Tryd.zeroValue9; have u9 := Tryd.runUnderlying9
  have t4 := Tryd.underlying4; have a4 := Tryd.isAgg4; have z4 := Tryd.sizeOf4; have v4 := Tryd.zeroValue4; have u4 := Tryd.runUnderlying4
  have t164 := Tryd.underlying76; have a164 := Tryd.isAgg76; have z164 := Tryd.sizeOf76; have v164 := Tryd.zeroValue76; have u164 := Tryd.runUnderlying76
  go_enter Tryd.func37, Tryd.ntmps37
  go_wp2
  rw [Lib.run_to_unsafe w ⟨b, 0, none⟩ Tryd.underlying48 Tryd.underlying76 hj (by rw [hjs]; decide) hsh (Nat.zero_lt_succ 1)]
  simp only [Result.andThen]
  rw [Oper.upon_value]
  go_wp2
  rw [run_callFunc_extern Tryd.func59 (by kernel_rfl) (by kernel_rfl) (by kernel_rfl) (e := Extern.AbiNoEscape.same) (by kernel_rfl)]
  rw [Lib.run_noEscape]
  simp only [Result.andThen]
  rw [Oper.upon_value]
  go_wp2
  rw [Lib.run_from_unsafe w ⟨b, 0, none⟩ Tryd.underlying76 Tryd.underlying48 hj hsh Tryd.Builder_Extra_169.liesBuilder]
  simp only [Result.andThen]
  rw [Oper.upon_value]
  go_wp2
  go_end0
  exact ⟨rfl, rfl⟩

theorem tB_copyCheck {w : World} {b : Nat} {p v : Value} {bs : List Value} (h : BAt 50 5 w b p v bs) :
    Calls Tryd.prog 37 #[.pointer (some ⟨b, 0, none⟩)] w fun e w' => e = .returned (.tuple #[]) ∧ BAt 50 5 w' b (.pointer (some ⟨b, 0, none⟩)) v bs ∧ w'.os = w.os ∧ w'.tape = w.tape ∧ w'.output = w.output ∧ SizeEq w' w ∧ ∀ k, k ≠ b → w'.heap[k]? = w.heap[k]? := by
  rcases h.hp with rfl | rfl
  · have hA : Lib.BuilderAtF 50 5 0 b (.pointer none) bs w := ⟨Nat.zero_le _, v, h.hb, h.own, h.ne⟩
    refine (tB_fresh b w hA.cell0 hA.shape hA.frozen0).mono ?_
    rintro e w' ⟨rfl, rfl⟩
    refine ⟨rfl, ⟨.inr rfl, ?_, ?_, h.ne⟩, rfl, rfl, rfl, by simp [SizeEq], fun k hk => Below.heap_setCell _ _ _ _ hk⟩
    · have := h.hb
      simp [World.setCell, Array.getElem?_modify, this]
    · exact h.own.kept (row := some b) ⟨rfl, rfl, rfl, by simp [World.setCell], fun k _ hk => Below.heap_setCell _ _ _ _ (fun e => hk (by simp [e]))⟩ (Or.inr h.ne)
  · have hA : Lib.BuilderAtF 50 5 0 b (.pointer (some ⟨b, 0, none⟩)) bs w := ⟨Nat.zero_le _, v, h.hb, h.own, h.ne⟩
    refine (tB_used b w hA.cell0).mono ?_
    rintro e w' ⟨rfl, rfl⟩
    exact ⟨rfl, h, rfl, rfl, rfl, rfl, fun _ _ => rfl⟩

set_option maxHeartbeats 2000000 in
set_option maxRecDepth 100000 in
theorem tB_WriteByte {w : World} {b : Nat} {p v : Value} {bs : List Value} (h : BAt 50 5 w b p v bs) (c : Int) (hlen : bs.length + 1 ≤ 140737488355328) :
    Calls Tryd.prog 22 #[.pointer (some ⟨b, 0, none⟩), .int .u8 c] w fun e w' => e = .returned .nilIface ∧ ∃ v', BAt 50 5 w' b (.pointer (some ⟨b, 0, none⟩)) v' (bs ++ [.int .u8 c]) ∧ Kept w w' b v v' := by
  obtain ⟨i0, hi, hz0, hz1, hz2⟩ := info_parts (show (Tryd.prog.info? 5).map (fun i => (i.zero, i.size, i.bytes)) = some (some (.int .u8 0), 1, 1) from Tryd.Builder_Extra_169.infoByte)
  have mixed : Tryd.prog.follows .mixedOrders = true := by kernel_rfl
  have t72 := Tryd.underlying50; have a72 := Tryd.isAgg50; have z72 := Tryd.sizeOf50; have v72 := Tryd.zeroValue50; have u72 := Tryd.runUnderlying50
  have t70 := Tryd.underlying48; have a70 := Tryd.isAgg48; have z70 := Tryd.sizeOf48; have v70 := Tryd.zeroValue48; have u70 := Tryd.runUnderlying48
  have t5 := Tryd.underlying5; have a5 := Tryd.isAgg5; have z5 := Tryd.sizeOf5; have v5 := Tryd.zeroValue5; have u5 := Tryd.runUnderlying5
  have t37 := Tryd.underlying46; have a37 := Tryd.isAgg46; have z37 := Tryd.sizeOf46; have v37 := Tryd.zeroValue46; have u37 := Tryd.runUnderlying46
  have t9 := Tryd.underlying9; have a9 := Tryd.isAgg9; have z9 := Tryd.sizeOf9; have v9 := Tryd.zeroValue9; have u9 := Tryd.runUnderlying9
  have t4 := Tryd.underlying4; have a4 := Tryd.isAgg4; have z4 := Tryd.sizeOf4; have v4 := Tryd.zeroValue4; have u4 := Tryd.runUnderlying4
  have t164 := Tryd.underlying76; have a164 := Tryd.isAgg76; have z164 := Tryd.sizeOf76; have v164 := Tryd.zeroValue76; have u164 := Tryd.runUnderlying76
  have e240 : ∀ args w, (callFunc 37 args).run Tryd.prog w = .ok (.enter 37 args) w := enters_of Tryd.func37 (by kernel_rfl) rfl
  go_enter Tryd.func22, Tryd.ntmps22
  go_wp2_with (go_at_fn 37; refine (tB_copyCheck h).mono ?_)
  rintro e w1 ⟨rfl, h1, o1, o2, o3, hsz1, hold1⟩
  obtain ⟨_, hbk, hown, hne⟩ := h1
  have c0 : w1.cell? ⟨b, 0, none⟩ = some (.pointer (some ⟨b, 0, none⟩)) := by rw [Lib.cell_of_heap hbk]; rfl
  have c1 : w1.cell? ⟨b, 1, none⟩ = some v := by rw [Lib.cell_of_heap hbk]; rfl
  go_wp2_with (at_builtin; refine wp_append_ownX rfl _ _ 46 rfl 5 i0 Tryd.underlying46 hi hz0 hz1 hz2 _ _ _ rfl (hown.alloc _) ⟨w1.heap.size, 0, none⟩ 1 1 [.int .u8 c] rfl rfl ?c1 ?c2 ?c3 ?c4 ?_)
  case c1 =>
    intro j u hj
    match j, hj with
    | 0, hj => simp at hj; subst hj; simp [Addr.add]
  case c2 => intro u hu; simp at hu; subst hu; rfl
  case c3 => unfold maxLen; omega
  case c4 => omega
  intro v' w2 hown' hgrow _ hsame
  have hlt : b < w1.heap.size := by
    rcases Nat.lt_or_ge b w1.heap.size with h' | h'
    · exact h'
    · simp [Array.getElem?_eq_none h'] at hbk
  have hb2 : w2.heap[b]? = some (.cells #[.pointer (some ⟨b, 0, none⟩), v] 50 (0, 0)) := by
    rw [hgrow.block b (by simp; omega) (fun e => hne e.symm), Lib.alloc_old w1 _ b hlt]
    exact hbk
  have d0 : w2.cell? ⟨b, 0, none⟩ = some (.pointer (some ⟨b, 0, none⟩)) := by rw [Lib.cell_of_heap hb2]; rfl
  have d1 : w2.cell? ⟨b, 1, none⟩ = some v := by rw [Lib.cell_of_heap hb2]; rfl
  have f1 : w2.frozen? ⟨b, 1, none⟩ = false := Lib.frozen_of_heap hb2 1
  obtain ⟨g, cap, rfl⟩ : ∃ g cap, v' = .slice (some ⟨g, 0, none⟩) (bs.length + 1) cap := by
    rcases hown'.2 with ⟨_, h0⟩ | ⟨g, cap, cur, fz, hv, _⟩
    · omega
    · exact ⟨g, cap, hv⟩
  go_wp2
  go_ret
  refine ⟨rfl, _, bld_put (by decide : (50 : TypeId) ≠ 5) (w := w) (w1 := w1.alloc (.cells #[.int .u8 c] 5)) (.inr (by simp [hsz1.eq])) ⟨o1, o2, o3⟩ (fun k hk hkb => by rw [Lib.alloc_old w1 _ k (by rw [hsz1.eq]; exact hk)]; exact hold1 k hkb) hb2 hgrow (by simpa using hown') hsame (fun g hg => (h.own.lt g hg).2)⟩

set_option maxHeartbeats 2000000 in
set_option maxRecDepth 100000 in
theorem tB_WriteString {w : World} {b : Nat} {p v : Value} {bs : List Value} (h : BAt 50 5 w b p v bs) (s : ByteArray) (hlen : bs.length + s.size ≤ 140737488355328) :
    Calls Tryd.prog 24 #[.pointer (some ⟨b, 0, none⟩), .string s] w fun e w' => e = .returned (.tuple #[.int .i64 s.size, .nilIface]) ∧ ∃ v', BAt 50 5 w' b (.pointer (some ⟨b, 0, none⟩)) v' (bs ++ Lib.strCells s) ∧ Kept w w' b v v' ∧ (v = .slice none 0 0 → s.size = 0 → v' = .slice none 0 0) := by
  obtain ⟨i0, hi, hz0, hz1, hz2⟩ := info_parts (show (Tryd.prog.info? 5).map (fun i => (i.zero, i.size, i.bytes)) = some (some (.int .u8 0), 1, 1) from Tryd.Builder_Extra_169.infoByte)
  have mixed : Tryd.prog.follows .mixedOrders = true := by kernel_rfl
  have t72 := Tryd.underlying50; have a72 := Tryd.isAgg50; have z72 := Tryd.sizeOf50; have v72 := Tryd.zeroValue50; have u72 := Tryd.runUnderlying50
  have t70 := Tryd.underlying48; have a70 := Tryd.isAgg48; have z70 := Tryd.sizeOf48; have v70 := Tryd.zeroValue48; have u70 := Tryd.runUnderlying48
  have t37 := Tryd.underlying46; have a37 := Tryd.isAgg46; have z37 := Tryd.sizeOf46; have v37 := Tryd.zeroValue46; have u37 := Tryd.runUnderlying46
  have t3 := Tryd.underlying3; have a3 := Tryd.isAgg3; have z3 := Tryd.sizeOf3; have v3 := Tryd.zeroValue3; have u3 := Tryd.runUnderlying3
  have t9 := Tryd.underlying9; have a9 := Tryd.isAgg9; have z9 := Tryd.sizeOf9; have v9 := Tryd.zeroValue9; have u9 := Tryd.runUnderlying9
  have t4 := Tryd.underlying4; have a4 := Tryd.isAgg4; have z4 := Tryd.sizeOf4; have v4 := Tryd.zeroValue4; have u4 := Tryd.runUnderlying4
  have t164 := Tryd.underlying76; have a164 := Tryd.isAgg76; have z164 := Tryd.sizeOf76; have v164 := Tryd.zeroValue76; have u164 := Tryd.runUnderlying76
  have t5 := Tryd.underlying5; have a5 := Tryd.isAgg5; have z5 := Tryd.sizeOf5; have v5 := Tryd.zeroValue5; have u5 := Tryd.runUnderlying5
  have e240 : ∀ args w, (callFunc 37 args).run Tryd.prog w = .ok (.enter 37 args) w := enters_of Tryd.func37 (by kernel_rfl) rfl
  go_enter Tryd.func24, Tryd.ntmps24
  go_wp2_with (go_at_fn 37; refine (tB_copyCheck h).mono ?_)
  rintro e w1 ⟨rfl, h1, o1, o2, o3, hsz1, hold1⟩
  obtain ⟨_, hbk, hown, hne⟩ := h1
  have c0 : w1.cell? ⟨b, 0, none⟩ = some (.pointer (some ⟨b, 0, none⟩)) := by rw [Lib.cell_of_heap hbk]; rfl
  have c1 : w1.cell? ⟨b, 1, none⟩ = some v := by rw [Lib.cell_of_heap hbk]; rfl
  go_wp2_with (at_builtin; refine wp_append_own_strX rfl _ _ 46 9 rfl 5 i0 Tryd.underlying46 Tryd.underlying9 hi hz0 hz1 hz2 _ _ _ rfl hown s rfl ?c3 ?c4 ?_)
  case c3 => unfold maxLen; omega
  case c4 => omega
  intro v' w2 hown' hgrow hnil hsame
  have hlt : b < w1.heap.size := by
    rcases Nat.lt_or_ge b w1.heap.size with h' | h'
    · exact h'
    · simp [Array.getElem?_eq_none h'] at hbk
  have hb2 : w2.heap[b]? = some (.cells #[.pointer (some ⟨b, 0, none⟩), v] 50 (0, 0)) := by
    rw [hgrow.block b hlt (fun e => hne e.symm)]
    exact hbk
  have d0 : w2.cell? ⟨b, 0, none⟩ = some (.pointer (some ⟨b, 0, none⟩)) := by rw [Lib.cell_of_heap hb2]; rfl
  have d1 : w2.cell? ⟨b, 1, none⟩ = some v := by rw [Lib.cell_of_heap hb2]; rfl
  have f1 : w2.frozen? ⟨b, 1, none⟩ = false := Lib.frozen_of_heap hb2 1
  obtain ⟨ao, n', cap, rfl⟩ : ∃ ao n' cap, v' = .slice ao n' cap := by
    rcases hown'.2 with ⟨hv, _⟩ | ⟨g, cap, cur, fz, hv, _⟩
    · exact ⟨_, _, _, hv⟩
    · exact ⟨_, _, _, hv⟩
  go_wp2
  go_ret2
  have hp := bld_put (bs' := bs ++ Lib.strCells s) (by decide : (50 : TypeId) ≠ 5) (w := w) (.inl hsz1.eq) ⟨o1, o2, o3⟩ (fun k hk hkb => hold1 k hkb) hb2 hgrow (by simpa [Lib.strCells_length] using hown') hsame (fun g hg => (h.own.lt g hg).2)
  exact ⟨rfl, _, hp.1, hp.2, fun h1 h2 => hnil.2 ⟨h1, by
    obtain ⟨⟨l⟩⟩ := s
    cases l with
    | nil => rfl
    | cons a r => simp [ByteArray.size] at h2⟩⟩


theorem tB_wb : WbOk Tryd.prog 22 50 5 := fun h c hl => tB_WriteByte h c hl
theorem tB_ws : WsOk Tryd.prog 24 50 5 := fun h s hl => tB_WriteString h s hl
end Go.Vm
end

section
namespace Go.Vm

inductive St where
  | bad (e : Nat)
  | skip (k : Nat)
  | tok (kind : Nat) (text : BS) (num : Int) (len : Nat)
  deriving DecidableEq

structure Tok where
  kind : Int
  text : BS
  num : Int
  at_ : Int
  deriving DecidableEq

def numL (b : Int) : BS → Bool → Int → Bool × Int × Nat
  | [], g, n => (g, n, 0)
  | c :: r, g, n =>
    if 0 ≤ hexB c ∧ hexB c < b then
      (fun x : Bool × Int × Nat => (x.1, x.2.1, x.2.2 + 1)) (if (4611686018427387903 - hexB c) / b < n then numL b r true (hexB c) else numL b r g (n * b + hexB c))
    else (g, n, 0)
def hexP (r : BS) : Bool := decide (bAt r = 48) && decide (bAt (r.drop 1) = 120) && decide (0 ≤ hexL (r.drop 2))
def numS (r : BS) : St :=
  let o : Nat := if hexP r then 2 else 0
  let x := numL (if hexP r then 16 else 10) (r.drop o) false 0
  if x.1 = true ∨ (hexP r = false ∧ bAt (r.drop o) = 48 ∧ 1 < x.2.2) ∨ inNm (r.drop (o + x.2.2)) = true then .bad 11
  else .tok 6 [] x.2.1 (o + x.2.2)

def upS (r : BS) : Nat × Nat :=
  let e := nameL r
  if r.length ≤ e + 1 ∨ bAt (r.drop e) ≠ 46 then (2, e)
  else
    let r2 := r.drop (e + 1)
    if cls r2 = 1 then (if resv (r2.take (nameL r2)) then (2, e) else (3, e + 1 + nameL r2))
    else if cls r2 = 2 then (4, e + 1 + nameL r2)
    else (2, e)

def escD (r : BS) : Option (UInt8 × Nat) :=
  if cls (r.drop 1) = 3 ∧ cls (r.drop 2) = 3 ∧ cls (r.drop 3) = 3 then
    (if 255 < 100 * ((bAt (r.drop 1)).toNat - 48) + 10 * ((bAt (r.drop 2)).toNat - 48) + ((bAt (r.drop 3)).toNat - 48) then none
     else some (UInt8.ofNat (100 * ((bAt (r.drop 1)).toNat - 48) + 10 * ((bAt (r.drop 2)).toNat - 48) + ((bAt (r.drop 3)).toNat - 48)), 4))
  else none
def soundS (r : BS) (q : UInt8) : Option (UInt8 × Nat) :=
  if bAt r ≠ 92 then (if (bAt r).toNat < 32 ∨ 126 < (bAt r).toNat ∨ bAt r = q then none else some (bAt r, 1))
  else if bAt (r.drop 1) = 110 then some (10, 2)
  else if bAt (r.drop 1) = 116 then some (9, 2)
  else if bAt (r.drop 1) = 92 ∨ bAt (r.drop 1) = 39 ∨ bAt (r.drop 1) = 34 then some (bAt (r.drop 1), 2)
  else escD r

def quotL (q : UInt8) (r : BS) : Option (BS × Nat) :=
  match r with
  | [] => none
  | c :: r' =>
    if c = q then some ([], 0) else
      match soundS (c :: r') q with
      | none => none
      | some (x, k) => (quotL q (r'.drop (k - 1))).map fun y => (x :: y.1, k + y.2)
  termination_by r.length
  decreasing_by simp only [List.length_drop, List.length_cons]; omega

def quotS (r : BS) : St :=
  match quotL (bAt r) (r.drop 1) with
  | none => .bad 12
  | some (bs, k) => if bAt r = 34 then .tok 8 bs 0 (k + 2) else if bs.length = 1 then .tok 7 [] (bAt bs).toNat (k + 2) else .bad 12

def opS (r : BS) : St :=
  let x := r.take (runL 5 r)
  if isSg x then .tok 11 x 0 (runL 5 r)
  else if bAt x = 58 ∧ x ≠ [58] then .bad 14
  else .tok 5 x 0 (runL 5 r)

def tokS (r : BS) : St :=
  if cls r = 1 then .tok (if resv (r.take (nameL r)) then 10 else 1) (r.take (nameL r)) 0 (nameL r)
  else if cls r = 2 then .tok (upS r).1 (r.take (upS r).2) 0 (upS r).2
  else if cls r = 3 then numS r
  else if cls r = 5 then opS r
  else if cls r = 6 then .tok 9 (r.take 1) 0 1
  else if cls r = 4 then (if bAt r = 39 then quotS r else if inNm (r.drop 1) then .bad 10 else .tok 9 (r.take 1) 0 1)
  else if bAt r = 34 then quotS r else .bad 10

def nlL : BS → Nat
  | [] => 0
  | c :: r => if c = 10 then 0 else nlL r + 1

def stepS (r : BS) : St :=
  if cls r = 7 then .skip 1
  else if pre [123, 45] r then (match comL 0 r with | none => .bad 13 | some k => .skip k)
  else if dsh (r.take (runL 5 r)) then .skip (nlL r)
  else tokS r

inductive LR where
  | bad (e : Nat) (at_ : Nat)
  | ok (l : List Tok)
  deriving DecidableEq
def LR.cons (t : Tok) : LR → LR
  | .bad e i => .bad e i
  | .ok l => .ok (t :: l)

def lexS (r : BS) (i n : Nat) : LR :=
  match r with
  | [] => .ok []
  | c :: r' =>
    match stepS (c :: r') with
    | .bad e => .bad e i
    | .skip k => lexS (r'.drop (k - 1)) (i + k) n
    | .tok kd tx nm k => if n = 20000 then .bad 4 i else LR.cons ⟨kd, tx, nm, i⟩ (lexS (r'.drop (k - 1)) (i + k) (n + 1))
  termination_by r.length
  decreasing_by all_goals simp only [List.length_drop, List.length_cons]; omega

theorem u8all {p : UInt8 → Prop} (h : ∀ n : Nat, n < 256 → p (UInt8.ofNat n)) : ∀ c, p c := fun c => by
  have := h c.toNat c.toNat_lt
  rwa [UInt8.ofNat_toNat] at this
theorem clB_blank : ∀ w : UInt8, clB w = 7 → w = 9 ∨ w = 10 ∨ w = 13 ∨ w = 32 := u8all (by decide +kernel)
theorem cls_app {r : BS} (h : r ≠ []) (x : BS) : cls (r ++ x) = cls r := by
  cases r with
  | nil => exact absurd rfl h
  | cons c r => rfl
theorem bAt_app {r : BS} (h : r ≠ []) (x : BS) : bAt (r ++ x) = bAt r := by
  cases r with
  | nil => exact absurd rfl h
  | cons c r => rfl
theorem runL_app (k : Nat) {w : UInt8} (hw : clB w = 7) (hk : k ≠ 7) (b : BS) : ∀ r : BS, runL k (r ++ w :: b) = runL k r
  | [] => by simp only [List.nil_append, runL, hw]; rw [if_neg (by omega)]
  | c :: r => by simp only [List.cons_append, runL, runL_app k hw hk b r]
theorem inNm_blank {w : UInt8} (hw : clB w = 7) (b : BS) : inNm (w :: b) = false := by simp [inNm, cls, hw]
theorem inNm_app {w : UInt8} (hw : clB w = 7) (b r : BS) : inNm (r ++ w :: b) = inNm r := by
  cases r with
  | nil => rw [List.nil_append, inNm_blank hw]; rfl
  | cons c r => rfl
theorem nameL_app {w : UInt8} (hw : clB w = 7) (b : BS) : ∀ r : BS, nameL (r ++ w :: b) = nameL r
  | [] => by simp only [List.nil_append, nameL, inNm_blank hw]; rfl
  | c :: r => by
    simp only [List.cons_append, nameL, nameL_app hw b r]
    rfl
theorem runL_le (k : Nat) : ∀ r : BS, runL k r ≤ r.length
  | [] => Nat.le_refl _
  | c :: r => by
    have := runL_le k r
    simp only [runL, List.length_cons]
    split <;> omega
theorem nameL_le : ∀ r : BS, nameL r ≤ r.length
  | [] => Nat.le_refl _
  | c :: r => by
    have := nameL_le r
    simp only [nameL, List.length_cons]
    split <;> omega
theorem nlL_le : ∀ r : BS, nlL r ≤ r.length
  | [] => Nat.le_refl _
  | c :: r => by
    have := nlL_le r
    simp only [nlL, List.length_cons]
    split <;> omega
theorem take_app {k : Nat} {r : BS} (h : k ≤ r.length) (x : BS) : (r ++ x).take k = r.take k := by rw [List.take_append_of_le_length h]
theorem drop_app {k : Nat} {r : BS} (h : k ≤ r.length) (x : BS) : (r ++ x).drop k = r.drop k ++ x := by rw [List.drop_append_of_le_length h]
theorem hexB_blank : ∀ w : UInt8, clB w = 7 → hexB w = -1 := u8all (by decide +kernel)
theorem hexB_lt (c : UInt8) : hexB c < 16 := by
  unfold hexB
  split
  · omega
  · split <;> omega

theorem numL_app (b : Int) {w : UInt8} (hw : clB w = 7) (x : BS) : ∀ (r : BS) (g : Bool) (n : Int), numL b (r ++ w :: x) g n = numL b r g n
  | [], g, n => by
    simp only [List.nil_append, numL, hexB_blank w hw]
    rw [if_neg (by omega)]
  | c :: r, g, n => by simp only [List.cons_append, numL, numL_app b hw x r]
theorem numL_le (b : Int) : ∀ (r : BS) (g : Bool) (n : Int), (numL b r g n).2.2 ≤ r.length
  | [], g, n => Nat.le_refl _
  | c :: r, g, n => by
    have h1 := numL_le b r true (hexB c)
    have h2 := numL_le b r g (n * b + hexB c)
    simp only [numL, List.length_cons]
    split
    · split <;> simp only <;> omega
    · simp only; omega
theorem bAt_blank {w : UInt8} (hw : clB w = 7) (x r : BS) (c : UInt8) (hc : c ≠ 0) (hc2 : clB c ≠ 7) : (bAt (r ++ w :: x) = c) = (bAt r = c) := by
  cases r with
  | nil =>
    simp only [List.nil_append, bAt]
    apply propext
    constructor
    · intro h; subst h; exact absurd hw hc2
    · intro h; exact absurd h.symm hc
  | cons d r => rfl
theorem hexL_app {w : UInt8} (hw : clB w = 7) (x r : BS) : hexL (r ++ w :: x) = hexL r := by
  cases r with
  | nil => simp only [List.nil_append, hexL, bAt]; rw [hexB_blank w hw]; rfl
  | cons c r => rfl
theorem drop_gt {w : UInt8} {x r : BS} {k : Nat} (h : r.length < k) : (r ++ w :: x).drop k = x.drop (k - r.length - 1) := by
  rw [List.drop_append, List.drop_eq_nil_of_le (by omega), List.nil_append]
  obtain ⟨m, hm⟩ : ∃ m, k - r.length = m + 1 := ⟨k - r.length - 1, by omega⟩
  rw [hm, List.drop_succ_cons, Nat.add_sub_cancel]

theorem hexP_app {w : UInt8} (hw : clB w = 7) (x : BS) {r : BS} (h : r ≠ []) : hexP (r ++ w :: x) = hexP r := by
  match r, h with
  | [a], _ =>
    have h1 : w ≠ 120 := by rintro rfl; exact absurd hw (by decide)
    simp [hexP, bAt, h1]
  | a :: b :: r, _ =>
    unfold hexP
    have h2 : ((a :: b :: r) ++ w :: x).drop 2 = r ++ w :: x := rfl
    rw [h2, hexL_app hw]
    rfl
theorem hexP_len {r : BS} (h : hexP r = true) : 3 ≤ r.length := by
  unfold hexP at h
  simp only [Bool.and_eq_true, decide_eq_true_eq] at h
  obtain ⟨⟨_, h2⟩, h3⟩ := h
  match r, h2, h3 with
  | [], h2, _ => exact absurd h2 (by simp [bAt])
  | [_], h2, _ => exact absurd h2 (by simp [bAt])
  | [_, _], _, h3 => exact absurd h3 (show ¬ (0 ≤ hexB 0) by decide)
  | _ :: _ :: _ :: _, _, _ => simp
theorem numS_app {w : UInt8} (hw : clB w = 7) (x : BS) {r : BS} (h : r ≠ []) : numS (r ++ w :: x) = numS r := by
  have ho : (if hexP r = true then 2 else 0) ≤ r.length := by
    split
    · rename_i h; have := hexP_len h; omega
    · omega
  have hl : 1 ≤ r.length := by cases r with | nil => exact absurd rfl h | cons a b => simp
  unfold numS
  simp only [hexP_app hw x h]
  generalize hoo : (if hexP r = true then 2 else 0) = o at ho
  generalize (if hexP r = true then (16 : Int) else 10) = b
  rw [drop_app ho, numL_app b hw]
  have h2 := numL_le b (r.drop o) false 0
  rw [List.length_drop] at h2
  rw [drop_app (by omega), inNm_app hw]
  simp only [bAt_blank hw x (r.drop o) 48 (by decide) (by decide)]

theorem upS_app {w : UInt8} (hw : clB w = 7) (x : BS) (r : BS) : upS (r ++ w :: x) = upS r := by
  have hle := nameL_le r
  unfold upS
  simp only [nameL_app hw, List.length_append, List.length_cons]
  rw [drop_app hle]
  rcases Nat.lt_or_ge (nameL r + 1) r.length with h | h
  · rw [drop_app (by omega)]
    have hne : r.drop (nameL r) ≠ [] := by rw [ne_eq, List.drop_eq_nil_iff]; omega
    have hne2 : r.drop (nameL r + 1) ≠ [] := by rw [ne_eq, List.drop_eq_nil_iff]; omega
    rw [bAt_app hne, cls_app hne2, nameL_app hw, take_app (nameL_le _)]
    have e1 : (r.length + (x.length + 1) ≤ nameL r + 1) = False := eq_false (by omega)
    have e2 : (r.length ≤ nameL r + 1) = False := eq_false (by omega)
    simp only [e1, e2]
  · have e2 : (r.length ≤ nameL r + 1) = True := eq_true h
    simp only [e2, true_or, if_true]
    split
    · rfl
    · rename_i h4
      have hn : ¬ (nameL r + 1 > r.length) := by
        intro hgt
        have hnil : r.drop (nameL r) = [] := by rw [List.drop_eq_nil_iff]; omega
        rw [hnil, List.nil_append] at h4
        simp only [bAt] at h4
        have h5 : w = 46 := by
          apply Classical.byContradiction
          intro hc
          exact h4 (Or.inr hc)
        subst h5
        exact absurd hw (by decide)
      have heq : nameL r + 1 = r.length := by omega
      rw [heq, List.drop_left]
      have c7 : cls (w :: x) = 7 := hw
      rw [c7]
      simp

theorem cls3_len {r : BS} {k : Nat} (hk : cls (r.drop k) = 3) : k + 1 ≤ r.length := by
  apply Classical.byContradiction
  intro hc
  rw [List.drop_eq_nil_of_le (by omega)] at hk
  exact absurd hk (by decide)
theorem escD_app (x : BS) {r : BS} {y : UInt8 × Nat} (h : escD r = some y) : escD (r ++ x) = some y ∧ y.2 = 4 ∧ 4 ≤ r.length := by
  have hl : 4 ≤ r.length := by
    unfold escD at h
    split at h
    · rename_i h3; exact cls3_len h3.2.2
    · cases h
  have h4 : y.2 = 4 := by
    unfold escD at h
    split at h
    · split at h
      · cases h
      · rw [← Option.some.inj h]
    · cases h
  refine ⟨?_, h4, hl⟩
  match r, hl with
  | a :: b :: c :: d :: r, _ => exact h
theorem bAt_len {r : BS} {k : Nat} (hk : bAt (r.drop k) ≠ 0) : k + 1 ≤ r.length := by
  apply Classical.byContradiction
  intro hc
  apply hk
  rw [List.drop_eq_nil_of_le (by omega)]
  rfl
theorem soundS_app (x : BS) {r : BS} {q : UInt8} (h0 : r ≠ []) {y : UInt8 × Nat} (h : soundS r q = some y) : soundS (r ++ x) q = some y := by
  unfold soundS at h ⊢
  rw [bAt_app h0]
  by_cases h1 : bAt r ≠ 92
  · rw [if_pos h1] at h ⊢; exact h
  · rw [if_neg h1] at h ⊢
    by_cases h2 : 2 ≤ r.length
    · have e : bAt ((r ++ x).drop 1) = bAt (r.drop 1) := by
        rw [drop_app (by omega), bAt_app (by rw [ne_eq, List.drop_eq_nil_iff]; omega)]
      rw [e]
      split
      · rename_i h3; rw [if_pos h3] at h; exact h
      · rename_i h3
        rw [if_neg h3] at h
        split
        · rename_i h4; rw [if_pos h4] at h; exact h
        · rename_i h4
          rw [if_neg h4] at h
          split
          · rename_i h5; rw [if_pos h5] at h; exact h
          · rename_i h5
            rw [if_neg h5] at h
            exact (escD_app x h).1
    · exfalso
      have e : bAt (r.drop 1) = 0 := by rw [List.drop_eq_nil_of_le (by omega)]; rfl
      rw [e, if_neg (by decide), if_neg (by decide), if_neg (by decide)] at h
      have := (escD_app [] h).2.2
      omega
theorem soundS_len {r : BS} {q : UInt8} {y : UInt8 × Nat} (h : soundS r q = some y) : 1 ≤ y.2 ∧ y.2 ≤ r.length := by
  unfold soundS at h
  have h0 := bAt_len (r := r) (k := 0)
  rw [List.drop_zero] at h0
  have h1 := bAt_len (r := r) (k := 1)
  split at h
  · rename_i h2
    split at h
    · cases h
    · rename_i h3
      obtain rfl := Option.some.inj h
      refine ⟨Nat.le_refl _, h0 ?_⟩
      intro hz
      apply h3
      left
      rw [hz]; decide
  · split at h
    · rename_i h3
      obtain rfl := Option.some.inj h
      exact ⟨Nat.le_succ 1, h1 (by rw [h3]; decide)⟩
    · split at h
      · rename_i h3
        obtain rfl := Option.some.inj h
        exact ⟨Nat.le_succ 1, h1 (by rw [h3]; decide)⟩
      · split at h
        · rename_i h3
          obtain rfl := Option.some.inj h
          refine ⟨Nat.le_succ 1, h1 ?_⟩
          rcases h3 with h3 | h3 | h3 <;> (rw [h3]; decide)
        · obtain ⟨_, h4, h5⟩ := escD_app [] h
          omega
theorem drop_pred {c : UInt8} {r : BS} {k : Nat} (hk : 1 ≤ k) : r.drop (k - 1) = (c :: r).drop k := by
  obtain ⟨m, rfl⟩ : ∃ m, k = m + 1 := ⟨k - 1, by omega⟩
  rfl
theorem quotL_len (q : UInt8) : ∀ (n : Nat) (r : BS), r.length = n → ∀ y, quotL q r = some y → y.2 + 1 ≤ r.length := by
  intro n
  induction n using Nat.strongRecOn with
  | ind n ih =>
    intro r hr y h
    subst hr
    match r with
    | [] => rw [quotL] at h; cases h
    | c :: r' =>
      rw [quotL] at h
      split at h
      · obtain rfl := Option.some.inj h
        simp
      · split at h
        · cases h
        · rename_i a k hs
          have hk := soundS_len hs
          simp only at hk
          rw [Option.map_eq_some_iff] at h
          obtain ⟨z, hz, rfl⟩ := h
          have := ih _ (by simp only [List.length_drop, List.length_cons]; omega) (r'.drop (k - 1)) rfl z hz
          simp only [List.length_drop, List.length_cons] at this hk ⊢
          omega
theorem quotL_app (q : UInt8) {w : UInt8} (hw : clB w = 7) (x : BS) : ∀ (n : Nat) (r : BS), r.length = n → ∀ y, quotL q r = some y → quotL q (r ++ w :: x) = some y := by
  intro n
  induction n using Nat.strongRecOn with
  | ind n ih =>
    intro r hr y h
    subst hr
    match r with
    | [] => rw [quotL] at h; cases h
    | c :: r' =>
      rw [quotL] at h
      rw [List.cons_append, quotL]
      split
      · rename_i hc; rw [if_pos hc] at h; exact h
      · rename_i hc
        rw [if_neg hc] at h
        split at h
        · cases h
        · rename_i a k hs
          have hk := soundS_len hs
          simp only at hk
          have hs' := soundS_app (w :: x) (by simp) hs
          rw [List.cons_append] at hs'
          rw [hs']
          simp only
          rw [Option.map_eq_some_iff] at h ⊢
          obtain ⟨z, hz, rfl⟩ := h
          refine ⟨z, ?_, rfl⟩
          rw [drop_app (by simp only [List.length_cons] at hk; omega)]
          exact ih _ (by simp only [List.length_drop, List.length_cons]; omega) (r'.drop (k - 1)) rfl z hz

theorem tokS_app {w : UInt8} (hw : clB w = 7) (x : BS) {r : BS} (h0 : r ≠ []) {k : Nat} {t : BS} {m : Int} {n : Nat} (h : tokS r = .tok k t m n) : tokS (r ++ w :: x) = .tok k t m n := by
  have hl : 1 ≤ r.length := by cases r with | nil => exact absurd rfl h0 | cons a b => simp
  have quot : ∀ y, quotS r = y → (∀ e, y ≠ .bad e) → quotS (r ++ w :: x) = y := by
    intro y hy hb
    unfold quotS at hy ⊢
    rw [bAt_app h0, drop_app hl]
    split at hy
    · exact absurd hy.symm (hb 12)
    · rename_i bs k' hq
      rw [quotL_app _ hw x _ _ rfl _ hq]
      exact hy
  unfold tokS at h ⊢
  rw [cls_app h0, bAt_app h0]
  split
  · rename_i h1
    rw [if_pos h1] at h
    rw [nameL_app hw, take_app (nameL_le r)]
    exact h
  · rename_i h1
    rw [if_neg h1] at h
    split
    · rename_i h2
      rw [if_pos h2] at h
      rw [upS_app hw]
      have hle : (upS r).2 ≤ r.length := by
        unfold upS
        have a := nameL_le r
        have b := nameL_le (r.drop (nameL r + 1))
        rw [List.length_drop] at b
        simp only
        split
        · exact a
        · rename_i h3
          split
          · split
            · exact a
            · simp only; omega
          · split
            · simp only; omega
            · exact a
      rw [take_app hle]
      exact h
    · rename_i h2
      rw [if_neg h2] at h
      split
      · rename_i h3
        rw [if_pos h3] at h
        rw [numS_app hw x h0]; exact h
      · rename_i h3
        rw [if_neg h3] at h
        split
        · rename_i h4
          rw [if_pos h4] at h
          unfold opS at h ⊢
          rw [runL_app 5 hw (by decide), take_app (runL_le 5 r)]
          exact h
        · rename_i h4
          rw [if_neg h4] at h
          split
          · rename_i h5
            rw [if_pos h5] at h
            rw [take_app hl]; exact h
          · rename_i h5
            rw [if_neg h5] at h
            split
            · rename_i h6
              rw [if_pos h6] at h
              split
              · rename_i h7
                rw [if_pos h7] at h
                exact quot _ h (by simp)
              · rename_i h7
                rw [if_neg h7] at h
                rw [drop_app hl, inNm_app hw, take_app hl]
                exact h
            · rename_i h6
              rw [if_neg h6] at h
              split
              · rename_i h7
                rw [if_pos h7] at h
                exact quot _ h (by simp)
              · rename_i h7
                rw [if_neg h7] at h
                cases h

theorem ite_ns {c : Prop} [Decidable c] {a b : St} {k : Nat} (ha : a ≠ .skip k) (hb : b ≠ .skip k) : (if c then a else b) ≠ .skip k := by split <;> assumption
theorem numS_ns (r : BS) (k : Nat) : numS r ≠ .skip k := by
  unfold numS
  exact ite_ns (fun h => by cases h) (fun h => by cases h)
theorem quotS_ns (r : BS) (k : Nat) : quotS r ≠ .skip k := by
  unfold quotS
  split
  · simp
  · split
    · simp
    · split <;> simp
theorem opS_ns (r : BS) (k : Nat) : opS r ≠ .skip k := by
  unfold opS
  exact ite_ns (fun h => by cases h) (ite_ns (fun h => by cases h) (fun h => by cases h))
theorem tokS_ns (r : BS) (k : Nat) : tokS r ≠ .skip k := by
  unfold tokS
  split
  · simp
  · split
    · simp
    · split
      · exact numS_ns r k
      · split
        · exact opS_ns r k
        · split
          · simp
          · split
            · split
              · exact quotS_ns r k
              · split <;> simp
            · split
              · exact quotS_ns r k
              · simp

theorem comL_app (x : BS) : ∀ (d : Int) (r : BS) (k : Nat), comL d r = some k → comL d (r ++ x) = some k ∧ 1 ≤ k ∧ k ≤ r.length
  | d, [], k, h => by simp [comL] at h
  | d, [a], k, h => by simp [comL] at h
  | d, a :: b :: r, k, h => by
    simp only [comL] at h
    simp only [List.cons_append, comL]
    split at h
    · rename_i h1
      rw [if_pos h1]
      rw [Option.map_eq_some_iff] at h ⊢
      obtain ⟨z, hz, rfl⟩ := h
      obtain ⟨h2, h3, h4⟩ := comL_app x (d + 1) r z hz
      exact ⟨⟨z, h2, rfl⟩, by omega, by simp only [List.length_cons]; omega⟩
    · rename_i h1
      rw [if_neg h1]
      split at h
      · rename_i h2
        rw [if_pos h2]
        split at h
        · rename_i h3
          rw [if_pos h3]
          obtain rfl := Option.some.inj h
          exact ⟨rfl, by decide, by simp⟩
        · rename_i h3
          rw [if_neg h3]
          rw [Option.map_eq_some_iff] at h ⊢
          obtain ⟨z, hz, rfl⟩ := h
          obtain ⟨h2, h3, h4⟩ := comL_app x (d - 1) r z hz
          exact ⟨⟨z, h2, rfl⟩, by omega, by simp only [List.length_cons]; omega⟩
      · rename_i h2
        rw [if_neg h2]
        rw [Option.map_eq_some_iff] at h ⊢
        obtain ⟨z, hz, rfl⟩ := h
        obtain ⟨h2, h3, h4⟩ := comL_app x d (b :: r) z hz
        rw [List.cons_append] at h2
        exact ⟨⟨z, h2, rfl⟩, by omega, by simp only [List.length_cons] at h4 ⊢; omega⟩
  termination_by _ r => r.length

theorem nlL_app (x : BS) : ∀ r : BS, nlL (r ++ 10 :: x) = nlL r
  | [] => rfl
  | c :: r => by simp only [List.cons_append, nlL, nlL_app x r]

theorem stepS_app (x : BS) {r : BS} (h0 : r ≠ []) (h : ∀ e, stepS r ≠ .bad e) : stepS (r ++ 10 :: x) = stepS r := by
  have hw : clB 10 = 7 := by decide
  unfold stepS at h ⊢
  rw [cls_app h0]
  split
  · rfl
  · rename_i h1
    rw [if_neg h1] at h
    have hp : pre [123, 45] (r ++ 10 :: x) = pre [123, 45] r := by
      match r, h0 with
      | [a], _ => simp [pre]
      | a :: b :: r, _ => simp [pre]
    rw [hp]
    split
    · rename_i h2
      rw [if_pos h2] at h
      cases hc : comL 0 r with
      | none => rw [hc] at h; exact absurd rfl (h 13)
      | some k => rw [(comL_app (10 :: x) 0 r k hc).1]
    · rename_i h2
      rw [if_neg h2] at h
      rw [runL_app 5 hw (by decide), take_app (runL_le 5 r)]
      split
      · rw [nlL_app]
      · rename_i h3
        rw [if_neg h3] at h
        cases hc : tokS r with
        | bad e => exact absurd hc (h e)
        | skip k => exact absurd hc (tokS_ns r k)
        | tok k t m n => exact tokS_app hw x h0 hc
end Go.Vm
end

section
namespace Go.Vm

theorem nameL_pos {r : BS} (h : inNm r = true) : 1 ≤ nameL r := by
  cases r with
  | nil => cases h
  | cons c r => simp only [nameL]; rw [if_pos h]; omega
theorem inNm_cls {r : BS} (h : 1 ≤ cls r ∧ cls r ≤ 4) : inNm r = true := by simp [inNm, h]
theorem hexB_digit : ∀ c : UInt8, clB c = 3 → 0 ≤ hexB c ∧ hexB c < 10 := u8all (by decide +kernel)
theorem ite_tok {c : Prop} [Decidable c] {e : Nat} {b : St} {k : Nat} {t : BS} {m : Int} {n : Nat} (h : (if c then St.bad e else b) = .tok k t m n) : b = .tok k t m n := by
  split at h
  · cases h
  · exact h
theorem tokS_len {r : BS} {k : Nat} {t : BS} {m : Int} {n : Nat} (h : tokS r = .tok k t m n) : 1 ≤ n ∧ n ≤ r.length := by
  have quot : ∀ c r', r = c :: r' → quotS r = .tok k t m n → 1 ≤ n ∧ n ≤ r.length := by
    rintro c r' rfl hy
    unfold quotS at hy
    split at hy
    · cases hy
    · rename_i bs k' hq
      have := quotL_len _ _ _ rfl _ hq
      simp only [List.drop_succ_cons, List.drop_zero] at this
      simp only [List.length_cons]
      split at hy
      · injection hy; omega
      · split at hy
        · injection hy; omega
        · cases hy
  match r with
  | [] => simp [tokS, cls, bAt] at h
  | c :: r' =>
    unfold tokS at h
    split at h
    · rename_i h1
      injection h with _ _ _ h5
      have a := nameL_le (c :: r')
      have b := nameL_pos (inNm_cls (r := c :: r') (by omega))
      omega
    · split at h
      · rename_i h2
        injection h with _ _ _ h5
        have a := nameL_le (c :: r')
        have b := nameL_pos (inNm_cls (r := c :: r') (by omega))
        have d := nameL_le ((c :: r').drop (nameL (c :: r') + 1))
        rw [List.length_drop] at d
        rw [← h5]
        unfold upS
        simp only
        split
        · omega
        · split
          · split
            · omega
            · simp only; omega
          · split
            · simp only; omega
            · omega
      · split at h
        · rename_i h3
          unfold numS at h
          have h := ite_tok h
          · injection h with _ _ _ h5
            have ho : (if hexP (c :: r') = true then 2 else 0) ≤ (c :: r').length := by
              split
              · rename_i h; have := hexP_len h; omega
              · omega
            have a := numL_le (if hexP (c :: r') = true then 16 else 10) ((c :: r').drop (if hexP (c :: r') = true then 2 else 0)) false 0
            rw [List.length_drop] at a
            refine ⟨?_, by omega⟩
            by_cases hp : hexP (c :: r') = true
            · simp only [hp, if_true] at h5; omega
            · simp only [hp] at h5
              obtain ⟨d1, d2⟩ := hexB_digit c h3
              simp only [Bool.false_eq_true, if_false, List.drop_zero, numL, d1, d2, and_self, if_true] at h5
              omega
        · split at h
          · rename_i h4
            have a := runL_le 5 (c :: r')
            have b : 1 ≤ runL 5 (c :: r') := by
              have h4' : clB c = 5 := h4
              simp only [runL]; rw [if_pos h4']; omega
            unfold opS at h
            simp only at h
            split at h
            · injection h; omega
            · split at h
              · cases h
              · injection h; omega
          · split at h
            · injection h; simp only [List.length_cons]; omega
            · split at h
              · split at h
                · exact quot c r' rfl h
                · split at h
                  · cases h
                  · injection h; simp only [List.length_cons]; omega
              · split at h
                · exact quot c r' rfl h
                · cases h

theorem stepS_len {r : BS} (h0 : r ≠ []) : (∀ k, stepS r = .skip k → 1 ≤ k ∧ k ≤ r.length) ∧ (∀ k t m n, stepS r = .tok k t m n → 1 ≤ n ∧ n ≤ r.length) := by
  have hl : 1 ≤ r.length := by cases r with | nil => exact absurd rfl h0 | cons a b => simp
  constructor
  · intro k h
    unfold stepS at h
    split at h
    · injection h; omega
    · split at h
      · split at h
        · cases h
        · rename_i k' hc
          injection h with h
          subst h
          exact (comL_app [] 0 r k' hc).2
      · split at h
        · rename_i h3
          injection h with h
          subst h
          refine ⟨?_, nlL_le r⟩
          cases r with
          | nil => exact absurd rfl h0
          | cons c r =>
            unfold dsh at h3
            simp only [Bool.and_eq_true, decide_eq_true_eq, List.length_take, List.all_eq_true, beq_iff_eq] at h3
            have : c = 45 := by
              apply h3.2
              obtain ⟨m, hm⟩ : ∃ m, runL 5 (c :: r) = m + 1 := ⟨runL 5 (c :: r) - 1, by omega⟩
              rw [hm]; simp
            subst this
            simp [nlL]
        · exact absurd h (tokS_ns r k)
  · intro k t m n h
    unfold stepS at h
    split at h
    · cases h
    · split at h
      · split at h <;> cases h
      · split at h
        · cases h
        · exact tokS_len h

theorem lexS_cons {r : BS} (h0 : r ≠ []) (i n : Nat) : lexS r i n = (match stepS r with
    | .bad e => .bad e i
    | .skip k => lexS (r.drop k) (i + k) n
    | .tok kd tx nm k => if n = 20000 then .bad 4 i else LR.cons ⟨kd, tx, nm, i⟩ (lexS (r.drop k) (i + k) (n + 1))) := by
  obtain ⟨s1, s2⟩ := stepS_len h0
  cases r with
  | nil => exact absurd rfl h0
  | cons c r =>
    rw [lexS]
    cases hs : stepS (c :: r) with
    | bad e => rfl
    | skip k => simp only [drop_pred (c := c) (s1 k hs).1]
    | tok k t m len => simp only [drop_pred (c := c) (s2 k t m len hs).1]
theorem lexS_nil (i n : Nat) : lexS [] i n = .ok [] := by rw [lexS]

def mvT (j : Nat) (t : Tok) : Tok := { t with at_ := t.at_ + j }
def LR.mv (j : Nat) : LR → LR
  | .bad e i => .bad e (i + j)
  | .ok l => .ok (l.map (mvT j))
def LR.app (l : List Tok) : LR → LR
  | .bad e i => .bad e i
  | .ok m => .ok (l ++ m)

theorem lex_shift : ∀ (k : Nat) (r : BS), r.length = k → ∀ i j n m : Nat, n + r.length ≤ 20000 → m + r.length ≤ 20000 → lexS r (i + j) n = (lexS r i m).mv j := by
  intro k
  induction k using Nat.strongRecOn with
  | ind k ih =>
    intro r hr i j n m hn hm
    subst hr
    by_cases h0 : r = []
    · subst h0; rw [lexS_nil, lexS_nil]; rfl
    · have hl : 1 ≤ r.length := by cases r with | nil => exact absurd rfl h0 | cons a b => simp
      obtain ⟨s1, s2⟩ := stepS_len h0
      rw [lexS_cons h0, lexS_cons h0]
      cases hs : stepS r with
      | bad e => rfl
      | skip k =>
        obtain ⟨k1, k2⟩ := s1 k hs
        have := ih (r.drop k).length (by rw [List.length_drop]; omega) (r.drop k) rfl (i + k) j n m (by rw [List.length_drop]; omega) (by rw [List.length_drop]; omega)
        simp only
        rw [← this]
        congr 1; omega
      | tok kd tx nm k =>
        obtain ⟨k1, k2⟩ := s2 kd tx nm k hs
        have := ih (r.drop k).length (by rw [List.length_drop]; omega) (r.drop k) rfl (i + k) j (n + 1) (m + 1) (by rw [List.length_drop]; omega) (by rw [List.length_drop]; omega)
        simp only
        rw [if_neg (by omega), if_neg (by omega)]
        rw [show i + j + k = i + k + j from by omega, this]
        cases lexS (r.drop k) (i + k) (m + 1) with
        | bad e p => rfl
        | ok l => simp [LR.mv, LR.cons, mvT]

theorem lex_count : ∀ (k : Nat) (r : BS), r.length = k → ∀ (i n : Nat) l, lexS r i n = .ok l → l.length ≤ r.length := by
  intro k
  induction k using Nat.strongRecOn with
  | ind k ih =>
    intro r hr i n l h
    subst hr
    by_cases h0 : r = []
    · subst h0; rw [lexS_nil] at h; injection h with h; subst h; simp
    · obtain ⟨s1, s2⟩ := stepS_len h0
      have hl : 1 ≤ r.length := by cases r with | nil => exact absurd rfl h0 | cons a b => simp
      rw [lexS_cons h0] at h
      cases hs : stepS r with
      | bad e => rw [hs] at h; cases h
      | skip k =>
        rw [hs] at h
        obtain ⟨k1, k2⟩ := s1 k hs
        have := ih (r.drop k).length (by rw [List.length_drop]; omega) (r.drop k) rfl _ _ l h
        rw [List.length_drop] at this
        omega
      | tok kd tx nm k =>
        rw [hs] at h
        obtain ⟨k1, k2⟩ := s2 kd tx nm k hs
        simp only at h
        split at h
        · cases h
        · cases hx : lexS (r.drop k) (i + k) (n + 1) with
          | bad e p => rw [hx] at h; cases h
          | ok l' =>
            rw [hx] at h
            have := ih (r.drop k).length (by rw [List.length_drop]; omega) (r.drop k) rfl _ _ l' hx
            rw [List.length_drop] at this
            injection h with h
            subst h
            simp only [List.length_cons]; omega

theorem blank_skip {c : UInt8} (hc : clB c = 7) (r : BS) (i n : Nat) : lexS (c :: r) i n = lexS r (i + 1) n := by
  rw [lexS_cons (by simp)]
  have : stepS (c :: r) = .skip 1 := by
    have hc' : cls (c :: r) = 7 := hc
    unfold stepS; rw [if_pos hc']
  rw [this]; rfl

theorem lex_join (b : BS) : ∀ (k : Nat) (a : BS), a.length = k → ∀ (i n : Nat) l, lexS a i n = .ok l → n + a.length ≤ 20000 → lexS (a ++ 10 :: b) i n = (lexS b (i + a.length + 1) (n + l.length)).app l := by
  intro k
  induction k using Nat.strongRecOn with
  | ind k ih =>
    intro r hr i n l h hn
    subst hr
    by_cases h0 : r = []
    · subst h0
      rw [lexS_nil] at h
      injection h with h
      subst h
      rw [List.nil_append, blank_skip (by decide)]
      simp only [List.length_nil, Nat.add_zero]
      cases lexS b (i + 1) n <;> rfl
    · obtain ⟨s1, s2⟩ := stepS_len h0
      have hl : 1 ≤ r.length := by cases r with | nil => exact absurd rfl h0 | cons a b => simp
      have hs' : ∀ e, stepS r ≠ .bad e := by
        intro e he
        rw [lexS_cons h0, he] at h
        cases h
      rw [lexS_cons (by simp), stepS_app b h0 hs']
      rw [lexS_cons h0] at h
      cases hs : stepS r with
      | bad e => exact absurd hs (hs' e)
      | skip k =>
        rw [hs] at h
        obtain ⟨k1, k2⟩ := s1 k hs
        simp only at h ⊢
        rw [drop_app k2]
        rw [ih (r.drop k).length (by rw [List.length_drop]; omega) (r.drop k) rfl _ _ l h (by rw [List.length_drop]; omega)]
        rw [List.length_drop, show i + k + (r.length - k) + 1 = i + r.length + 1 from by omega]
      | tok kd tx nm k =>
        rw [hs] at h
        obtain ⟨k1, k2⟩ := s2 kd tx nm k hs
        simp only at h ⊢
        rw [if_neg (by omega)] at h ⊢
        cases hx : lexS (r.drop k) (i + k) (n + 1) with
        | bad e p => rw [hx] at h; cases h
        | ok l' =>
          rw [hx] at h
          injection h with h
          subst h
          rw [drop_app k2]
          rw [ih (r.drop k).length (by rw [List.length_drop]; omega) (r.drop k) rfl _ _ l' hx (by rw [List.length_drop]; omega)]
          rw [List.length_drop, show i + k + (r.length - k) + 1 = i + r.length + 1 from by omega]
          simp only [List.length_cons]
          rw [show n + 1 + l'.length = n + (l'.length + 1) from by omega]
          cases lexS b (i + r.length + 1) (n + (l'.length + 1)) <;> rfl

def plainB (c : UInt8) : Bool := c != 123 && c != 45 && c != 125
def wrapC (c : BS) : Nat → BS
  | 0 => c
  | n + 1 => [123, 45] ++ wrapC c n ++ [45, 125]
theorem wrapC_len (c : BS) : ∀ n, (wrapC c n).length = c.length + 4 * n
  | 0 => rfl
  | n + 1 => by simp only [wrapC, List.length_append, wrapC_len c n, List.length_cons, List.length_nil]; omega

theorem comL_plain (d : Int) (x : BS) : ∀ c : BS, (∀ u ∈ c, plainB u = true) → comL d (c ++ 45 :: 125 :: x) = (comL d (45 :: 125 :: x)).map (· + c.length)
  | [], _ => by rw [List.nil_append]; cases comL d (45 :: 125 :: x) <;> rfl
  | u :: c, h => by
    have hu := h u (by simp)
    simp only [plainB, Bool.and_eq_true, bne_iff_ne, ne_eq] at hu
    have ih := comL_plain d x c (fun v hv => h v (List.mem_cons_of_mem _ hv))
    obtain ⟨y, r, hyr⟩ : ∃ y r, c ++ 45 :: 125 :: x = y :: r := by
      cases c with
      | nil => exact ⟨_, _, rfl⟩
      | cons a c => exact ⟨_, _, rfl⟩
    rw [List.cons_append, hyr]
    generalize comL d (45 :: 125 :: x) = z at ih ⊢
    simp only [comL]
    rw [if_neg (by rintro ⟨h1, _⟩; exact hu.1.1 h1), if_neg (by rintro ⟨h1, _⟩; exact hu.1.2 h1), ← hyr, ih]
    cases z with
    | none => rfl
    | some k => simp only [Option.map_some, List.length_cons]; congr 1
theorem comL_wrap {c : BS} (hc : ∀ u ∈ c, plainB u = true) : ∀ (n : Nat) (d : Int) (x : BS), 1 ≤ d → comL d (wrapC c n ++ 45 :: 125 :: x) = (if d = 1 then some ((wrapC c n).length + 2) else (comL (d - 1) x).map (· + ((wrapC c n).length + 2)))
  | 0, d, x, hd => by
    rw [wrapC, comL_plain d x c hc]
    simp only [comL]
    rw [if_neg (by decide)]
    simp only [and_self, if_true]
    by_cases h : d = 1
    · subst h; simp [Nat.add_comm]
    · rw [if_neg (by omega), if_neg h]
      cases comL (d - 1) x with
      | none => rfl
      | some k => simp only [Option.map_some]; congr 1; omega
  | n + 1, d, x, hd => by
    have h1 := comL_wrap hc n (d + 1) (45 :: 125 :: x) (by omega)
    have e : wrapC c (n + 1) ++ 45 :: 125 :: x = 123 :: 45 :: (wrapC c n ++ 45 :: 125 :: 45 :: 125 :: x) := by simp [wrapC]
    rw [e]
    simp only [comL, and_self, if_true]
    rw [h1, if_neg (by omega)]
    simp only [comL]
    rw [if_neg (by decide)]
    simp only [and_self, if_true]
    have e2 : d + 1 - 1 - 1 = d - 1 := by omega
    rw [e2]
    have el : (wrapC c (n + 1)).length = (wrapC c n).length + 4 := by rw [wrapC_len, wrapC_len]; omega
    rw [el]
    by_cases h : d = 1
    · subst h; simp; omega
    · rw [if_neg (by omega), if_neg h]
      cases comL (d - 1) x with
      | none => rfl
      | some k => simp only [Option.map_some]; congr 1; omega
theorem comment_skip {c : BS} (hc : ∀ u ∈ c, plainB u = true) (n : Nat) (b : BS) (i k : Nat) : lexS (wrapC c (n + 1) ++ b) i k = lexS b (i + (wrapC c (n + 1)).length) k := by
  have e : wrapC c (n + 1) ++ b = 123 :: 45 :: (wrapC c n ++ 45 :: 125 :: b) := by simp [wrapC]
  have el : (wrapC c (n + 1)).length = (wrapC c n).length + 4 := by rw [wrapC_len, wrapC_len]; omega
  have hs : stepS (wrapC c (n + 1) ++ b) = .skip (wrapC c (n + 1)).length := by
    rw [e, el]
    unfold stepS
    rw [if_neg (by simp only [cls]; decide), if_pos (by simp [pre])]
    have h1 := comL_wrap hc n 1 b (by omega)
    simp only [comL, and_self, if_true]
    rw [show (0 : Int) + 1 = 1 from rfl, h1]
    simp
  rw [lexS_cons (by rw [e]; simp), hs]
  simp only [List.drop_left]

def lineC : BS → BS
  | [] => []
  | c :: r => if c = 10 then lineC r else 32 :: c :: lineC r
theorem lineC_nl (x : BS) : ∀ c : BS, nlL (lineC c ++ 10 :: x) = (lineC c).length
  | [] => rfl
  | c :: r => by
    simp only [lineC]
    split
    · exact lineC_nl x r
    · rename_i h
      simp only [List.cons_append, nlL, List.length_cons, lineC_nl x r]
      rw [if_neg (by decide), if_neg h]
theorem line_skip (c b : BS) (i k : Nat) : lexS (45 :: 45 :: lineC c ++ 10 :: b) i k = lexS b (i + (lineC c).length + 3) k := by
  have hs : stepS (45 :: 45 :: lineC c ++ 10 :: b) = .skip ((lineC c).length + 2) := by
    unfold stepS
    rw [if_neg (by simp only [cls, List.cons_append]; decide), if_neg (by simp [pre])]
    have hr : runL 5 (45 :: 45 :: lineC c ++ 10 :: b) = 2 := by
      have h0 : runL 5 (lineC c ++ 10 :: b) = 0 := by
        cases h : lineC c with
        | nil => rfl
        | cons u r =>
          have : u = 32 := by
            have h' : ∀ c : BS, ∀ u r, lineC c = u :: r → u = 32 := by
              intro c
              induction c with
              | nil => intro u r h; cases h
              | cons a c ih =>
                intro u r h
                simp only [lineC] at h
                split at h
                · exact ih u r h
                · injection h with h _; exact h.symm
            exact h' c u r h
          subst this
          rfl
      simp only [List.cons_append, runL, h0]
      rfl
    rw [hr, if_pos (by simp [dsh])]
    simp only [List.cons_append, nlL, lineC_nl]
    rfl
  rw [lexS_cons (by simp), hs]
  have e : (45 :: 45 :: lineC c ++ 10 :: b).drop ((lineC c).length + 2) = 10 :: b := by
    simp only [List.cons_append, List.drop_succ_cons]
    rw [List.drop_left]
  simp only [e]
  rw [blank_skip (by decide)]
  congr 1
end Go.Vm
end

section
namespace Go.Vm
set_option maxRecDepth 20000
/- 'sloth/lex.upper' -/
def f44 : Fun := ⟨
 (.seq
  (.reg [⟨[], [], [(.int .i64 0)], none, [0, 1], 2, [], [], []⟩])
  (.seq
   (.reg [⟨[], [(6, (.call 42 (.cons (.sl 0) (.cons (.sl 1) .nil))))], [], none, [0], 4, [], [], []⟩])
   (.seq
    (.seq
     (.reg [⟨[], [(21, (.or (.bin .geq (.bin .add (.sl 6) (.int .i64 1)) (.len true (.sl 0))) (.bin .neq (.ix (.sl 0) (.sl 6)) (.int .u8 46))))], [], none, [0, 6], 11, [], [], []⟩])
     (.cond (.sl 21)
      (.seq
       (.reg [⟨[], [(4, (.int .i64 2)), (5, (.sl 6))], [], none, [], 3, [], [], []⟩])
       (.seq
        (.tidy 0 [4, 5])
        .ret))
      .skip))
    (.seq
     (.reg [⟨[], [(7, (.call 42 (.cons (.sl 0) (.cons (.bin .add (.sl 6) (.int .i64 1)) .nil))))], [], none, [0, 6], 5, [], [], []⟩])
     (.seq
      (.seq
       (.reg [⟨[], [(30, (.call 27 (.cons (.sl 0) (.cons (.bin .add (.sl 6) (.int .i64 1)) .nil))))], [], none, [0, 6, 7], 4, [], [], []⟩])
       (.block 0
        (.seq
         (.reg [⟨[], [(31, (.bin .eql (.sl 30) (.int .u8 1)))], [], none, [0, 6, 7, 30], 2, [], [], []⟩])
         (.cond (.sl 31)
          (.seq
           (.reg [⟨[], [(39, (.un .not (.call 43 (.cons (.cut true true true false 0 (.sl 0) (.bin .add (.sl 6) (.int .i64 1)) (.sl 7) .nil) .nil))))], [], none, [6, 7], 7, [], [], []⟩])
           (.cond (.sl 39)
            (.seq
             (.reg [⟨[], [(4, (.int .i64 3)), (5, (.sl 7))], [], none, [], 3, [], [], []⟩])
             (.seq
              (.tidy 0 [4, 5])
              .ret))
            .skip))
          (.seq
           (.reg [⟨[], [(41, (.bin .eql (.sl 30) (.int .u8 2)))], [], none, [6, 7], 2, [], [], []⟩])
           (.cond (.sl 41)
            (.seq
             (.reg [⟨[], [(4, (.int .i64 4)), (5, (.sl 7))], [], none, [], 3, [], [], []⟩])
             (.seq
              (.tidy 0 [4, 5])
              .ret))
            .skip))))))
      (.seq
       (.reg [⟨[], [(4, (.int .i64 2)), (5, (.sl 6))], [], none, [], 3, [], [], []⟩])
       (.seq
        (.tidy 0 [4, 5])
        .ret))))))),
 [(.sl 4), (.sl 5)], false⟩
theorem f44_ok : funOk Go.Proofs.Tryd.prog 44 0 2 f44 = true := by kernel_rfl

/- 'sloth/lex.sound' -/
def f70_L0 : C :=
 (.seq
  (.seq
   (.reg [⟨[], [(56, (.bin .lss (.sl 11) (.bin .add (.sl 1) (.int .i64 4))))], [], none, [0, 1, 10, 11], 4, [], [], []⟩])
   (.cond (.sl 56)
    .skip
    (.seq
     (.tidy 0 [1, 10])
     (.exit 1))))
  (.seq
   (.block 2
    (.seq
     (.seq
      (.reg [⟨[], [(62, (.bin .neq (.call 27 (.cons (.sl 0) (.cons (.sl 11) .nil))) (.int .u8 3)))], [], none, [0, 1, 10, 11], 4, [], [], []⟩])
      (.cond (.sl 62)
       (.seq
        (.reg [⟨[], [(6, (.int .u8 0)), (7, (.int .i64 (-1)))], [], none, [], 2, [], [], []⟩])
        (.seq
         (.tidy 0 [6, 7])
         .ret))
       .skip))
     (.reg [⟨[], [(10, (.bin .add (.bin .mul (.int .i64 10) (.sl 10)) (.conv .i64 (.bin .sub (.ix (.sl 0) (.sl 11)) (.int .u8 48)))))], [], none, [0, 1, 11], 9, [], [], []⟩])))
   (.reg [⟨[], [(11, (.bin .add (.sl 11) (.int .i64 1)))], [], none, [0, 1, 10], 3, [], [], []⟩])))
def f70 : Fun := ⟨
 (.seq
  (.reg [⟨[], [], [(.int .i64 0), (.int .u8 0)], none, [0, 1, 2], 2, [], [], []⟩])
  (.seq
   (.reg [⟨[], [(8, (.call 68 (.cons (.sl 0) (.cons (.sl 1) .nil))))], [], none, [0, 1, 2], 4, [], [], []⟩])
   (.seq
    (.seq
     (.reg [⟨[], [(16, (.bin .neq (.sl 8) (.int .u8 92)))], [], none, [0, 1, 2, 8], 2, [], [], []⟩])
     (.cond (.sl 16)
      (.seq
       (.seq
        (.reg [⟨[], [(27, (.or (.or (.bin .lss (.sl 8) (.int .u8 32)) (.bin .gtr (.sl 8) (.int .u8 126))) (.bin .eql (.sl 8) (.sl 2))))], [], none, [1, 8], 11, [], [], []⟩])
        (.cond (.sl 27)
         (.seq
          (.reg [⟨[], [(6, (.int .u8 0)), (7, (.int .i64 (-1)))], [], none, [], 2, [], [], []⟩])
          (.seq
           (.tidy 0 [6, 7])
           .ret))
         .skip))
       (.seq
        (.reg [⟨[], [(6, (.sl 8)), (7, (.bin .add (.sl 1) (.int .i64 1)))], [], none, [], 5, [], [], []⟩])
        (.seq
         (.tidy 0 [6, 7])
         .ret)))
      .skip))
    (.seq
     (.seq
      (.reg [⟨[], [(9, (.call 68 (.cons (.sl 0) (.cons (.bin .add (.sl 1) (.int .i64 1)) .nil))))], [], none, [0, 1], 5, [], [], []⟩])
      (.seq
       (.reg [⟨[], [(35, (.sl 9))], [], none, [0, 1, 9], 1, [], [], []⟩])
       (.block 0
        (.seq
         (.reg [⟨[], [(36, (.bin .eql (.sl 35) (.int .u8 110)))], [], none, [0, 1, 9, 35], 2, [], [], []⟩])
         (.cond (.sl 36)
          (.seq
           (.reg [⟨[], [(6, (.int .u8 10)), (7, (.bin .add (.sl 1) (.int .i64 2)))], [], none, [], 4, [], [], []⟩])
           (.seq
            (.tidy 0 [6, 7])
            .ret))
          (.seq
           (.reg [⟨[], [(40, (.bin .eql (.sl 35) (.int .u8 116)))], [], none, [0, 1, 9, 35], 2, [], [], []⟩])
           (.cond (.sl 40)
            (.seq
             (.reg [⟨[], [(6, (.int .u8 9)), (7, (.bin .add (.sl 1) (.int .i64 2)))], [], none, [], 4, [], [], []⟩])
             (.seq
              (.tidy 0 [6, 7])
              .ret))
            (.seq
             (.seq
              (.reg [⟨[], [(44, (.bin .eql (.sl 35) (.int .u8 92)))], [], none, [0, 1, 9, 35], 2, [], [], []⟩])
              (.cond (.sl 44)
               .skip
               (.seq
                (.reg [⟨[], [(44, (.bin .eql (.sl 35) (.int .u8 39)))], [], none, [0, 1, 9, 35], 2, [], [], []⟩])
                (.cond (.sl 44)
                 .skip
                 (.reg [⟨[], [(44, (.bin .eql (.sl 35) (.int .u8 34)))], [], none, [0, 1, 9], 2, [], [], []⟩])))))
             (.cond (.sl 44)
              (.seq
               (.reg [⟨[], [(6, (.sl 9)), (7, (.bin .add (.sl 1) (.int .i64 2)))], [], none, [], 5, [], [], []⟩])
               (.seq
                (.tidy 0 [6, 7])
                .ret))
              .skip)))))))))
     (.seq
      (.reg [⟨[], [(10, (.int .i64 0))], [], none, [0, 1], 1, [], [], []⟩])
      (.seq
       (.seq
        (.reg [⟨[], [(11, (.bin .add (.sl 1) (.int .i64 1)))], [], none, [0, 1, 10], 3, [], [], []⟩])
        (.block 1
         (.seq (.tidy 0 [0, 1, 10, 11]) (.loop (.seq (.tidy 0 [0, 1, 10, 11]) f70_L0)))))
       (.seq
        (.seq
         (.reg [⟨[], [(72, (.bin .gtr (.sl 10) (.int .i64 255)))], [], none, [1, 10], 2, [], [], []⟩])
         (.cond (.sl 72)
          (.seq
           (.reg [⟨[], [(6, (.int .u8 0)), (7, (.int .i64 (-1)))], [], none, [], 2, [], [], []⟩])
           (.seq
            (.tidy 0 [6, 7])
            .ret))
          .skip))
        (.seq
         (.reg [⟨[], [(6, (.conv .u8 (.sl 10))), (7, (.bin .add (.sl 1) (.int .i64 4)))], [], none, [], 6, [], [], []⟩])
         (.seq
          (.tidy 0 [6, 7])
          .ret))))))))),
 [(.sl 6), (.sl 7)], false⟩
theorem f70_ok : funOk Go.Proofs.Tryd.prog 70 0 3 f70 = true := by kernel_rfl


theorem u8k {a c : UInt8} (n : Int) (h : (c.toNat : Int) = n) : ((a.toNat : Int) = n) = (a = c) := by
  rw [← h, u8eq]
theorem u8y {a c : UInt8} (n : Int) (h : (c.toNat : Int) = n) (g : a = c) : (a.toNat : Int) = n := by rw [u8k n h]; exact g
theorem u8n {a c : UInt8} (n : Int) (h : (c.toNat : Int) = n) (g : ¬ a = c) : ¬ (a.toNat : Int) = n := by rw [u8k n h]; exact g
theorem nc (n : Nat) : ((no_index (OfNat.ofNat n) : Nat) : Int) = OfNat.ofNat n := rfl
theorem nth_bAt {s : BS} {i : Nat} (h : i < s.length) : nth s (i : Int) = bAt (s.drop i) := by
  rw [List.drop_eq_getElem_cons h]
  simp [nth, h, bAt]
theorem dd (s : BS) (i k : Nat) : s.drop (i + k) = (s.drop i).drop k := by rw [List.drop_drop]
theorem u8wrap {n : Int} (h1 : 0 ≤ n) (h2 : n ≤ 255) : IntKind.u8.wrap n = n := by
  unfold IntKind.wrap
  have e1 : (2 : Int) ^ IntKind.u8.bits = 256 := by decide
  have e2 : IntKind.u8.signed = false := rfl
  simp only [e1, e2, Bool.false_and]
  rw [if_neg (by simp)]
  omega

def K44 (K : Cx) : Prop := ∀ (s : BS) (i : Nat), i ≤ s.length → s.length ≤ 2000000 → K.call 44 [.d false (.str s), .d false (.int .i64 i)] = some (.tup [.d false (.int .i64 (upS (s.drop i)).1), .d false (.int .i64 ((i + (upS (s.drop i)).2 : Nat)))], [])
def vSound (i : Nat) : Option (UInt8 × Nat) → V
  | none => .tup [.d false (.int .u8 0), .d false (.int .i64 (-1))]
  | some y => .tup [.d false (.int .u8 y.1.toNat), .d false (.int .i64 ((i + y.2 : Nat)))]
theorem vSound_none (i : Nat) : vSound i none = .tup [.d false (.int .u8 0), .d false (.int .i64 (-1))] := rfl
theorem vSound_some (i : Nat) (c : UInt8) (n : Nat) : vSound i (some (c, n)) = .tup [.d false (.int .u8 c.toNat), .d false (.int .i64 ((i + n : Nat)))] := rfl
def K70 (K : Cx) : Prop := ∀ (s : BS) (i : Nat) (q : UInt8), s.length ≤ 2000000 → i ≤ s.length → K.call 70 [.d false (.str s), .d false (.int .i64 i), .d false (.int .u8 q.toNat)] = some (vSound i (soundS (s.drop i) q), [])

theorem ev_upper (K : Cx) (h42 : K42 K) (h27 : K27 K) (h43 : K43 K) (s : BS) (i : Nat) (hi : i ≤ s.length) (hs : s.length ≤ 2000000) :
    runFun K f44 [.d false (.str s), .d false (.int .i64 i)] [] = some (.tup [.d false (.int .i64 (upS (s.drop i)).1), .d false (.int .i64 ((i + (upS (s.drop i)).2 : Nat)))], [], []) := by
  have h := h42 s i hi hs
  have hle := nameL_le (s.drop i)
  have hlen : (s.drop i).length = s.length - i := by rw [List.length_drop]
  have h42' := h42 s (i + nameL (s.drop i) + 1)
  have h27' := h27 s (i + nameL (s.drop i) + 1)
  have hnth := nth_bAt (s := s) (i := i + nameL (s.drop i))
  unfold upS
  simp only
  rw [dd] at hnth
  rw [Nat.add_assoc, dd] at h42' h27'
  generalize hr2 : (s.drop i).drop (nameL (s.drop i) + 1) = r2 at h42' h27'
  generalize he : nameL (s.drop i) = e at h hle h42' h27' hnth hr2 ⊢
  generalize hq : bAt ((s.drop i).drop e) = q at hnth ⊢
  have hcut := cut_slh [] s (i + (e + 1)) (i + (e + 1) + nameL r2) (by omega)
  rw [dd, hr2, Nat.add_sub_cancel_left] at hcut
  have hl2 : nameL r2 ≤ s.length - i - (e + 1) := by
    have := nameL_le r2
    rw [← hr2] at this ⊢
    simp only [List.length_drop] at this ⊢
    exact this
  clear hr2 he
  have c46 := u8k (a := q) 46 (c := 46) rfl
  by_cases g1 : (s.drop i).length ≤ e + 1
  · rw [if_pos (Or.inl g1)]
    clear h42' h27' hcut
    simp (disch := first | decide | omega | (simp only [LN]; omega) | (simp only [LN]; done) | fail) only [SV, f44, Nat.zero_add, Nat.reduceAdd, Bool.and_self, beq_self_eq_true, Nat.reduceBEq, V.own, V.own1, Bool.or_self, V.new, V.new1, D.flat, Bool.or_true, V.flatV, V.flat1, Bool.not_true, Bool.and_false, Bool.false_and, view, viewD, h, Bool.false_eq_true, if_false, evBin, intBin, cast1, if_true, evLen, decide_true, orV_true, V.refs, oneOr, finV, finA, finC, nc]
  · have hn := hnth (by omega)
    by_cases g2 : q = 46
    · rw [if_neg (by rintro (h | h); exact g1 h; exact h g2)]
      subst g2
      have h1 := h42' (by omega) hs
      have h2 := h27' (by omega)
      have h3 := hcut (by omega)
      have h4 := h43 (r2.take (nameL r2))
      clear h42' h27' hcut hnth c46
      have e46 : ((46 : UInt8).toNat : Int) = 46 := rfl
      have ea : i + (e + 1) + nameL r2 = i + (e + 1 + nameL r2) := by omega
      have ha : i + e + 1 = i + (e + 1) := rfl
      rw [ea] at h1 h3
      by_cases g3 : cls r2 = 1
      · rw [if_pos g3]
        rw [g3] at h2
        cases g4 : resv (r2.take (nameL r2)) with
        | true =>
          rw [g4] at h4
          simp (disch := first | decide | omega | (simp only [LN]; omega) | (simp only [LN]; done) | fail) only [SV, f44, Nat.zero_add, Nat.reduceAdd, Bool.and_self, beq_self_eq_true, Nat.reduceBEq, V.own, V.own1, Bool.or_self, V.new, V.new1, D.flat, Bool.or_true, V.flatV, V.flat1, Bool.not_true, Bool.and_false, Bool.false_and, view, viewD, h, Bool.false_eq_true, if_false, evBin, intBin, cast1, ha, if_true, evLen, decide_false, hn, e46, bne_self_eq_false, h1, h2, nc, e_cut, o4_some, h3, h4, evUn, V.refs, decide_true, oneOr, finV, finA, finC]
        | false =>
          rw [g4] at h4
          simp (disch := first | decide | omega | (simp only [LN]; omega) | (simp only [LN]; done) | fail) only [SV, f44, Nat.zero_add, Nat.reduceAdd, Bool.and_self, beq_self_eq_true, Nat.reduceBEq, V.own, V.own1, Bool.or_self, V.new, V.new1, D.flat, Bool.or_true, V.flatV, V.flat1, Bool.not_true, Bool.and_false, Bool.false_and, view, viewD, h, Bool.false_eq_true, if_false, evBin, intBin, cast1, ha, if_true, evLen, decide_false, hn, e46, bne_self_eq_false, h1, h2, nc, e_cut, o4_some, h3, h4, evUn, Bool.not_false, V.refs, decide_true, oneOr, finV, finA, finC]
      · rw [if_neg g3]
        have g3' : ¬ ((cls r2 : Int) = 1) := by omega
        by_cases g5 : cls r2 = 2
        · rw [if_pos g5]
          rw [g5] at h2
          simp (disch := first | decide | omega | (simp only [LN]; omega) | (simp only [LN]; done) | fail) only [SV, f44, Nat.zero_add, Nat.reduceAdd, Bool.and_self, beq_self_eq_true, Nat.reduceBEq, V.own, V.own1, Bool.or_self, V.new, V.new1, D.flat, Bool.or_true, V.flatV, V.flat1, Bool.not_true, Bool.and_false, Bool.false_and, view, viewD, h, Bool.false_eq_true, if_false, evBin, intBin, cast1, ha, if_true, evLen, decide_false, hn, e46, bne_self_eq_false, h1, h2, nc, V.refs, decide_true, oneOr, finV, finA, finC]
        · rw [if_neg g5]
          have g5' : ¬ ((cls r2 : Int) = 2) := by omega
          simp (disch := first | decide | omega | (simp only [LN]; omega) | (simp only [LN]; done) | fail) only [SV, f44, Nat.zero_add, Nat.reduceAdd, Bool.and_self, beq_self_eq_true, Nat.reduceBEq, V.own, V.own1, Bool.or_self, V.new, V.new1, D.flat, Bool.or_true, V.flatV, V.flat1, Bool.not_true, Bool.and_false, Bool.false_and, view, viewD, h, Bool.false_eq_true, if_false, evBin, intBin, cast1, ha, if_true, evLen, decide_false, hn, e46, bne_self_eq_false, h1, h2, V.refs, decide_true, oneOr, finV, finA, finC, nc]
    · rw [if_pos (Or.inr g2)]
      have g2' := u8n 46 rfl g2
      clear h42' h27' hcut hnth g2 c46
      simp (disch := first | decide | omega | (simp only [LN]; omega) | (simp only [LN]; done) | fail) only [SV, f44, Nat.zero_add, Nat.reduceAdd, Bool.and_self, beq_self_eq_true, Nat.reduceBEq, V.own, V.own1, Bool.or_self, V.new, V.new1, D.flat, Bool.or_true, V.flatV, V.flat1, Bool.not_true, Bool.and_false, Bool.false_and, view, viewD, h, Bool.false_eq_true, if_false, evBin, intBin, cast1, if_true, evLen, decide_false, hn, V.refs, decide_true, oneOr, finV, finA, finC, nc]

def digv (r : BS) (k : Nat) : Int := ((bAt (r.drop k)).toNat : Int) - 48
theorem dig_range : ∀ c : UInt8, clB c = 3 → 48 ≤ c.toNat ∧ c.toNat ≤ 57 := u8all (by decide +kernel)
theorem dig_of {r : BS} {k : Nat} (h : cls (r.drop k) = 3) : 0 ≤ digv r k ∧ digv r k ≤ 9 := by
  unfold digv
  cases hd : r.drop k with
  | nil => rw [hd] at h; cases h
  | cons c t =>
    rw [hd] at h
    have := dig_range c h
    simp only [bAt]
    omega

theorem esc_step (K : Cx) (h27 : K27 K) (s : BS) (i j : Nat) (n : Int) (hj : i < j ∧ j < i + 4) (hs : s.length ≤ 2000000) (hi : j ≤ s.length) (hn : 0 ≤ n ∧ n ≤ 1000) :
    lp K 0 [0, 1, 10, 11] f70_L0 ⟨[(0, .d false (.str s)), (1, .d false (.int .i64 i)), (10, .d false (.int .i64 n)), (11, .d false (.int .i64 j))], [], 0, []⟩ =
      if cls (s.drop j) = 3 then lp K 0 [0, 1, 10, 11] f70_L0 ⟨[(0, .d false (.str s)), (1, .d false (.int .i64 i)), (10, .d false (.int .i64 (10 * n + digv s j))), (11, .d false (.int .i64 ((j + 1 : Nat) : Int)))], [], 0, []⟩
      else some (.ret, ⟨[(6, .d false (.int .u8 0)), (7, .d false (.int .i64 (-1)))], [], 0, []⟩) := by
  have h := h27 s j hi
  obtain ⟨j1, j2⟩ := hj
  obtain ⟨n1, n2⟩ := hn
  rw [lp_un f70_L0.eq_1]
  by_cases g : cls (s.drop j) = 3
  · rw [if_pos g]
    have hd := dig_of (r := s) (k := j) g
    have hlt := cls3_len g
    have hb := nth_bAt (s := s) (i := j) (by omega)
    rw [g] at h
    have hw : IntKind.u8.wrap (((bAt (s.drop j)).toNat : Int) - 48) = digv s j := by
      unfold digv at hd ⊢
      exact u8wrap (by omega) (by omega)
    generalize digv s j = v at hd hw ⊢
    obtain ⟨d1, d2⟩ := hd
    simp (disch := first | decide | omega | (simp only [LN]; omega) | (simp only [LN]; done) | fail) only [SV, Int.reduceNeg, Nat.reduceBEq, beq_self_eq_true, evBin, intBin, if_true, decide_true, V.own, V.own1, Bool.or_self, V.new, V.new1, D.flat, Bool.or_true, Bool.and_self, V.flatV, V.flat1, Bool.not_true, Bool.and_false, Bool.false_and, view, viewD, h, Bool.false_eq_true, if_false, e_conv, hb, hw, evConv, cast1, V.refs]
  · rw [if_neg g]
    have g' : ¬ ((cls (s.drop j) : Int) = 3) := by omega
    simp (disch := first | decide | omega | (simp only [LN]; omega) | (simp only [LN]; done) | fail) only [SV, Int.reduceNeg, Nat.reduceBEq, beq_self_eq_true, evBin, intBin, if_true, decide_true, V.own, V.own1, Bool.or_self, V.new, V.new1, D.flat, Bool.or_true, Bool.and_self, V.flatV, V.flat1, Bool.not_true, Bool.and_false, Bool.false_and, view, viewD, h, Bool.false_eq_true, if_false, V.refs]
theorem esc_end (K : Cx) (s : BS) (i : Nat) (n : Int) (hi : i ≤ 2000000) :
    lp K 0 [0, 1, 10, 11] f70_L0 ⟨[(0, .d false (.str s)), (1, .d false (.int .i64 i)), (10, .d false (.int .i64 n)), (11, .d false (.int .i64 ((i + 4 : Nat) : Int)))], [], 0, []⟩ =
      some (.exit 1, ⟨[(1, .d false (.int .i64 i)), (10, .d false (.int .i64 n))], [], 0, []⟩) := by
  rw [lp_un f70_L0.eq_1]
  simp (disch := first | decide | omega | (simp only [LN]; omega) | (simp only [LN]; done) | fail) only [SV, Int.reduceNeg, Nat.reduceBEq, beq_self_eq_true, evBin, intBin, if_true, decide_false, V.refs, decide_true, Bool.and_self]
def escOut (i : Nat) (r : BS) : Ex × S :=
  if cls (r.drop 1) = 3 ∧ cls (r.drop 2) = 3 ∧ cls (r.drop 3) = 3 then (.exit 1, ⟨[(1, .d false (.int .i64 i)), (10, .d false (.int .i64 (100 * digv r 1 + 10 * digv r 2 + digv r 3)))], [], 0, []⟩)
  else (.ret, ⟨[(6, .d false (.int .u8 0)), (7, .d false (.int .i64 (-1)))], [], 0, []⟩)
theorem digv_dd (s : BS) (i k : Nat) : digv s (i + k) = digv (s.drop i) k := by unfold digv; rw [dd]
theorem esc_loop (K : Cx) (h27 : K27 K) (s : BS) (i : Nat) (hs : s.length ≤ 2000000) (hi : i + 1 ≤ s.length) :
    lp K 0 [0, 1, 10, 11] f70_L0 ⟨[(0, .d false (.str s)), (1, .d false (.int .i64 i)), (10, .d false (.int .i64 0)), (11, .d false (.int .i64 ((i + 1 : Nat) : Int)))], [], 0, []⟩ = some (escOut i (s.drop i)) := by
  unfold escOut
  rw [esc_step K h27 s i (i + 1) 0 (by omega) hs hi (by omega), dd s i 1]
  by_cases g1 : cls ((s.drop i).drop 1) = 3
  · have d1 := dig_of g1
    have l1 := cls3_len g1
    rw [List.length_drop] at l1
    rw [if_pos g1, digv_dd, esc_step K h27 s i (i + 1 + 1) _ (by omega) hs (by omega) (by omega), show i + 1 + 1 = i + 2 from rfl, dd s i 2]
    by_cases g2 : cls ((s.drop i).drop 2) = 3
    · have d2 := dig_of g2
      have l2 := cls3_len g2
      rw [List.length_drop] at l2
      rw [if_pos g2, digv_dd, esc_step K h27 s i (i + 2 + 1) _ (by omega) hs (by omega) (by omega), show i + 2 + 1 = i + 3 from rfl, dd s i 3]
      by_cases g3 : cls ((s.drop i).drop 3) = 3
      · rw [if_pos g3, if_pos ⟨g1, g2, g3⟩, digv_dd, show i + 3 + 1 = i + 4 from rfl, esc_end K s i _ (by omega)]
        have e : 10 * (10 * (10 * (0 : Int) + digv (s.drop i) 1) + digv (s.drop i) 2) + digv (s.drop i) 3 = 100 * digv (s.drop i) 1 + 10 * digv (s.drop i) 2 + digv (s.drop i) 3 := by omega
        rw [e]
      · rw [if_neg g3, if_neg (fun h => g3 h.2.2)]
    · rw [if_neg g2, if_neg (fun h => g2 h.2.1)]
  · rw [if_neg g1, if_neg (fun h => g1 h.1)]

theorem ev_sound (K : Cx) (h68 : K68 K) (h27 : K27 K) (s : BS) (i : Nat) (q : UInt8) (hs : s.length ≤ 2000000) (hi : i ≤ s.length) :
    runFun K f70 [.d false (.str s), .d false (.int .i64 i), .d false (.int .u8 q.toNat)] [] = some (vSound i (soundS (s.drop i) q), [], []) := by
  have h0 := h68 s i hs
  have h1 := h68 s (i + 1) hs
  rw [dd] at h1
  have e1 : bAt (s.drop i) ≠ 0 → i + 1 ≤ s.length := fun h => bAt_len h
  have hl := esc_loop K h27 s i hs
  unfold soundS
  generalize s.drop i = r at h0 h1 e1 hl ⊢
  have c92 := u8k (a := bAt r) 92 (c := 92) rfl
  by_cases g1 : bAt r ≠ 92
  · rw [if_pos g1]
    have g1' : ¬ (((bAt r).toNat : Int) = 92) := by rw [c92]; exact g1
    have cq := u8eq (bAt r) q
    clear hl h1 c92 g1
    by_cases g2 : (bAt r).toNat < 32
    · rw [if_pos (Or.inl g2), vSound_none]
      simp (disch := first | decide | omega | (simp only [LN]; omega) | (simp only [LN]; done) | fail) only [SV, f70, Int.reduceNeg, Nat.zero_add, Nat.reduceAdd, Bool.and_self, beq_self_eq_true, Nat.reduceBEq, V.own, V.own1, Bool.or_self, V.new, V.new1, D.flat, Bool.or_true, V.flatV, V.flat1, Bool.not_true, Bool.and_false, Bool.false_and, view, viewD, h0, Bool.false_eq_true, if_false, evBin, intBin, if_true, decide_true, decide_false, Bool.or_false, Bool.true_or, V.refs, oneOr, finV, finA, finC]
    · by_cases g3 : 126 < (bAt r).toNat
      · rw [if_pos (Or.inr (Or.inl g3)), vSound_none]
        simp (disch := first | decide | omega | (simp only [LN]; omega) | (simp only [LN]; done) | fail) only [SV, f70, Int.reduceNeg, Nat.zero_add, Nat.reduceAdd, Bool.and_self, beq_self_eq_true, Nat.reduceBEq, V.own, V.own1, Bool.or_self, V.new, V.new1, D.flat, Bool.or_true, V.flatV, V.flat1, Bool.not_true, Bool.and_false, Bool.false_and, view, viewD, h0, Bool.false_eq_true, if_false, evBin, intBin, if_true, decide_false, decide_true, Bool.true_or, V.refs, oneOr, finV, finA, finC]
      · by_cases g4 : bAt r = q
        · rw [if_pos (Or.inr (Or.inr g4)), vSound_none]
          have g4' : (((bAt r).toNat : Int) == (q.toNat : Int)) = true := by rw [g4]; exact beq_self_eq_true _
          clear g4 cq
          simp (disch := first | decide | omega | (simp only [LN]; omega) | (simp only [LN]; done) | fail) only [SV, f70, Int.reduceNeg, Nat.zero_add, Nat.reduceAdd, Bool.and_self, beq_self_eq_true, Nat.reduceBEq, V.own, V.own1, Bool.or_self, V.new, V.new1, D.flat, Bool.or_true, V.flatV, V.flat1, Bool.not_true, Bool.and_false, Bool.false_and, view, viewD, h0, Bool.false_eq_true, if_false, evBin, intBin, if_true, decide_false, g4', V.refs, decide_true, oneOr, finV, finA, finC]
        · rw [if_neg (by rintro (h | h | h); exact g2 h; exact g3 h; exact g4 h), vSound_some]
          have g4' : (((bAt r).toNat : Int) == (q.toNat : Int)) = false := by rw [beq_eq_false_iff_ne, ne_eq, cq]; exact g4
          clear g4 cq
          simp (disch := first | decide | omega | (simp only [LN]; omega) | (simp only [LN]; done) | fail) only [SV, f70, Int.reduceNeg, Nat.zero_add, Nat.reduceAdd, Bool.and_self, beq_self_eq_true, Nat.reduceBEq, V.own, V.own1, Bool.or_self, V.new, V.new1, D.flat, Bool.or_true, V.flatV, V.flat1, Bool.not_true, Bool.and_false, Bool.false_and, view, viewD, h0, Bool.false_eq_true, if_false, evBin, intBin, if_true, decide_false, g4', cast1, V.refs, decide_true, oneOr, finV, finA, finC]
  · rw [if_neg g1]
    have g1' : bAt r = 92 := by simpa using g1
    have hi1 := e1 (by rw [g1']; decide)
    have hl := hl hi1
    rw [g1'] at h0
    have e92 : ((92 : UInt8).toNat : Int) = 92 := rfl
    rw [e92] at h0
    clear e1 c92 g1 g1' e92
    by_cases g2 : bAt (r.drop 1) = 110
    · rw [if_pos g2, vSound_some]
      have g2' := u8y 110 rfl g2
      have e10 : ((10 : UInt8).toNat : Int) = 10 := rfl
      clear g2 hl
      simp (disch := first | decide | omega | (simp only [LN]; omega) | (simp only [LN]; done) | fail) only [SV, f70, Int.reduceNeg, Nat.zero_add, Nat.reduceAdd, Bool.and_self, beq_self_eq_true, Nat.reduceBEq, V.own, V.own1, Bool.or_self, V.new, V.new1, D.flat, Bool.or_true, V.flatV, V.flat1, Bool.not_true, Bool.and_false, Bool.false_and, view, viewD, h0, Bool.false_eq_true, if_false, evBin, intBin, bne_self_eq_false, if_true, cast1, h1, eq_t, cast2, V.refs, decide_true, oneOr, finV, finA, finC, e10]
    · rw [if_neg g2]
      have g2' := u8n 110 rfl g2
      clear g2
      by_cases g3 : bAt (r.drop 1) = 116
      · rw [if_pos g3, vSound_some]
        have g3' := u8y 116 rfl g3
        have e9 : ((9 : UInt8).toNat : Int) = 9 := rfl
        clear g3 hl
        simp (disch := first | decide | omega | (simp only [LN]; omega) | (simp only [LN]; done) | fail) only [SV, f70, Int.reduceNeg, Nat.zero_add, Nat.reduceAdd, Bool.and_self, beq_self_eq_true, Nat.reduceBEq, V.own, V.own1, Bool.or_self, V.new, V.new1, D.flat, Bool.or_true, V.flatV, V.flat1, Bool.not_true, Bool.and_false, Bool.false_and, view, viewD, h0, Bool.false_eq_true, if_false, evBin, intBin, bne_self_eq_false, if_true, cast1, h1, eq_t, cast2, V.refs, decide_true, oneOr, finV, finA, finC, e9]
      · rw [if_neg g3]
        have g3' := u8n 116 rfl g3
        clear g3
        by_cases g4 : bAt (r.drop 1) = 92 ∨ bAt (r.drop 1) = 39 ∨ bAt (r.drop 1) = 34
        · rw [if_pos g4, vSound_some]
          clear hl
          rcases g4 with g4 | g4 | g4
          · have g4' := u8y 92 rfl g4
            clear g4
            simp (disch := first | decide | omega | (simp only [LN]; omega) | (simp only [LN]; done) | fail) only [SV, f70, Int.reduceNeg, Nat.zero_add, Nat.reduceAdd, Bool.and_self, beq_self_eq_true, Nat.reduceBEq, V.own, V.own1, Bool.or_self, V.new, V.new1, D.flat, Bool.or_true, V.flatV, V.flat1, Bool.not_true, Bool.and_false, Bool.false_and, view, viewD, h0, Bool.false_eq_true, if_false, evBin, intBin, bne_self_eq_false, if_true, cast1, h1, eq_t, cast2, V.refs, decide_true, oneOr, finV, finA, finC]
          · have g4' := u8y 39 rfl g4
            clear g4
            simp (disch := first | decide | omega | (simp only [LN]; omega) | (simp only [LN]; done) | fail) only [SV, f70, Int.reduceNeg, Nat.zero_add, Nat.reduceAdd, Bool.and_self, beq_self_eq_true, Nat.reduceBEq, V.own, V.own1, Bool.or_self, V.new, V.new1, D.flat, Bool.or_true, V.flatV, V.flat1, Bool.not_true, Bool.and_false, Bool.false_and, view, viewD, h0, Bool.false_eq_true, if_false, evBin, intBin, bne_self_eq_false, if_true, cast1, h1, eq_t, cast2, V.refs, decide_true, oneOr, finV, finA, finC]
          · have g4' := u8y 34 rfl g4
            clear g4
            simp (disch := first | decide | omega | (simp only [LN]; omega) | (simp only [LN]; done) | fail) only [SV, f70, Int.reduceNeg, Nat.zero_add, Nat.reduceAdd, Bool.and_self, beq_self_eq_true, Nat.reduceBEq, V.own, V.own1, Bool.or_self, V.new, V.new1, D.flat, Bool.or_true, V.flatV, V.flat1, Bool.not_true, Bool.and_false, Bool.false_and, view, viewD, h0, Bool.false_eq_true, if_false, evBin, intBin, bne_self_eq_false, if_true, cast1, h1, eq_t, cast2, V.refs, decide_true, oneOr, finV, finA, finC]
        · rw [if_neg g4]
          simp only [not_or] at g4
          have g5' := u8n 92 rfl g4.1
          have g6' := u8n 39 rfl g4.2.1
          have g7' := u8n 34 rfl g4.2.2
          clear g4
          unfold escD
          unfold escOut at hl
          by_cases g8 : cls (r.drop 1) = 3 ∧ cls (r.drop 2) = 3 ∧ cls (r.drop 3) = 3
          · rw [if_pos g8] at hl ⊢
            have d1 := dig_of g8.1
            have d2 := dig_of g8.2.1
            have d3 := dig_of g8.2.2
            have ev : 100 * digv r 1 + 10 * digv r 2 + digv r 3 = ((100 * ((bAt (r.drop 1)).toNat - 48) + 10 * ((bAt (r.drop 2)).toNat - 48) + ((bAt (r.drop 3)).toNat - 48) : Nat) : Int) := by
              unfold digv at d1 d2 d3 ⊢
              omega
            rw [ev] at hl
            have hb : 100 * ((bAt (r.drop 1)).toNat - 48) + 10 * ((bAt (r.drop 2)).toNat - 48) + ((bAt (r.drop 3)).toNat - 48) ≤ 999 := by
              unfold digv at d1 d2 d3
              omega
            generalize 100 * ((bAt (r.drop 1)).toNat - 48) + 10 * ((bAt (r.drop 2)).toNat - 48) + ((bAt (r.drop 3)).toNat - 48) = n at hl hb ⊢
            clear g8 d1 d2 d3 ev
            by_cases g9 : 255 < n
            · rw [if_pos g9, vSound_none]
              simp (disch := first | decide | omega | (simp only [LN]; omega) | (simp only [LN]; done) | fail) only [SV, f70, Int.reduceNeg, Nat.zero_add, Nat.reduceAdd, Bool.and_self, beq_self_eq_true, Nat.reduceBEq, V.own, V.own1, Bool.or_self, V.new, V.new1, D.flat, Bool.or_true, V.flatV, V.flat1, Bool.not_true, Bool.and_false, Bool.false_and, view, viewD, h0, Bool.false_eq_true, if_false, evBin, intBin, bne_self_eq_false, if_true, cast1, h1, V.refs, decide_true, hl, oneOr, finV, finA, finC]
            · rw [if_neg g9, vSound_some]
              have hw := u8wrap (n := (n : Int)) (by omega) (by omega)
              have hz : ((UInt8.ofNat n).toNat : Int) = n := by
                rw [UInt8.toNat_ofNat']; omega
              simp (disch := first | decide | omega | (simp only [LN]; omega) | (simp only [LN]; done) | fail) only [SV, f70, Int.reduceNeg, Nat.zero_add, Nat.reduceAdd, Bool.and_self, beq_self_eq_true, Nat.reduceBEq, V.own, V.own1, Bool.or_self, V.new, V.new1, D.flat, Bool.or_true, V.flatV, V.flat1, Bool.not_true, Bool.and_false, Bool.false_and, view, viewD, h0, Bool.false_eq_true, if_false, evBin, intBin, bne_self_eq_false, if_true, cast1, h1, V.refs, decide_true, hl, decide_false, e_conv, evConv, hw, cast4, oneOr, finV, finA, finC, hz]
          · rw [if_neg g8] at hl ⊢
            rw [vSound_none]
            clear g8
            simp (disch := first | decide | omega | (simp only [LN]; omega) | (simp only [LN]; done) | fail) only [SV, f70, Int.reduceNeg, Nat.zero_add, Nat.reduceAdd, Bool.and_self, beq_self_eq_true, Nat.reduceBEq, V.own, V.own1, Bool.or_self, V.new, V.new1, D.flat, Bool.or_true, V.flatV, V.flat1, Bool.not_true, Bool.and_false, Bool.false_and, view, viewD, h0, Bool.false_eq_true, if_false, evBin, intBin, bne_self_eq_false, if_true, cast1, h1, V.refs, decide_true, hl, oneOr, finV, finA, finC]
end Go.Vm
end
