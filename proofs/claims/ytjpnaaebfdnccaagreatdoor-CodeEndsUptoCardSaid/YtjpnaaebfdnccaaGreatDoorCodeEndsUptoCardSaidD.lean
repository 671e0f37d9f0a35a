/-
  Parts of the proof: Package strings' Builder at this program: copyCheck, WriteByte, WriteString. Library functions at this program, told to the reckoning: IndexByte, Count, Itoa, Atoi, strings.Builder. Functions that defer one closure: no panic, the closure does nothing. The machine by reckoning: functions whose text goes with any number of blocks. The closures that code.Read and code.Load defer: without a panic they do nothing. The functions that both slothlaw17.awake and the document's Check run through, as the machine's text. What slothlaw17.awake runs through, as the machine's text; what is known of the library. slothlaw17.awake: Check, Print, Read, Bytes, Load of the table of id. slothlaw17.awake: Load, and the whole. The machine's equations, in a form in which simp works from the inside out and stops where a test is open. Typed data in the machine: lists of structures as rows of cells. Maps, in equations for simp. Jumps, in equations. One name for the machine's equations. One name for more of the simp set. Tables of instructions as typed data. What the functions of packages peep and code come to: plain definitions. The document's answer for one instruction: its numbers, its needs, what lies behind it. Conditions: none.
-/
import Derived.Test.YtjpnaaebfdnccaaGreatDoorCodeEndsUptoCardSaidC
import Derived.Test.YtjpnaaebfdnccaaGreatDoorChecked
import Derived.Lib.LaidTab
import Derived.Lib.SmallJoins
import Derived.Below
import Derived.Recover
import Derived.KernelRfl
set_option linter.unusedVariables false
set_option linter.unusedSimpArgs false

section
set_option linter.unusedVariables false
namespace Go.Vm
open Go.RowKit Go.Shelf Go.Proofs

set_option maxHeartbeats 2000000 in
set_option maxRecDepth 100000 in
theorem tB_used (b : Nat) (w : World) (h0 : w.cell? ⟨b, 0, none⟩ = some (.pointer (some ⟨b, 0, none⟩))) :
    Calls Tryz.prog 87 #[.pointer (some ⟨b, 0, none⟩)] w fun e w' => e = .returned (.tuple #[]) ∧ w' = w := by
  obtain ⟨j, hj, _⟩ := Option.map_eq_some_iff.1 Tryz.Builder_Extra_169.sizeBuilder
  have mixed : Tryz.prog.follows .mixedOrders = true := by kernel_rfl
  have t72 := Tryz.underlying78; have a72 := Tryz.isAgg78; have z72 := Tryz.sizeOf78; have v72 := Tryz.zeroValue78; have u72 := Tryz.runUnderlying78
  have t70 := Tryz.underlying76; have a70 := Tryz.isAgg76; have z70 := Tryz.sizeOf76; have v70 := Tryz.zeroValue76; have u70 := Tryz.runUnderlying76
  have t9 := Tryz.underlying9; have a9 := Tryz.isAgg9; have z9 := Tryz.sizeOf9; have v9 := Tryz.zeroValue9; have u9 := Tryz.runUnderlying9
  have t4 := Tryz.underlying4; have a4 := Tryz.isAgg4; have z4 := Tryz.sizeOf4; have v4 := Tryz.zeroValue4; have u4 := Tryz.runUnderlying4
  have t164 := Tryz.underlying145; have a164 := Tryz.isAgg145; have z164 := Tryz.sizeOf145; have v164 := Tryz.zeroValue145; have u164 := Tryz.runUnderlying145
  go_enter Tryz.func87, Tryz.ntmps87
  go_wp2
  rw [Lib.run_neq_ptr_same w _ Tryz.underlying76 hj]
  go_wp2
  go_end0
  exact ⟨rfl, rfl⟩

set_option maxHeartbeats 2000000 in
set_option maxRecDepth 100000 in
theorem tB_fresh (b : Nat) (w : World) (h0 : w.cell? ⟨b, 0, none⟩ = some (.pointer none)) (hsh : w.shape? b = some (78, 2)) (hfz : w.frozen? ⟨b, 0, none⟩ = false) :
    Calls Tryz.prog 87 #[.pointer (some ⟨b, 0, none⟩)] w fun e w' => e = .returned (.tuple #[]) ∧ w' = w.setCell ⟨b, 0, none⟩ (.pointer (some ⟨b, 0, none⟩)) := by
  obtain ⟨j, hj, hjs⟩ := Option.map_eq_some_iff.1 Tryz.Builder_Extra_169.sizeBuilder
  have mixed : Tryz.prog.follows .mixedOrders = true := by kernel_rfl
  have t72 := Tryz.underlying78; have a72 := Tryz.isAgg78; have z72 := Tryz.sizeOf78; have v72 := Tryz.zeroValue78; have u72 := Tryz.runUnderlying78
  have t70 := Tryz.underlying76; have a70 := Tryz.isAgg76; have z70 := Tryz.sizeOf76; have v70 := Tryz.zeroValue76; have u70 := Tryz.runUnderlying76
  have t9 := Tryz.underlying9; have a9 := Tryz.isAgg9; have z9 := Tryz.sizeOf9; have v9 := Tryz.zeroValue9; have u9 := Tryz.runUnderlying9
  have t4 := Tryz.underlying4; have a4 := Tryz.isAgg4; have z4 := Tryz.sizeOf4; have v4 := Tryz.zeroValue4; have u4 := Tryz.runUnderlying4
  have t164 := Tryz.underlying145; have a164 := Tryz.isAgg145; have z164 := Tryz.sizeOf145; have v164 := Tryz.zeroValue145; have u164 := Tryz.runUnderlying145
  go_enter Tryz.func87, Tryz.ntmps87
  go_wp2
  rw [Lib.run_to_unsafe w ⟨b, 0, none⟩ Tryz.underlying76 Tryz.underlying145 hj (by rw [hjs]; decide) hsh (Nat.zero_lt_succ 1)]
  simp only [Result.andThen]
  rw [Oper.upon_value]
  go_wp2
  rw [run_callFunc_extern Tryz.func105 (by kernel_rfl) (by kernel_rfl) (by kernel_rfl) (e := Extern.AbiNoEscape.same) (by kernel_rfl)]
  rw [Lib.run_noEscape]
  simp only [Result.andThen]
  rw [Oper.upon_value]
  go_wp2
  rw [Lib.run_from_unsafe w ⟨b, 0, none⟩ Tryz.underlying145 Tryz.underlying76 hj hsh Tryz.Builder_Extra_169.liesBuilder]
  simp only [Result.andThen]
  rw [Oper.upon_value]
  go_wp2
  go_end0
  exact ⟨rfl, rfl⟩

theorem tB_copyCheck {w : World} {b : Nat} {p v : Value} {bs : List Value} (h : BAt 78 5 w b p v bs) :
    Calls Tryz.prog 87 #[.pointer (some ⟨b, 0, none⟩)] w fun e w' => e = .returned (.tuple #[]) ∧ BAt 78 5 w' b (.pointer (some ⟨b, 0, none⟩)) v bs ∧ w'.os = w.os ∧ w'.tape = w.tape ∧ w'.output = w.output ∧ SizeEq w' w ∧ ∀ k, k ≠ b → w'.heap[k]? = w.heap[k]? := by
  rcases h.hp with rfl | rfl
  · have hA : Lib.BuilderAtF 78 5 0 b (.pointer none) bs w := ⟨Nat.zero_le _, v, h.hb, h.own, h.ne⟩
    refine (tB_fresh b w hA.cell0 hA.shape hA.frozen0).mono ?_
    rintro e w' ⟨rfl, rfl⟩
    refine ⟨rfl, ⟨.inr rfl, ?_, ?_, h.ne⟩, rfl, rfl, rfl, by simp [SizeEq], fun k hk => Below.heap_setCell _ _ _ _ hk⟩
    · have := h.hb
      simp [World.setCell, Array.getElem?_modify, this]
    · exact h.own.kept (row := some b) ⟨rfl, rfl, rfl, by simp [World.setCell], fun k _ hk => Below.heap_setCell _ _ _ _ (fun e => hk (by simp [e]))⟩ (Or.inr h.ne)
  · have hA : Lib.BuilderAtF 78 5 0 b (.pointer (some ⟨b, 0, none⟩)) bs w := ⟨Nat.zero_le _, v, h.hb, h.own, h.ne⟩
    refine (tB_used b w hA.cell0).mono ?_
    rintro e w' ⟨rfl, rfl⟩
    exact ⟨rfl, h, rfl, rfl, rfl, rfl, fun _ _ => rfl⟩

set_option maxHeartbeats 2000000 in
set_option maxRecDepth 100000 in
theorem tB_WriteByte {w : World} {b : Nat} {p v : Value} {bs : List Value} (h : BAt 78 5 w b p v bs) (c : Int) (hlen : bs.length + 1 ≤ 140737488355328) :
    Calls Tryz.prog 110 #[.pointer (some ⟨b, 0, none⟩), .int .u8 c] w fun e w' => e = .returned .nilIface ∧ ∃ v', BAt 78 5 w' b (.pointer (some ⟨b, 0, none⟩)) v' (bs ++ [.int .u8 c]) ∧ Kept w w' b v v' := by
  obtain ⟨i0, hi, hz0, hz1, hz2⟩ := info_parts (show (Tryz.prog.info? 5).map (fun i => (i.zero, i.size, i.bytes)) = some (some (.int .u8 0), 1, 1) from Tryz.Builder_Extra_169.infoByte)
  have mixed : Tryz.prog.follows .mixedOrders = true := by kernel_rfl
  have t72 := Tryz.underlying78; have a72 := Tryz.isAgg78; have z72 := Tryz.sizeOf78; have v72 := Tryz.zeroValue78; have u72 := Tryz.runUnderlying78
  have t70 := Tryz.underlying76; have a70 := Tryz.isAgg76; have z70 := Tryz.sizeOf76; have v70 := Tryz.zeroValue76; have u70 := Tryz.runUnderlying76
  have t5 := Tryz.underlying5; have a5 := Tryz.isAgg5; have z5 := Tryz.sizeOf5; have v5 := Tryz.zeroValue5; have u5 := Tryz.runUnderlying5
  have t37 := Tryz.underlying40; have a37 := Tryz.isAgg40; have z37 := Tryz.sizeOf40; have v37 := Tryz.zeroValue40; have u37 := Tryz.runUnderlying40
  have t9 := Tryz.underlying9; have a9 := Tryz.isAgg9; have z9 := Tryz.sizeOf9; have v9 := Tryz.zeroValue9; have u9 := Tryz.runUnderlying9
  have t4 := Tryz.underlying4; have a4 := Tryz.isAgg4; have z4 := Tryz.sizeOf4; have v4 := Tryz.zeroValue4; have u4 := Tryz.runUnderlying4
  have t164 := Tryz.underlying145; have a164 := Tryz.isAgg145; have z164 := Tryz.sizeOf145; have v164 := Tryz.zeroValue145; have u164 := Tryz.runUnderlying145
  have e240 : ∀ args w, (callFunc 87 args).run Tryz.prog w = .ok (.enter 87 args) w := enters_of Tryz.func87 (by kernel_rfl) rfl
  go_enter Tryz.func110, Tryz.ntmps110
  go_wp2_with (go_at_fn 87; refine (tB_copyCheck h).mono ?_)
  rintro e w1 ⟨rfl, h1, o1, o2, o3, hsz1, hold1⟩
  obtain ⟨_, hbk, hown, hne⟩ := h1
  have c0 : w1.cell? ⟨b, 0, none⟩ = some (.pointer (some ⟨b, 0, none⟩)) := by rw [Lib.cell_of_heap hbk]; rfl
  have c1 : w1.cell? ⟨b, 1, none⟩ = some v := by rw [Lib.cell_of_heap hbk]; rfl
  go_wp2_with (at_builtin; refine wp_append_ownX rfl _ _ 40 rfl 5 i0 Tryz.underlying40 hi hz0 hz1 hz2 _ _ _ rfl (hown.alloc _) ⟨w1.heap.size, 0, none⟩ 1 1 [.int .u8 c] rfl rfl ?c1 ?c2 ?c3 ?c4 ?_)
  case c1 =>
    intro j u hj
    match j, hj with
    | 0, hj => simp at hj; subst hj; simp [Addr.add]
  case c2 => intro u hu; simp at hu; subst hu; rfl
  case c3 => unfold maxLen; omega
  case c4 => omega
  intro v' w2 hown' hgrow _ hsame
  have hlt : b < w1.heap.size := by
    rcases Nat.lt_or_ge b w1.heap.size with h' | h'
    · exact h'
    · simp [Array.getElem?_eq_none h'] at hbk
  have hb2 : w2.heap[b]? = some (.cells #[.pointer (some ⟨b, 0, none⟩), v] 78 (0, 0)) := by
    rw [hgrow.block b (by simp; omega) (fun e => hne e.symm), Lib.alloc_old w1 _ b hlt]
    exact hbk
  have d0 : w2.cell? ⟨b, 0, none⟩ = some (.pointer (some ⟨b, 0, none⟩)) := by rw [Lib.cell_of_heap hb2]; rfl
  have d1 : w2.cell? ⟨b, 1, none⟩ = some v := by rw [Lib.cell_of_heap hb2]; rfl
  have f1 : w2.frozen? ⟨b, 1, none⟩ = false := Lib.frozen_of_heap hb2 1
  obtain ⟨g, cap, rfl⟩ : ∃ g cap, v' = .slice (some ⟨g, 0, none⟩) (bs.length + 1) cap := by
    rcases hown'.2 with ⟨_, h0⟩ | ⟨g, cap, cur, fz, hv, _⟩
    · omega
    · exact ⟨g, cap, hv⟩
  go_wp2
  go_ret
  refine ⟨rfl, _, bld_put (by decide : (78 : TypeId) ≠ 5) (w := w) (w1 := w1.alloc (.cells #[.int .u8 c] 5)) (.inr (by simp [hsz1.eq])) ⟨o1, o2, o3⟩ (fun k hk hkb => by rw [Lib.alloc_old w1 _ k (by rw [hsz1.eq]; exact hk)]; exact hold1 k hkb) hb2 hgrow (by simpa using hown') hsame (fun g hg => (h.own.lt g hg).2)⟩

set_option maxHeartbeats 2000000 in
set_option maxRecDepth 100000 in
theorem tB_WriteString {w : World} {b : Nat} {p v : Value} {bs : List Value} (h : BAt 78 5 w b p v bs) (s : ByteArray) (hlen : bs.length + s.size ≤ 140737488355328) :
    Calls Tryz.prog 47 #[.pointer (some ⟨b, 0, none⟩), .string s] w fun e w' => e = .returned (.tuple #[.int .i64 s.size, .nilIface]) ∧ ∃ v', BAt 78 5 w' b (.pointer (some ⟨b, 0, none⟩)) v' (bs ++ Lib.strCells s) ∧ Kept w w' b v v' ∧ (v = .slice none 0 0 → s.size = 0 → v' = .slice none 0 0) := by
  obtain ⟨i0, hi, hz0, hz1, hz2⟩ := info_parts (show (Tryz.prog.info? 5).map (fun i => (i.zero, i.size, i.bytes)) = some (some (.int .u8 0), 1, 1) from Tryz.Builder_Extra_169.infoByte)
  have mixed : Tryz.prog.follows .mixedOrders = true := by kernel_rfl
  have t72 := Tryz.underlying78; have a72 := Tryz.isAgg78; have z72 := Tryz.sizeOf78; have v72 := Tryz.zeroValue78; have u72 := Tryz.runUnderlying78
  have t70 := Tryz.underlying76; have a70 := Tryz.isAgg76; have z70 := Tryz.sizeOf76; have v70 := Tryz.zeroValue76; have u70 := Tryz.runUnderlying76
  have t37 := Tryz.underlying40; have a37 := Tryz.isAgg40; have z37 := Tryz.sizeOf40; have v37 := Tryz.zeroValue40; have u37 := Tryz.runUnderlying40
  have t3 := Tryz.underlying3; have a3 := Tryz.isAgg3; have z3 := Tryz.sizeOf3; have v3 := Tryz.zeroValue3; have u3 := Tryz.runUnderlying3
  have t9 := Tryz.underlying9; have a9 := Tryz.isAgg9; have z9 := Tryz.sizeOf9; have v9 := Tryz.zeroValue9; have u9 := Tryz.runUnderlying9
  have t4 := Tryz.underlying4; have a4 := Tryz.isAgg4; have z4 := Tryz.sizeOf4; have v4 := Tryz.zeroValue4; have u4 := Tryz.runUnderlying4
  have t164 := Tryz.underlying145; have a164 := Tryz.isAgg145; have z164 := Tryz.sizeOf145; have v164 := Tryz.zeroValue145; have u164 := Tryz.runUnderlying145
  have t5 := Tryz.underlying5; have a5 := Tryz.isAgg5; have z5 := Tryz.sizeOf5; have v5 := Tryz.zeroValue5; have u5 := Tryz.runUnderlying5
  have e240 : ∀ args w, (callFunc 87 args).run Tryz.prog w = .ok (.enter 87 args) w := enters_of Tryz.func87 (by kernel_rfl) rfl
  go_enter Tryz.func47, Tryz.ntmps47
  go_wp2_with (go_at_fn 87; refine (tB_copyCheck h).mono ?_)
  rintro e w1 ⟨rfl, h1, o1, o2, o3, hsz1, hold1⟩
  obtain ⟨_, hbk, hown, hne⟩ := h1
  have c0 : w1.cell? ⟨b, 0, none⟩ = some (.pointer (some ⟨b, 0, none⟩)) := by rw [Lib.cell_of_heap hbk]; rfl
  have c1 : w1.cell? ⟨b, 1, none⟩ = some v := by rw [Lib.cell_of_heap hbk]; rfl
  go_wp2_with (at_builtin; refine wp_append_own_strX rfl _ _ 40 9 rfl 5 i0 Tryz.underlying40 Tryz.underlying9 hi hz0 hz1 hz2 _ _ _ rfl hown s rfl ?c3 ?c4 ?_)
  case c3 => unfold maxLen; omega
  case c4 => omega
  intro v' w2 hown' hgrow hnil hsame
  have hlt : b < w1.heap.size := by
    rcases Nat.lt_or_ge b w1.heap.size with h' | h'
    · exact h'
    · simp [Array.getElem?_eq_none h'] at hbk
  have hb2 : w2.heap[b]? = some (.cells #[.pointer (some ⟨b, 0, none⟩), v] 78 (0, 0)) := by
    rw [hgrow.block b hlt (fun e => hne e.symm)]
    exact hbk
  have d0 : w2.cell? ⟨b, 0, none⟩ = some (.pointer (some ⟨b, 0, none⟩)) := by rw [Lib.cell_of_heap hb2]; rfl
  have d1 : w2.cell? ⟨b, 1, none⟩ = some v := by rw [Lib.cell_of_heap hb2]; rfl
  have f1 : w2.frozen? ⟨b, 1, none⟩ = false := Lib.frozen_of_heap hb2 1
  obtain ⟨ao, n', cap, rfl⟩ : ∃ ao n' cap, v' = .slice ao n' cap := by
    rcases hown'.2 with ⟨hv, _⟩ | ⟨g, cap, cur, fz, hv, _⟩
    · exact ⟨_, _, _, hv⟩
    · exact ⟨_, _, _, hv⟩
  go_wp2
  go_ret2
  have hp := bld_put (bs' := bs ++ Lib.strCells s) (by decide : (78 : TypeId) ≠ 5) (w := w) (.inl hsz1.eq) ⟨o1, o2, o3⟩ (fun k hk hkb => hold1 k hkb) hb2 hgrow (by simpa [Lib.strCells_length] using hown') hsame (fun g hg => (h.own.lt g hg).2)
  exact ⟨rfl, _, hp.1, hp.2, fun h1 h2 => hnil.2 ⟨h1, by
    obtain ⟨⟨l⟩⟩ := s
    cases l with
    | nil => rfl
    | cons a r => simp [ByteArray.size] at h2⟩⟩

theorem tB_wb : WbOk Tryz.prog 110 78 5 := fun h c hl => tB_WriteByte h c hl
theorem tB_ws : WsOk Tryz.prog 47 78 5 := fun h s hl => tB_WriteString h s hl
end Go.Vm
end

section
namespace Go.Vm
open Go.RowKit Go.Shelf Go.Proofs Go.Sort

def GT : Nat → Option (List D)
  | 0 => some (Lib.pow10Tab.map fun z => .int .u64 z)
  | _ => none
theorem gP10 : Tryz.prog.globalNamed "internal/strconv.uint64pow10" = some 0 := by kernel_rfl
theorem repD_int {w : World} {F : Nat → Prop} {v : Value} {k : IntKind} {n : Int} (h : RepD w F v (.int k n)) : v = .int k n := by
  cases h with | int k n => rfl
theorem tab_of_glob {w : World} {F : Nat → Prop} (h : GlobRel w F GT) : Lib.TabIs Tryz.prog w "internal/strconv.uint64pow10" .u64 Lib.pow10Tab := by
  have hx := h 0 _ rfl
  rw [if_neg (show ¬ isHandle (Lib.pow10Tab.map fun z => D.int .u64 z) = true from fun e => Bool.noConfusion (show false = true from e))] at hx
  obtain ⟨h1, cs, t, fz, h2, h3⟩ := hx
  unfold Lib.TabIs World.var?
  rw [gP10]
  show (match w.heap[0]? with | some (.cells cs _ _) => some cs | _ => none) = _
  rw [h2]
  show some cs = _
  congr 1
  apply Array.ext
  · rw [h3]; simp
  · intro j hj1 hj2
    cases h1 with
    | ptr b o cells g hf hc hr =>
      have hj : j < Lib.pow10Tab.length := by simpa using hj2
      have e : (Lib.pow10Tab.map fun z => D.int .u64 z)[j]? = some (.int .u64 Lib.pow10Tab[j]) := by simp [hj]
      have hv := hr j _ e
      have hg := repD_int hv
      have hcell := hc j _ e
      rw [hg, Nat.zero_add] at hcell
      have : w.cell? ⟨0, j, none⟩ = some cs[j] := by
        rw [Lib.cell_of_heap h2]
        simp [hj1]
      rw [this] at hcell
      simpa using Option.some.inj hcell
theorem nothing_new {w : World} {F : Nat → Prop} {base : Nat} (hF : ∀ b, F b → b < w.heap.size) : HeapRel w F (fun _ _ => False) base (fun _ => none) 0 (indexed []) :=
  ⟨fun b blk h => absurd (show look [] b = some blk from h) (by simp [look]), fun b b' l l' h => (by cases h), fun b l h => (by cases h), hF⟩
theorem mixedZ : Tryz.prog.follows .mixedOrders = true := by kernel_rfl
theorem pure_index (s : List UInt8) (c : UInt8) (a b : Bool) : PureCall Tryz.prog GT 123 [.d a (.str s), .d b (.int .u8 c.toNat)] (.d false (.int .i64 (Lib.indexByte s c))) [] := by
  intro w F vals hF hG hR
  obtain ⟨hsz, hval⟩ := hR
  obtain ⟨l⟩ := vals
  match l, hsz, hval with
  | [v0, v1], hsz, hval =>
    obtain ⟨t, e0, e0'⟩ := (hval 0 v0 (.d a (.str s)) rfl rfl).str_inv
    have e1 := (hval 1 v1 (.d b (.int .u8 c.toNat)) rfl rfl).int_inv
    subst e0; subst e1
    refine (Tryz.strings_IndexByte t c.toNat w).mono ?_
    rintro e w' ⟨rfl, rfl⟩
    refine ⟨_, F, fun _ => none, rfl, .refl _ _, fun b h => .inl h, ?_, nothing_new hF⟩
    have : (c.toNat : Int).toNat.toUInt8 = c := by simp
    rw [← e0', this]
    exact .d _ _ _ (.int _ _)
  | [], hsz, _ => simp at hsz
  | [_], hsz, _ => simp at hsz
  | _ :: _ :: _ :: _, hsz, _ => simp at hsz
theorem pure_count (s : List UInt8) (c : UInt8) (a b : Bool) : PureCall Tryz.prog GT 115 [.d a (.str s), .d b (.str [c])] (.d false (.int .i64 (s.count c))) [] := by
  intro w F vals hF hG hR
  obtain ⟨hsz, hval⟩ := hR
  obtain ⟨l⟩ := vals
  match l, hsz, hval with
  | [v0, v1], hsz, hval =>
    obtain ⟨t, e0, e0'⟩ := (hval 0 v0 (.d a (.str s)) rfl rfl).str_inv
    obtain ⟨u, e1, e1'⟩ := (hval 1 v1 (.d b (.str [c])) rfl rfl).str_inv
    subst e0; subst e1
    have hu : u = ⟨#[c]⟩ := by
      obtain ⟨u⟩ := u
      obtain ⟨u⟩ := u
      simp only at e1'
      rw [← e1']
    subst hu
    refine (Tryz.strings_Count_one t c w).mono ?_
    rintro e w' ⟨rfl, rfl⟩
    refine ⟨_, F, fun _ => none, rfl, .refl _ _, fun b h => .inl h, ?_, nothing_new hF⟩
    rw [e0']
    exact .d _ _ _ (.int _ _)
  | [], hsz, _ => simp at hsz
  | [_], hsz, _ => simp at hsz
  | _ :: _ :: _ :: _, hsz, _ => simp at hsz
theorem pure_itoa (n : Int) (a : Bool) (h0 : -9223372036854775808 ≤ n) (h1 : n ≤ 9223372036854775807) : PureCall Tryz.prog GT 49 [.d a (.int .i64 n)] (.d false (.str (Lib.itoa n))) [] := by
  intro w F vals hF hG hR
  obtain ⟨hsz, hval⟩ := hR
  obtain ⟨l⟩ := vals
  match l, hsz, hval with
  | [v0], hsz, hval =>
    have e0 := (hval 0 v0 (.d a (.int .i64 n)) rfl rfl).int_inv
    subst e0
    refine (Tryz.strconv_Itoa n h0 h1 w (tab_of_glob hG)).mono ?_
    rintro e w' ⟨rfl, k, os, rfl⟩
    have hsz : (grow (w.drewN k) os).heap.size = w.heap.size + os.size := by
      show ((w.drewN k).heap ++ os).size = _
      simp
    refine ⟨_, F, fun _ => none, rfl, ⟨rfl, rfl, rfl, by rw [hsz]; omega, fun j hj => ?_⟩, fun b h => .inl h, ?_, nothing_new (fun b h => by rw [hsz]; have := hF b h; omega)⟩
    · show ((w.drewN k).heap ++ os)[j]? = _
      rw [Array.getElem?_append_left (by simpa using hj)]
      simp
    · exact .d _ _ _ (.str ⟨(Lib.itoa n).toArray⟩)
  | [], hsz, _ => simp at hsz
  | _ :: _ :: _, hsz, _ => simp at hsz
theorem pure_atoi (s : List UInt8) (a : Bool) (n : Int) (hl : s.length ≤ 18) (h : Lib.atoi s = some n) : PureCall Tryz.prog GT 111 [.d a (.str s)] (.tup [.d false (.int .i64 n), .d false .nilif]) [] := by
  intro w F vals hF hG hR
  obtain ⟨hsz, hval⟩ := hR
  obtain ⟨l⟩ := vals
  match l, hsz, hval with
  | [v0], hsz, hval =>
    obtain ⟨t, e0, e0'⟩ := (hval 0 v0 (.d a (.str s)) rfl rfl).str_inv
    subst e0
    have hsz' : t.size ≤ 18 := by
      have : t.size = t.data.toList.length := by simp
      rw [this, ← e0']; exact hl
    refine (Tryz.strconv_Atoi t n hsz' (by rw [← e0']; exact h) w).mono ?_
    rintro e w' ⟨rfl, b, rfl⟩
    have hs := Lib.bytesWorld_size w 5 b
    refine ⟨_, F, fun _ => none, rfl, Go.Joins.below_bytesWorld _ w 5 b (Nat.le_refl _), fun b h => .inl h, ?_, nothing_new (fun x hx => by rw [hs]; have := hF x hx; omega)⟩
    refine .tup _ _ rfl fun j v x hv hx => ?_
    match j with
    | 0 => simp at hv hx; subst hv; subst hx; exact .d _ _ _ (.int _ _)
    | 1 => simp at hv hx; subst hv; subst hx; exact .d _ _ _ .nilif
    | j + 2 => simp at hv
  | [], hsz, _ => simp at hsz
  | _ :: _ :: _, hsz, _ => simp at hsz
end Go.Vm
end

section
namespace Go.Vm
open Go.RowKit
variable {P : Program}

def Cx.later (K : Cx) (ds : List Deferred) : Cx := ⟨K.call, K.eff, K.glob, K.loc, ds⟩
theorem Cx.later_sound {K : Cx} (h : K.Sound P) (ds : List Deferred) : (K.later ds).Sound P := ⟨h.1, h.2, h.3⟩
theorem ev_later (K : Cx) (ds : List Deferred) (s : S) : ∀ e, ev (K.later ds) s e = ev K s e := by
  intro e
  induction e <;> simp only [ev, *] <;> rfl

theorem StRel.later {K : Cx} {X : Nat → Nat → Prop} {base : Nat} {w0 : World} {F0 : Nat → Prop} {m : Nat} {σ0 : Nat → Option Loc} {n : Nat} {s : S} {a a' : Act} {w : World} {F : Nat → Prop} {σ : Nat → Option Loc}
    (h : StRel K X base w0 F0 m σ0 n s a w F σ) {ds : List Deferred} (hs : a'.tmps.size = n) (hd : a'.defers = ds) (ht : ∀ t v, look s.rho t = some v → a'.tmps.getD t undef = a.tmps.getD t undef) : StRel (K.later ds) X base w0 F0 m σ0 n s a' w F σ :=
  ⟨h.heap, h.glob, h.le, h.frame, h.frz, hs, hd, fun t v hv => by rw [ht t v hv]; exact h.rho t v hv, h.dom, h.stab, h.nxm, h.xm, h.sub⟩

theorem fin_sound {K : Cx} {fn : Func} {own : Bool} {res : List E} {m : Nat} {w w' : World} {F F' : Nat → Prop} {σ σ' : Nat → Option Loc} {s : S} {a : Act} {vs : List V} {r : V} {news : List Blk} {mv : List Nat}
    (hres : mapO (resE P) fn.results.toList = some res) (hs : StRel K (OwnB σ) w.heap.size w F m σ fn.ntmps s a w' F' σ') (hvs : mapO (ev K s) res = some vs) (hfin : finish m own s (oneOr vs) = some (r, news, mv)) :
    ∃ v, (results fn a.tmps).run P w' = .ok v w' ∧ ∃ v' F' σ', Ending.returned v = .returned v' ∧ Frame (OwnB σ) w.heap.size w w' ∧ (∀ b, F b → F' b) ∧ (∀ b, F' b → F b ∨ w.heap.size ≤ b) ∧
      RepV w' F' w.heap.size σ' v' r ∧ HeapRel w' F' (OwnB σ) w.heap.size σ' news.length (indexed news) ∧ ∀ i l, i < m → σ i = some l → i ∉ mv → σ' i = some l := by
  obtain ⟨v, h1, h2⟩ := results_sound hs hres hvs
  unfold finish at hfin
  simp only at hfin
  generalize (if own = true then reachB s.heap (refN s.heap + 64) [] (List.range m ++ (oneOr vs).refs) else List.range m) = bs at hfin
  split at hfin
  case isFalse => cases hfin
  rename_i hc2
  simp only [Bool.and_eq_true, decide_eq_true_eq] at hc2
  obtain ⟨hnd, hpre⟩ := hc2
  cases h3 : finV (m == 0) bs s.heap (oneOr vs) with
  | none => simp [h3] at hfin
  | some r' =>
    cases h4 : mapO (finB (m == 0) bs s.heap) bs with
    | none => simp [h3, h4] at hfin
    | some news' =>
      simp only [h3, h4, Option.some.injEq, Prod.mk.injEq] at hfin
      obtain ⟨rfl, rfl, rfl⟩ := hfin
      have hpin : ∀ b, b < m → bs[b]? = some b := fun b hb' => by
        have : (bs.take m)[b]? = some b := by rw [hpre]; simp [hb']
        simpa [List.getElem?_take, hb'] using this
      have hX : ∀ b k, OwnB σ b k → bs[b]? = some b := fun b k hx => hpin b (hs.xm b k hx)
      have hy : Young (OwnB σ) w.heap.size bs σ' := by
        intro i l hl
        obtain ⟨hni, hl'⟩ := wo_some hl
        rcases (hs.heap.own i l hl').2.2.1 with h | h
        · exact h
        · have := List.mem_of_getElem? (hX i _ h)
          simp [this] at hni
      refine ⟨v, h1, v, FZ F' bs σ', outs bs σ', rfl, hs.frame, fun b hb' => .inl (hs.sub b hb'), fun b hb' => ?_, finV_sound hs.heap hy h3 h2, finB_heap hs.heap hy hnd hX h4, fun i l hi hl hm' => ?_⟩
      · rcases hb' with hb' | ⟨i, l, hl, rfl⟩
        · exact hs.frz b hb'
        · exact .inr (hy i l hl)
      · unfold outs
        rw [hpin i hi]
        exact hs.stab i l hi hl (fun hc => hm' (List.mem_filter.2 ⟨List.mem_range.2 hi, by simpa [List.contains_eq_mem] using hc⟩))

def layOk (k G : Nat) (cap : List Nat) : Code → Bool
  | .region _ ops draw => !draw && match ops.toList with
    | [o, p] => o.dst == some k && o.guard.isNone && p.dst == none && p.guard.isNone &&
      (match o.op with | .makeFunc (.func g) f c => g == G && f.toList.isEmpty && decide (c.toList.map (fun x => match x with | .tmp t => some t | _ => none) = cap.map some) | _ => false) &&
      (match p.op with | .defer c => c.args.toList.isEmpty && (match c.callee with | .value (.tmp t) => t == k | _ => false) | _ => false)
    | _ => false
  | _ => false

theorem tmps_of {l : List Operand} {cap : List Nat} (h : l.map (fun x => match x with | .tmp t => some t | _ => none) = cap.map some) : l = cap.map Operand.tmp := by
  induction l generalizing cap with
  | nil => cases cap <;> simp_all
  | cons x l ih =>
    cases cap with
    | nil => simp at h
    | cons t cap =>
      simp only [List.map_cons, List.cons.injEq] at h
      rw [ih h.2]
      cases x <;> simp_all
theorem lay_wp {k G : Nat} {cap : List Nat} {code : Code} (h : layOk k G cap code = true) {Q : Exit → Act → World → Prop} {a : Act} {w : World} (hk : k < a.tmps.size)
    (hQ : Q .normal { tmps := a.tmps.setIfInBounds k (.func (.func G) #[] (cap.map fun t => a.tmps.getD t undef).toArray), defers := { target := .fn (.func G) (cap.map fun t => a.tmps.getD t undef).toArray, args := #[] } :: a.defers } w) : code.wp P Q a w := by
  cases code with
  | region id ops draw =>
    simp only [layOk, Bool.and_eq_true, Bool.not_eq_true'] at h
    obtain ⟨rfl, h⟩ := h
    split at h
    · rename_i o p hops
      simp only [Bool.and_eq_true, beq_iff_eq, Option.isNone_iff_eq_none] at h
      obtain ⟨⟨⟨⟨⟨h1, h2⟩, h3⟩, h4⟩, h5⟩, h6⟩ := h
      obtain ⟨od, oo, ot, op, oa, og⟩ := o
      obtain ⟨pd, po, pt, pp, pa, pg⟩ := p
      simp only at h1 h2 h3 h4 h5 h6
      subst h1; subst h2; subst h3; subst h4
      split at h5
      case h_2 => cases h5
      rename_i g f c
      simp only [Bool.and_eq_true, beq_iff_eq, List.isEmpty_iff, decide_eq_true_eq] at h5
      obtain ⟨⟨rfl, hf⟩, hc⟩ := h5
      have hc := tmps_of hc
      obtain ⟨c⟩ := c
      obtain ⟨f⟩ := f
      simp only at hf hc
      subst hf; subst hc
      split at h6
      case h_2 => cases h6
      rename_i d
      obtain ⟨dc, da, dt⟩ := d
      simp only [Bool.and_eq_true, List.isEmpty_iff] at h6
      obtain ⟨h7, h8⟩ := h6
      split at h8
      case h_2 => cases h8
      rename_i t
      simp only [beq_iff_eq] at h8
      subst h8
      obtain ⟨da⟩ := da
      simp only at h7
      subst h7
      obtain ⟨ops⟩ := ops
      simp only at hops
      subst hops
      refine wp_region ?_
      have hmf : ∀ (fn : Fn) (first cap : Array Value) (w : World), (Instr.makeFunc fn first cap).run P w = .ok (.func fn first cap) w := fun _ _ _ _ => rfl
      have e : a.eval ∘ Operand.tmp = fun t => a.tmps.getD t undef := rfl
      simp only [List.size_toArray, List.length_cons, List.length_nil, List.range_succ, List.range_zero, List.nil_append, List.cons_append]
      simp [wpOps, Region.wanted, Oper.wp, Oper.upon, execOp, Act.put, Act.eval, resolve, Deferred.ofValue, go_sem, hmf, hk, e]
      left
      left
      simpa using hQ
    · cases h
  | _ => simp [layOk] at h

structure DfrF where
  c0 : C
  ca : C
  cb : C
  res : List E
  k : Nat
  G : Nat
  cap : List Nat

def dfrOk (P : Program) (f : FuncId) (n : Nat) (g : DfrF) : Bool := match P.funcs[f]? with
  | some fn => match fn.body with
    | some (.seq c0 (.seq ca (.seq r cb))) => chk P 0 fn.ntmps g.c0 c0 && chk P 0 fn.ntmps g.ca ca && layOk g.k g.G g.cap r && decide (g.k < fn.ntmps) && chk P 0 fn.ntmps g.cb cb &&
        decide (mapO (resE P) fn.results.toList = some g.res) && decide (n ≤ fn.ntmps) && (fn.name != "runtime.NumGoroutine") && callable P g.G
    | _ => false
  | none => false

inductive DfrRun (K : Cx) (g : DfrF) (args : List V) (r : V) (news : List Blk) : Prop where
  | early (s0 s1 : S) (vs : List V) (mv : List Nat) (h0 : exec K g.c0 (startS args []) = some (.nrm, s0)) (h1 : exec K g.ca s0 = some (.ret, s1)) (hv : mapO (ev K s1) g.res = some vs) (hf : finish 0 false s1 (oneOr vs) = some (r, news, mv))
  | late (s0 s1 : S) (h0 : exec K g.c0 (startS args []) = some (.nrm, s0)) (h1 : exec K g.ca s0 = some (.nrm, s1)) (hk : look s1.rho g.k = none) (h2 : ∀ ds, ∃ s2 vs mv, exec (K.later ds) g.cb s1 = some (.ret, s2) ∧ mapO (ev (K.later ds) s2) g.res = some vs ∧ finish 0 false s2 (oneOr vs) = some (r, news, mv))

def Quiet (P : Program) (G n : Nat) : Prop := ∀ (cap : Array Value) (w : World), cap.size = n → CallsD P G cap .returning w fun e u' w' => u' = .returning ∧ e = .returned (.tuple #[]) ∧ w' = w

theorem dfr_sound (hm : P.follows .mixedOrders = true) {K : Cx} (hK : K.Sound P) {f : FuncId} {g : DfrF} {args : List V} {r : V} {news : List Blk} (hok : dfrOk P f args.length g = true) (hq : Quiet P g.G g.cap.length) (hr : DfrRun K g args r news) (hd0 : K.dfr = [] := by rfl) :
    callable P f = true ∧ PureCall P K.glob f args r news := by
  unfold dfrOk at hok
  cases hf : P.funcs[f]? with
  | none => simp [hf] at hok
  | some fn =>
    simp only [hf] at hok
    split at hok
    case h_2 => cases hok
    rename_i c0 ca rg cb hb
    simp only [Bool.and_eq_true, decide_eq_true_eq] at hok
    obtain ⟨⟨⟨⟨⟨⟨⟨⟨k0, ka⟩, kr⟩, kk⟩, kb⟩, hres⟩, hn⟩, hname⟩, hG⟩ := hok
    refine ⟨by simp [callable, hf, hb, hname], fun w F vals hF hGl hargs => ?_⟩
    have hX : ∀ b k, ¬ OwnB (fun _ => none) b k := by rintro b k ⟨l, h, _⟩; cases h
    have hH : HeapRel w F (OwnB fun _ => none) w.heap.size (fun _ => none) ([] : List Blk).length (indexed []) := ⟨fun b blk h => by simp [indexed, look] at h, fun b b' l l' h => (by cases h), fun b l h => (by cases h), hF⟩
    refine calls_of_wp_defers hf hb ?_
    have hst : StRel K (OwnB fun _ => none) w.heap.size w F 0 (fun _ => none) fn.ntmps (startS args []) { tmps := vals ++ Array.replicate (fn.ntmps - vals.size) undef, defers := [] } w F (fun _ => none) := by
      refine ⟨hH, hGl, Nat.le_refl _, .refl _ _ _, fun b hb => .inl hb, ?_, hd0.symm, fun t v hv => ?_, fun b blk h => ?_, fun _ _ _ h _ => h, Nat.le_refl _, fun b k hx => ?_, fun _ h => h⟩
      · have := hargs.1
        simp; omega
      · obtain ⟨_, hv'⟩ := look_args args 0 t v hv
        rw [Nat.sub_zero] at hv'
        have ht : t < vals.size := by rw [hargs.1]; exact (List.getElem?_eq_some_iff.1 hv').1
        have hget : (vals ++ Array.replicate (fn.ntmps - vals.size) undef).getD t undef = vals[t] := by
          rw [Array.getD_eq_getD_getElem?, Array.getElem?_append_left ht]
          simp [ht]
        show RepV w F w.heap.size _ ((vals ++ Array.replicate (fn.ntmps - vals.size) undef).getD t undef) v
        rw [hget]
        exact hargs.2 t _ v (by simp [ht]) hv'
      · simp [startS, indexed, look] at h
      · exact absurd hx (hX b k)
    have shut : ∀ (s : S) (a : Act) (w' : World) (F' : Nat → Prop) (σ' : Nat → Option Loc) (vs : List V) (mv : List Nat) (K1 : Cx), StRel K1 (OwnB fun _ => none) w.heap.size w F 0 (fun _ => none) fn.ntmps s a w' F' σ' → mapO (ev K1 s) g.res = some vs → finish 0 false s (oneOr vs) = some (r, news, mv) →
        ∃ v, (results fn a.tmps).run P w' = .ok v w' ∧ (∃ v' F' σ', Ending.returned v = .returned v' ∧ Below w.heap.size w w' ∧ (∀ b, F' b → F b ∨ w.heap.size ≤ b) ∧
          RepV w' F' w.heap.size σ' v' r ∧ HeapRel w' F' (fun _ _ => False) w.heap.size σ' news.length (indexed news)) := by
      intro s a w' F' σ' vs mv K1 hs hvs hfin
      obtain ⟨v, h1, v', F'', σ'', he, hfr, _, hF', hR, hHr, _⟩ := fin_sound hres hs hvs hfin
      refine ⟨v, h1, v', F'', σ'', he, ⟨hfr.os, hfr.tape, hfr.output, hfr.size, fun k hk => hfr.block k hk (fun b => hX b k)⟩, hF', hR, ⟨hHr.blk, hHr.inj, fun b l hb => ?_, hHr.fro⟩⟩
      obtain ⟨o1, o2, o3, o4⟩ := hHr.own b l hb
      exact ⟨o1, o2, o3.imp id (fun hx => hX b _ hx), o4⟩
    have hev : ∀ ds (s : S), mapO (ev (K.later ds) s) g.res = mapO (ev K s) g.res := fun ds s => by
      have : ev (K.later ds) s = ev K s := funext fun e => ev_later K ds s e
      rw [this]
    cases hr with
    | early s0 s1 vs mv h0 h1 hv hfn =>
      refine wp_seq (wp_mono (exec_sound hm hK g.c0 c0 _ _ _ _ _ _ k0 h0 hst) fun e a w1 hp => ?_)
      obtain ⟨rfl, F1, σ1, hs1⟩ := hp
      refine wp_seq (wp_mono (exec_sound hm hK g.ca ca _ _ _ _ _ _ ka h1 hs1) fun e a w2 hp => ?_)
      obtain ⟨rfl, F2, σ2, hs2⟩ := hp
      obtain ⟨v, q1, q2⟩ := shut s1 a w2 F2 σ2 vs mv K hs2 hv hfn
      show Leaves P fn a.tmps _ a.defers .returning w2
      rw [hs2.dfr, hd0]
      exact ⟨v, q1, q2⟩
    | late s0 s1 h0 h1 hk h2 =>
      refine wp_seq (wp_mono (exec_sound hm hK g.c0 c0 _ _ _ _ _ _ k0 h0 hst) fun e a w1 hp => ?_)
      obtain ⟨rfl, F1, σ1, hs1⟩ := hp
      refine wp_seq (wp_mono (exec_sound hm hK g.ca ca _ _ _ _ _ _ ka h1 hs1) fun e a w2 hp => ?_)
      obtain ⟨rfl, F2, σ2, hs2⟩ := hp
      refine wp_seq (lay_wp kr (by rw [hs2.size]; exact kk) ?_)
      have hdf : a.defers = [] := hs2.dfr.trans hd0
      rw [hdf]
      generalize hcap : (g.cap.map fun t => a.tmps.getD t undef).toArray = cap
      have hcs : cap.size = g.cap.length := by rw [← hcap]; simp
      have hs3 : StRel (K.later [{ target := .fn (.func g.G) cap, args := #[] }]) (OwnB fun _ => none) w.heap.size w F 0 (fun _ => none) fn.ntmps s1 { tmps := a.tmps.setIfInBounds g.k (.func (.func g.G) #[] cap), defers := [{ target := .fn (.func g.G) cap, args := #[] }] } w2 F2 σ2 :=
        hs2.later (by simp [hs2.size]) rfl fun t v ht => by
          have hne : t ≠ g.k := by rintro rfl; rw [hk] at ht; cases ht
          simp only [Array.getD_eq_getD_getElem?]
          rw [Array.getElem?_setIfInBounds_ne (by omega)]
      obtain ⟨s2, vs, mv, h2, hv, hfn⟩ := h2 [{ target := .fn (.func g.G) cap, args := #[] }]
      refine wp_mono (exec_sound hm (Cx.later_sound hK _) g.cb cb _ _ _ _ _ _ kb h2 hs3) fun e a3 w3 hp => ?_
      obtain ⟨rfl, F3, σ3, hs4⟩ := hp
      obtain ⟨v, q1, q2⟩ := shut s2 a3 w3 F3 σ3 vs mv _ hs4 hv hfn
      show Leaves P fn a3.tmps _ a3.defers .returning w3
      rw [hs4.dfr]
      refine leaves_cons (f := g.G) (args := cap) (by simp) ?_ ((hq cap w3 hcs).mono ?_)
      · have := run_callFunc (w := w3) hG cap
        simpa [invoke] using this
      · rintro e u' w4 ⟨rfl, rfl, rfl⟩
        exact ⟨v, q1, q2⟩
end Go.Vm
end

section
namespace Go.Vm
open Go.RowKit
variable {P : Program}
def findM : List Row → FuncId → Nat → Option Row
  | [], _, _ => none
  | r :: l, f, m => if r.f = f ∧ r.m = m then some r else findM l f m
theorem findM_mem {T : List Row} {f : FuncId} {m : Nat} {r : Row} (h : findM T f m = some r) : r ∈ T ∧ r.f = f := by
  induction T with
  | nil => cases h
  | cons q T ih =>
    simp only [findM] at h
    split at h
    · rename_i he
      obtain rfl := Option.some.inj h
      exact ⟨by simp, he.1⟩
    · exact ⟨List.mem_cons_of_mem _ (ih h).1, (ih h).2⟩
def cxM (K0 : Cx) (N : Nat) (T : List Row) : Nat → Cx
  | 0 => K0
  | n + 1 => ⟨fun f vs => match findM T f 0 with
      | some r => if r.m = 0 ∧ r.n = vs.length then match runFunC N (cxM K0 N T n) r.g vs [] with
        | some (v, blks, _) => some (v, blks)
        | none => none
        else none
      | none => K0.call f vs,
    fun f vs bs => match findM T f bs.length with
      | some r => if r.m = bs.length ∧ r.n = vs.length then runFunC N (cxM K0 N T n) r.g vs bs else none
      | none => K0.eff f vs bs, K0.glob, K0.loc, []⟩

theorem cxM_dfr {K0 : Cx} (h : K0.dfr = []) (N : Nat) (T : List Row) (n : Nat) : (cxM K0 N T n).dfr = [] := by cases n; exact h; rfl
theorem cxM_glob (K0 : Cx) (N : Nat) (T : List Row) (n : Nat) : (cxM K0 N T n).glob = K0.glob := by cases n <;> rfl
theorem cxM_sound (hm : P.follows .mixedOrders = true) {K0 : Cx} (h0 : K0.Sound P) {N : Nat} {T : List Row} (hT : ∀ r ∈ T, funOk P r.f r.m r.n r.g = true) (hl : ∀ r ∈ T, K0.loc r.f = true → K0.glob = fun _ => none) (hd0 : K0.dfr = [] := by rfl) : ∀ n, (cxM K0 N T n).Sound P := by
  intro n
  induction n with
  | zero => exact h0
  | succ n ih =>
    have call : ∀ f args r news, (cxM K0 N T (n + 1)).call f args = some (r, news) → callable P f = true ∧ PureCall P K0.glob f args r news := by
      intro f args r news h
      simp only [cxM] at h
      split at h
      · rename_i q hq
        obtain ⟨h1, rfl⟩ := findM_mem hq
        split at h
        · rename_i hc
          split at h
          · rename_i v blks mv hr
            simp only [Option.some.injEq, Prod.mk.injEq] at h
            obtain ⟨rfl, rfl⟩ := h
            have ok := hT q h1
            rw [hc.1, hc.2] at ok
            have := pure_sound hm ih ok (runFunC_ok hr) (cxM_dfr hd0 ..)
            rw [cxM_glob] at this
            exact this
          · cases h
        · cases h
      · exact h0.pure f args r news h
    refine ⟨fun f args r news h => ?_, fun f args r news hl' h => ?_, fun f args blks r blks' mv h => ?_⟩
    · have := call f args r news h
      rw [← cxM_glob K0 N T (n + 1)] at this
      exact this
    · have hl2 : K0.loc f = true := hl'
      have h2 := h
      simp only [cxM] at h2
      split at h2
      · rename_i q hq
        obtain ⟨h1, rfl⟩ := findM_mem hq
        have e := hl q h1 hl2
        have := (call q.f args r news h).2
        rw [e] at this
        exact this
      · exact h0.loc f args r news hl2 h2
    · have h2 := h
      simp only [cxM] at h2
      split at h2
      · rename_i q hq
        obtain ⟨h1, rfl⟩ := findM_mem hq
        split at h2
        · rename_i hc
          have ok := hT q h1
          rw [hc.1, hc.2] at ok
          have := eff_sound hm ih ok (runFunC_ok h2) (cxM_dfr hd0 ..)
          rw [cxM_glob] at this
          exact this
        · cases h2
      · exact h0.eff f args blks r blks' mv h2

def tailC (N : Nat) (K : Cx) (g : DfrF) (s1 : S) : Option (V × List Blk) := match execC N K g.cb s1 with
  | some (.ret, s2) => match mapO (ev K s2) g.res with
    | some vs => match finish 0 false s2 (oneOr vs) with
      | some (r, news, _) => some (r, news)
      | none => none
    | none => none
  | _ => none
theorem dfr_of {N : Nat} {K : Cx} {g : DfrF} {args : List V} {s0 s1 : S} {r : V} {news : List Blk} (h0 : execC N K g.c0 (startS args []) = some (.nrm, s0)) (h1 : execC N K g.ca s0 = some (.nrm, s1)) (hk : look s1.rho g.k = none)
    (h2 : ∀ ds, tailC N (K.later ds) g s1 = some (r, news)) : DfrRun K g args r news := by
  refine .late s0 s1 ((execC_ok N K g.c0).1 _ _ h0) ((execC_ok N K g.ca).1 _ _ h1) hk fun ds => ?_
  have h := h2 ds
  unfold tailC at h
  split at h
  case h_2 => cases h
  rename_i s2 he
  split at h
  case h_2 => cases h
  rename_i vs hv
  split at h
  case h_2 => cases h
  rename_i r' news' mv hf
  simp only [Option.some.injEq, Prod.mk.injEq] at h
  obtain ⟨rfl, rfl⟩ := h
  exact ⟨s2, vs, mv, (execC_ok N _ g.cb).1 _ _ he, hv, hf⟩
end Go.Vm
end

section
namespace Go.Vm
open Go.Proofs
theorem quiet59 : Quiet Tryz.prog 59 2 := by
  intro cap w hcap
  obtain ⟨l⟩ := cap
  match l, hcap with
  | [p, q], _ =>
    refine (callsD_of_wpS (R := fun e u' w' => u' = .returning ∧ e = .returned (.tuple #[]) ∧ w' = w) Tryz.func59 rfl fun c₀ cs hu => ?_)
    apply wpS_seq
    apply wpS_region
    simp [wpOpsS, go_sem, recoverD, hu, Tryz.ntmps59, Exit.thenS]
    apply wpS_seq
    apply wpS_region
    simp [wpOpsS, go_sem, recoverD, hu, Tryz.ntmps59, Exit.thenS]
    refine wpS_cond (t := false) (by simp [Act.eval, Array.replicate]) ?_
    simp only [Bool.false_eq_true, if_false]
    refine wpS_of_wp (wp_skip ?_)
    cases c₀
    simp_all [bodyPostS, results, Tryz.results59]
theorem quiet76 : Quiet Tryz.prog 76 2 := by
  intro cap w hcap
  obtain ⟨l⟩ := cap
  match l, hcap with
  | [p, q], _ =>
    refine (callsD_of_wpS (R := fun e u' w' => u' = .returning ∧ e = .returned (.tuple #[]) ∧ w' = w) Tryz.func76 rfl fun c₀ cs hu => ?_)
    apply wpS_seq
    apply wpS_region
    simp [wpOpsS, go_sem, recoverD, hu, Tryz.ntmps76, Exit.thenS]
    apply wpS_seq
    apply wpS_region
    simp [wpOpsS, go_sem, recoverD, hu, Tryz.ntmps76, Exit.thenS]
    refine wpS_cond (t := false) (by simp [Act.eval, Array.replicate]) ?_
    simp only [Bool.false_eq_true, if_false]
    refine wpS_of_wp (wp_skip ?_)
    cases c₀
    simp_all [bodyPostS, results, Tryz.results76]
end Go.Vm
end

section
namespace Go.Vm
set_option maxRecDepth 100000
/- 'sloth/code.Check' -/
def f13_L0 : C :=
 (.seq
  (.reg [⟨[], [(20, (.bin .lss (.sl 19) (.sl 18)))], [], none, [1, 3, 17, 18, 19], 1, [], [], []⟩])
  (.seq
   (.cond (.sl 20)
    .skip
    (.seq
     (.tidy 0 [1, 3])
     (.exit 0)))
   (.seq
    (.block 1
     (.seq
      (.reg [⟨[(5, .box (.agg (.cons (.str []) (.cons (.int .i64 0) .nil))))], [], [], some (none, .store 2 (.sl 5) (.ld 2 true (.ia 2 (.sl 17) (.sl 19)))), [1, 3, 5, 17, 18, 19], 4, [], [], []⟩])
      (.seq
       (.seq
        (.reg [⟨[], [(43, (.or (.or (.or (.un .not (.call 35 (.cons (.ld 1 false (.fa 0 (.sl 5))) .nil))) (.bin .gtr (.lkp false 2 (.int .i64 0) (.sl 3) (.ld 1 false (.fa 0 (.sl 5)))) (.int .i64 0))) (.bin .lss (.ld 1 false (.fa 1 (.sl 5))) (.int .i64 0))) (.bin .gtr (.ld 1 false (.fa 1 (.sl 5))) (.int .i64 8))))], [], none, [1, 3, 5, 17, 18, 19], 21, [], [], []⟩])
        (.cond (.sl 43)
         (.seq
          (.reg [⟨[], [(2, (.int .i64 172))], [], none, [], 1, [], [], []⟩])
          (.seq
           (.tidy 0 [2])
           .ret))
         .skip))
       (.reg [⟨[], [], [], some (none, .mset 2 (.sl 3) (.ld 1 false (.fa 0 (.sl 5))) (.int .i64 1)), [1, 3, 17, 18, 19], 4, [], [], []⟩]))))
    (.reg [⟨[], [(19, (.bin .add (.sl 19) (.int .i64 1)))], [], none, [1, 3, 17, 18], 2, [], [], []⟩]))))
def f13_L1 : C :=
 (.seq
  (.reg [⟨[], [(51, (.bin .lss (.sl 50) (.sl 49)))], [], none, [1, 3, 48, 49, 50], 1, [], [], []⟩])
  (.seq
   (.cond (.sl 51)
    .skip
    (.seq
     (.tidy 0 [1, 3])
     (.exit 2)))
   (.seq
    (.block 3
     (.seq
      (.reg [⟨[(7, .box (.agg (.cons (.str []) (.cons (.int .i64 0) .nil))))], [(6, (.sl 50))], [], some (none, .store 2 (.sl 7) (.ld 2 true (.ia 2 (.sl 48) (.sl 50)))), [1, 3, 7, 48, 49, 50], 6, [], [], []⟩])
      (.seq
       (.reg [⟨[], [(68, (.or (.bin .geq (.sl 6) (.len false (.ld 1 false (.fa 0 (.sl 1))))) (.eqs true true [2, 0] (.ld 2 true (.ia 2 (.ld 1 false (.fa 0 (.sl 1))) (.sl 6))) (.ld 2 true (.sl 7)))))], [], none, [1, 3, 48, 49, 50], 14, [[], [], [1], [1, 2], [2, 1, 3, 0], [0, 3, 1, 2, 4], [4, 2, 1, 3, 0, 5], [5, 0, 3, 1, 2, 4, 6], [4, 2, 1, 3, 0, 5], [8, 6, 4, 2, 1, 3, 0, 5, 7], [7, 5, 0, 3, 1, 2, 4, 6, 8, 9], [4, 2, 1, 3, 0, 5], [11, 9, 8, 6, 4, 2, 1, 3, 0, 5, 7, 10], [10, 7, 6, 8, 9, 11, 12, 4, 2, 1, 3, 0, 5]], [], []⟩])
       (.cond (.sl 68)
        (.seq
         (.reg [⟨[], [(2, (.int .i64 172))], [], none, [], 1, [], [], []⟩])
         (.seq
          (.tidy 0 [2])
          .ret))
        .skip))))
    (.reg [⟨[], [(50, (.bin .add (.sl 50) (.int .i64 1)))], [], none, [1, 3, 48, 49], 2, [], [], []⟩]))))
def f13_L2 : C :=
 (.seq
  (.reg [⟨[], [(75, (.bin .lss (.sl 74) (.sl 73)))], [], none, [1, 3, 72, 73, 74], 1, [], [], []⟩])
  (.seq
   (.cond (.sl 75)
    .skip
    (.seq
     (.tidy 0 [1])
     (.exit 4)))
   (.seq
    (.block 5
     (.seq
      (.reg [⟨[(9, .box (.agg (.cons (.str []) (.cons (.int .i64 0) (.cons (.nilsl 3) .nil)))))], [], [], some (none, .store 3 (.sl 9) (.ld 3 true (.ia 3 (.sl 72) (.sl 74)))), [1, 3, 9, 72, 73, 74], 4, [], [], []⟩])
      (.seq
       (.seq
        (.reg [⟨[], [(98, (.or (.or (.or (.un .not (.call 35 (.cons (.ld 1 false (.fa 0 (.sl 9))) .nil))) (.bin .gtr (.lkp false 2 (.int .i64 0) (.sl 3) (.ld 1 false (.fa 0 (.sl 9)))) (.int .i64 0))) (.bin .lss (.ld 1 false (.fa 1 (.sl 9))) (.int .i64 0))) (.bin .gtr (.ld 1 false (.fa 1 (.sl 9))) (.int .i64 24))))], [], none, [1, 3, 9, 72, 73, 74], 21, [], [], []⟩])
        (.cond (.sl 98)
         (.seq
          (.reg [⟨[], [(2, (.int .i64 172))], [], none, [], 1, [], [], []⟩])
          (.seq
           (.tidy 0 [2])
           .ret))
         .skip))
       (.reg [⟨[], [], [], some (none, .mset 2 (.sl 3) (.ld 1 false (.fa 0 (.sl 9))) (.int .i64 1)), [1, 3, 72, 73, 74], 4, [], [], []⟩]))))
    (.reg [⟨[], [(74, (.bin .add (.sl 74) (.int .i64 1)))], [], none, [1, 3, 72, 73], 2, [], [], []⟩]))))
def f13_L3 : C :=
 (.seq
  (.reg [⟨[], [(107, (.bin .lss (.sl 106) (.sl 105)))], [], none, [1, 104, 105, 106], 1, [], [], []⟩])
  (.seq
   (.cond (.sl 107)
    .skip
    (.seq
     (.tidy 0 [])
     (.exit 6)))
   (.seq
    (.block 7
     (.seq
      (.reg [⟨[(11, .box (.agg (.cons (.str []) (.cons (.int .i64 0) (.cons (.nilsl 3) .nil)))))], [], [], some (none, .store 3 (.sl 11) (.ld 3 true (.ia 3 (.sl 104) (.sl 106)))), [1, 11, 104, 105, 106], 4, [], [], []⟩])
      (.seq
       (.reg [⟨[], [(12, (.call 37 (.cons (.ld 2 true (.sl 1)) (.cons (.ld 3 true (.sl 11)) .nil))))], [], none, [1, 104, 105, 106], 4, [], [], []⟩])
       (.seq
        (.reg [⟨[], [(114, (.bin .neq (.sl 12) (.int .i64 0)))], [], none, [1, 12, 104, 105, 106], 2, [], [], []⟩])
        (.cond (.sl 114)
         (.seq
          (.reg [⟨[], [(2, (.sl 12))], [], none, [], 2, [], [], []⟩])
          (.seq
           (.tidy 0 [2])
           .ret))
         .skip)))))
    (.reg [⟨[], [(106, (.bin .add (.sl 106) (.int .i64 1)))], [], none, [1, 104, 105], 2, [], [], []⟩]))))
def f13 : Fun := ⟨
 (.seq
  (.reg [⟨[(1, .box (.sl 0))], [], [(.int .i64 0)], none, [1], 2, [], [], []⟩])
  (.seq
   (.seq
    (.reg [⟨[], [(14, (.call 34 (.cons (.ld 2 true (.sl 1)) .nil)))], [], none, [1], 2, [], [], []⟩])
    (.cond (.sl 14)
     (.seq
      (.reg [⟨[], [(2, (.int .i64 4))], [], none, [], 1, [], [], []⟩])
      (.seq
       (.tidy 0 [2])
       .ret))
     .skip))
   (.seq
    (.reg [⟨[(15, .mkm)], [(3, (.sl 15))], [], none, [1], 2, [], [], []⟩])
    (.seq
     (.seq
      (.reg [⟨[], [(17, (.ld 1 false (.fa 0 (.sl 1)))), (18, (.len false (.ld 1 false (.fa 0 (.sl 1))))), (19, (.int .i64 0))], [], none, [1, 3], 4, [], [], []⟩])
      (.block 0
       (.seq (.tidy 0 [1, 3, 17, 18, 19]) (.loop (.seq (.tidy 0 [1, 3, 17, 18, 19]) f13_L0)))))
     (.seq
      (.seq
       (.reg [⟨[(48, .callo 36 .nil)], [(49, (.len false (.sl 48))), (50, (.int .i64 0))], [], none, [1, 3, 48], 3, [], [], []⟩])
       (.block 2
        (.seq (.tidy 0 [1, 3, 48, 49, 50]) (.loop (.seq (.tidy 0 [1, 3, 48, 49, 50]) f13_L1)))))
      (.seq
       (.reg [⟨[], [], [], some (none, .mclr (.sl 3)), [1, 3], 2, [], [], []⟩])
       (.seq
        (.seq
         (.reg [⟨[], [(72, (.ld 1 false (.fa 1 (.sl 1)))), (73, (.len false (.ld 1 false (.fa 1 (.sl 1))))), (74, (.int .i64 0))], [], none, [1, 3], 4, [], [], []⟩])
         (.block 4
          (.seq (.tidy 0 [1, 3, 72, 73, 74]) (.loop (.seq (.tidy 0 [1, 3, 72, 73, 74]) f13_L2)))))
        (.seq
         (.seq
          (.reg [⟨[], [(104, (.ld 1 false (.fa 1 (.sl 1)))), (105, (.len false (.ld 1 false (.fa 1 (.sl 1))))), (106, (.int .i64 0))], [], none, [1], 4, [], [], []⟩])
          (.block 6
           (.seq (.tidy 0 [1, 104, 105, 106]) (.loop (.seq (.tidy 0 [1, 104, 105, 106]) f13_L3)))))
         (.seq
          (.reg [⟨[], [(2, (.int .i64 0))], [], none, [], 1, [], [], []⟩])
          (.seq
           (.tidy 0 [2])
           .ret)))))))))),
 [(.sl 2)], false⟩
theorem f13_ok : funOk Go.Proofs.Tryz.prog 13 0 1 f13 = true := by kernel_rfl

/- 'sloth/code.great' -/
def f34_L0 : C :=
 (.seq
  (.reg [⟨[], [(10, (.bin .lss (.sl 9) (.sl 8)))], [], none, [1, 3, 7, 8, 9], 1, [], [], []⟩])
  (.seq
   (.cond (.sl 10)
    .skip
    (.seq
     (.tidy 0 [1, 3])
     (.exit 0)))
   (.seq
    (.block 1
     (.seq
      (.reg [⟨[(5, .box (.agg (.cons (.str []) (.cons (.int .i64 0) (.cons (.nilsl 3) .nil)))))], [], [], some (none, .store 3 (.sl 5) (.ld 3 true (.ia 3 (.sl 7) (.sl 9)))), [1, 3, 5, 7, 8, 9], 4, [], [], []⟩])
      (.seq
       (.reg [⟨[], [(3, (.bin .add (.sl 3) (.len false (.ld 1 false (.fa 2 (.sl 5))))))], [], none, [1, 5, 7, 8, 9], 6, [], [], []⟩])
       (.seq
        (.reg [⟨[], [(21, (.bin .gtr (.len false (.ld 1 false (.fa 2 (.sl 5)))) (.int .i64 8000)))], [], none, [1, 3, 7, 8, 9], 4, [], [], []⟩])
        (.cond (.sl 21)
         (.seq
          (.reg [⟨[], [(2, (.bool true))], [], none, [], 1, [], [], []⟩])
          (.seq
           (.tidy 0 [2])
           .ret))
         .skip)))))
    (.reg [⟨[], [(9, (.bin .add (.sl 9) (.int .i64 1)))], [], none, [1, 3, 7, 8], 2, [], [], []⟩]))))
def f34 : Fun := ⟨
 (.seq
  (.reg [⟨[(1, .box (.sl 0))], [], [(.bool false)], none, [1], 2, [], [], []⟩])
  (.seq
   (.reg [⟨[], [(3, (.int .i64 0))], [], none, [1], 1, [], [], []⟩])
   (.seq
    (.seq
     (.reg [⟨[], [(7, (.ld 1 false (.fa 1 (.sl 1)))), (8, (.len false (.ld 1 false (.fa 1 (.sl 1))))), (9, (.int .i64 0))], [], none, [1, 3], 4, [], [], []⟩])
     (.block 0
      (.seq (.tidy 0 [1, 3, 7, 8, 9]) (.loop (.seq (.tidy 0 [1, 3, 7, 8, 9]) f34_L0)))))
    (.seq
     (.reg [⟨[], [(2, (.or (.or (.bin .gtr (.len false (.ld 1 false (.fa 0 (.sl 1)))) (.int .i64 2000)) (.bin .gtr (.len false (.ld 1 false (.fa 1 (.sl 1)))) (.int .i64 2000))) (.bin .gtr (.sl 3) (.int .i64 200000))))], [], none, [], 15, [], [], []⟩])
     (.seq
      (.tidy 0 [2])
      .ret))))),
 [(.sl 2)], false⟩
theorem f34_ok : funOk Go.Proofs.Tryz.prog 34 0 1 f34 = true := by kernel_rfl

/- 'sloth/code.isName' -/
def f35_L0 : C :=
 (.seq
  (.reg [⟨[], [(7, (.bin .lss (.sl 6) (.sl 5)))], [], none, [0, 5, 6], 1, [], [], []⟩])
  (.seq
   (.cond (.sl 7)
    .skip
    (.seq
     (.tidy 0 [0])
     (.exit 0)))
   (.seq
    (.block 1
     (.seq
      (.reg [⟨[], [(3, (.sl 6))], [], none, [0, 5, 6], 2, [], [], []⟩])
      (.seq
       (.reg [⟨[], [(18, (.or (.bin .lss (.ix (.sl 0) (.sl 3)) (.int .u8 32)) (.bin .gtr (.ix (.sl 0) (.sl 3)) (.int .u8 126))))], [], none, [0, 5, 6], 10, [], [], []⟩])
       (.cond (.sl 18)
        (.seq
         (.reg [⟨[], [(2, (.bool false))], [], none, [], 1, [], [], []⟩])
         (.seq
          (.tidy 0 [2])
          .ret))
        .skip))))
    (.reg [⟨[], [(6, (.bin .add (.sl 6) (.int .i64 1)))], [], none, [0, 5], 2, [], [], []⟩]))))
def f35 : Fun := ⟨
 (.seq
  (.reg [⟨[], [], [(.bool false)], none, [0], 1, [], [], []⟩])
  (.seq
   (.seq
    (.reg [⟨[], [(5, (.len true (.sl 0))), (6, (.int .i64 0))], [], none, [0], 3, [], [], []⟩])
    (.block 0
     (.seq (.tidy 0 [0, 5, 6]) (.loop (.seq (.tidy 0 [0, 5, 6]) f35_L0)))))
   (.seq
    (.reg [⟨[], [(2, (.and (.bin .geq (.len true (.sl 0)) (.int .i64 1)) (.bin .leq (.len true (.sl 0)) (.int .i64 4096))))], [], none, [], 9, [], [], []⟩])
    (.seq
     (.tidy 0 [2])
     .ret)))),
 [(.sl 2)], false⟩
theorem f35_ok : funOk Go.Proofs.Tryz.prog 35 0 1 f35 = true := by kernel_rfl

/- 'sloth/code.given' -/
def f36 : Fun := ⟨
 (.seq
  (.reg [⟨[], [], [(.nilsl 2)], none, [], 1, [], [], []⟩])
  (.seq
   (.reg [⟨[(8, .lits 2 (.cons (.set 0 1 (.str [70, 97, 108, 115, 101]) (.agg (.cons (.str []) (.cons (.int .i64 0) .nil)))) (.cons (.set 0 1 (.str [84, 114, 117, 101]) (.agg (.cons (.str []) (.cons (.int .i64 0) .nil)))) (.cons (.set 0 1 (.str [85, 110, 105, 116]) (.agg (.cons (.str []) (.cons (.int .i64 0) .nil)))) (.cons (.set 0 1 (.str [78, 105, 108]) (.agg (.cons (.str []) (.cons (.int .i64 0) .nil)))) (.cons (.set 1 1 (.int .i64 2) (.set 0 1 (.str [67, 111, 110, 115]) (.agg (.cons (.str []) (.cons (.int .i64 0) .nil))))) (.cons (.set 1 1 (.int .i64 2) (.set 0 1 (.str [80, 97, 105, 114]) (.agg (.cons (.str []) (.cons (.int .i64 0) .nil))))) (.cons (.set 1 1 (.int .i64 3) (.set 0 1 (.str [84, 114, 105, 112, 108, 101]) (.agg (.cons (.str []) (.cons (.int .i64 0) .nil))))) .nil))))))))], [(0, (.sl 8))], [], none, [], 9, [], [], []⟩])
   (.seq
    (.tidy 0 [0])
    .ret))),
 [(.sl 0)], true⟩
theorem f36_ok : funOk Go.Proofs.Tryz.prog 36 0 0 f36 = true := by kernel_rfl

/- 'sloth/code.checkCode' -/
def f37_L0 : C :=
 (.seq
  (.reg [⟨[], [(23, (.bin .lss (.sl 22) (.sl 21)))], [], none, [2, 3, 20, 21, 22], 1, [], [], []⟩])
  (.seq
   (.cond (.sl 23)
    .skip
    (.seq
     (.tidy 0 [2, 3])
     (.exit 0)))
   (.seq
    (.block 1
     (.seq
      (.reg [⟨[(6, .box (.agg (.cons (.int .i64 0) (.cons (.int .i64 0) (.cons (.int .i64 0) .nil)))))], [(5, (.sl 22))], [], some (none, .store 3 (.sl 6) (.ld 3 true (.ia 3 (.sl 20) (.sl 22)))), [2, 3, 6, 20, 21, 22], 6, [], [], []⟩])
      (.seq
       (.reg [⟨[(7, .box (.agg (.cons (.str []) (.cons (.int .i64 0) (.cons (.int .i64 0) .nil)))))], [(32, (.ext 1 (.call 79 (.cons (.ld 1 false (.fa 0 (.sl 6))) .nil))))], [], some (none, .store 3 (.sl 7) (.ext 0 (.call 79 (.cons (.ld 1 false (.fa 0 (.sl 6))) .nil)))), [2, 3, 5, 6, 7, 20, 21, 22], 8, [], [], []⟩, ⟨[], [(8, (.sl 32))], [], none, [2, 3, 5, 6, 7, 20, 21, 22], 1, [], [], []⟩])
       (.seq
        (.seq
         (.reg [⟨[], [(34, (.un .not (.sl 8)))], [], none, [2, 3, 5, 6, 7, 20, 21, 22], 2, [], [], []⟩])
         (.cond (.sl 34)
          (.seq
           (.reg [⟨[], [(4, (.int .i64 172))], [], none, [], 1, [], [], []⟩])
           (.seq
            (.tidy 0 [4])
            .ret))
          .skip))
        (.seq
         (.reg [⟨[], [(9, (.call 80 (.cons (.ld 2 true (.sl 2)) (.cons (.ld 3 true (.sl 3)) (.cons (.sl 5) (.cons (.ld 1 false (.fa 1 (.sl 6))) (.cons (.ld 1 false (.fa 1 (.sl 7))) .nil))))))), (10, (.call 80 (.cons (.ld 2 true (.sl 2)) (.cons (.ld 3 true (.sl 3)) (.cons (.sl 5) (.cons (.ld 1 false (.fa 2 (.sl 6))) (.cons (.ld 1 false (.fa 2 (.sl 7))) .nil)))))))], [], none, [2, 3, 20, 21, 22], 18, [[], [], [], [], [3], [], [5], [5, 6, 3, 4, 2, 1, 0], [], [], [], [], [11], [], [13], [0, 1, 2, 4, 3, 6, 5, 7, 13, 14, 11, 12, 10, 9, 8], [8, 9, 10, 12, 11, 14, 13, 15, 0, 1, 2, 4, 3, 6, 5, 7], [16, 8, 9, 10, 12, 11, 14, 13, 7, 5, 6, 3, 4, 2, 1, 0, 15]], [], []⟩])
         (.seq
          (.seq
           (.reg [⟨[], [(56, (.or (.bin .eql (.sl 9) (.int .i64 172)) (.bin .eql (.sl 10) (.int .i64 172))))], [], none, [2, 3, 9, 10, 20, 21, 22], 6, [], [], []⟩])
           (.cond (.sl 56)
            (.seq
             (.reg [⟨[], [(4, (.int .i64 172))], [], none, [], 1, [], [], []⟩])
             (.seq
              (.tidy 0 [4])
              .ret))
            .skip))
          (.seq
           (.reg [⟨[], [(62, (.or (.bin .neq (.sl 9) (.int .i64 0)) (.bin .neq (.sl 10) (.int .i64 0))))], [], none, [2, 3, 20, 21, 22], 6, [], [], []⟩])
           (.cond (.sl 62)
            (.seq
             (.reg [⟨[], [(4, (.int .i64 174))], [], none, [], 1, [], [], []⟩])
             (.seq
              (.tidy 0 [4])
              .ret))
            .skip))))))))
    (.reg [⟨[], [(22, (.bin .add (.sl 22) (.int .i64 1)))], [], none, [2, 3, 20, 21], 2, [], [], []⟩]))))
def f37_L1 : C :=
 (.seq
  (.reg [⟨[], [(81, (.bin .lss (.sl 80) (.sl 79)))], [], none, [2, 3, 11, 78, 79, 80], 1, [], [], []⟩])
  (.seq
   (.cond (.sl 81)
    .skip
    (.seq
     (.tidy 0 [])
     (.exit 2)))
   (.seq
    (.block 3
     (.seq
      (.reg [⟨[(13, .box (.agg (.cons (.int .i64 0) (.cons (.int .i64 0) (.cons (.int .i64 0) .nil)))))], [(12, (.sl 80))], [], some (none, .store 3 (.sl 13) (.ld 3 true (.ia 3 (.sl 78) (.sl 80)))), [2, 3, 11, 13, 78, 79, 80], 6, [], [], []⟩])
      (.seq
       (.reg [⟨[], [(14, (.ld 1 false (.ia 1 (.sl 11) (.sl 12))))], [], none, [2, 3, 11, 12, 13, 78, 79, 80], 5, [], [], []⟩])
       (.seq
        (.seq
         (.reg [⟨[], [(90, (.bin .eql (.sl 14) (.int .i64 0)))], [], none, [2, 3, 11, 12, 13, 14, 78, 79, 80], 2, [], [], []⟩])
         (.cond (.sl 90)
          (.seq
           (.reg [⟨[], [(4, (.int .i64 174))], [], none, [], 1, [], [], []⟩])
           (.seq
            (.tidy 0 [4])
            .ret))
          .skip))
        (.seq
         (.reg [⟨[], [(15, (.ext 0 (.call 81 (.cons (.ld 2 true (.sl 2)) (.cons (.ld 3 true (.sl 13)) (.cons (.sl 14) .nil)))))), (16, (.ext 1 (.call 81 (.cons (.ld 2 true (.sl 2)) (.cons (.ld 3 true (.sl 13)) (.cons (.sl 14) .nil))))))], [], none, [2, 3, 11, 12, 13, 78, 79, 80], 9, [], [], []⟩])
         (.seq
          (.seq
           (.reg [⟨[], [(99, (.un .not (.sl 16)))], [], none, [2, 3, 11, 12, 13, 15, 78, 79, 80], 2, [], [], []⟩])
           (.cond (.sl 99)
            (.seq
             (.reg [⟨[], [(4, (.int .i64 173))], [], none, [], 1, [], [], []⟩])
             (.seq
              (.tidy 0 [4])
              .ret))
            .skip))
          (.seq
           (.reg [⟨[], [(17, (.and (.and (.bin .neq (.ld 1 false (.fa 0 (.sl 13))) (.int .i64 13)) (.bin .neq (.ld 1 false (.fa 0 (.sl 13))) (.int .i64 16))) (.bin .neq (.ld 1 false (.fa 0 (.sl 13))) (.int .i64 17))))], [], none, [2, 3, 11, 12, 13, 15, 78, 79, 80], 14, [], [], []⟩])
           (.seq
            (.seq
             (.reg [⟨[], [(121, (.and (.sl 17) (.bin .eql (.bin .add (.sl 12) (.int .i64 1)) (.len false (.ld 1 false (.fa 2 (.sl 3)))))))], [], none, [2, 3, 11, 12, 13, 15, 17, 78, 79, 80], 9, [], [], []⟩])
             (.cond (.sl 121)
              (.seq
               (.reg [⟨[], [(4, (.int .i64 174))], [], none, [], 1, [], [], []⟩])
               (.seq
                (.tidy 0 [4])
                .ret))
              .skip))
            (.seq
             (.seq
              (.reg [⟨[], [(123, (.sl 17))], [], some (some 128, .calle 82 (.cons (.sl 11) (.cons (.bin .add (.sl 12) (.int .i64 1)) (.cons (.sl 15) .nil)))), [2, 3, 11, 13, 15, 78, 79, 80], 7, [], [((.sl 17), true)], []⟩, ⟨[], [(130, (.and (.sl 123) (.un .not (.sl 128))))], [], none, [2, 3, 11, 13, 15, 78, 79, 80], 2, [], [], []⟩])
              (.cond (.sl 130)
               (.seq
                (.reg [⟨[], [(4, (.int .i64 173))], [], none, [], 1, [], [], []⟩])
                (.seq
                 (.tidy 0 [4])
                 .ret))
               .skip))
             (.seq
              (.reg [⟨[], [(18, (.int .i64 0))], [], none, [2, 3, 11, 13, 15, 78, 79, 80], 1, [], [], []⟩])
              (.seq
               (.seq
                (.reg [⟨[], [(132, (.ld 1 false (.fa 0 (.sl 13))))], [], none, [2, 3, 11, 13, 15, 18, 78, 79, 80], 2, [], [], []⟩])
                (.block 4
                 (.seq
                  (.reg [⟨[], [(133, (.bin .eql (.sl 132) (.int .i64 13)))], [], none, [2, 3, 11, 13, 15, 18, 78, 79, 80, 132], 2, [], [], []⟩])
                  (.cond (.sl 133)
                   (.reg [⟨[], [(18, (.ld 1 false (.fa 1 (.sl 13))))], [], none, [2, 3, 11, 15, 78, 79, 80], 3, [], [], []⟩])
                   (.seq
                    (.seq
                     (.reg [⟨[], [(137, (.bin .eql (.sl 132) (.int .i64 14)))], [], none, [2, 3, 11, 13, 15, 18, 78, 79, 80, 132], 2, [], [], []⟩])
                     (.cond (.sl 137)
                      .skip
                      (.reg [⟨[], [(137, (.bin .eql (.sl 132) (.int .i64 15)))], [], none, [2, 3, 11, 13, 15, 18, 78, 79, 80], 2, [], [], []⟩])))
                    (.cond (.sl 137)
                     (.reg [⟨[], [(18, (.ld 1 false (.fa 2 (.sl 13))))], [], none, [2, 3, 11, 15, 78, 79, 80], 3, [], [], []⟩])
                     .skip))))))
               (.seq
                (.reg [⟨[], [(144, (.bin .gtr (.sl 18) (.int .i64 0)))], [], some (some 148, .calle 82 (.cons (.sl 11) (.cons (.sl 18) (.cons (.sl 15) .nil)))), [2, 3, 11, 78, 79, 80], 7, [], [((.bin .gtr (.sl 18) (.int .i64 0)), true)], []⟩, ⟨[], [(150, (.and (.sl 144) (.un .not (.sl 148))))], [], none, [2, 3, 11, 78, 79, 80], 2, [], [], []⟩])
                (.cond (.sl 150)
                 (.seq
                  (.reg [⟨[], [(4, (.int .i64 173))], [], none, [], 1, [], [], []⟩])
                  (.seq
                   (.tidy 0 [4])
                   .ret))
                 .skip)))))))))))))
    (.reg [⟨[], [(80, (.bin .add (.sl 80) (.int .i64 1)))], [], none, [2, 3, 11, 78, 79], 2, [], [], []⟩]))))
def f37 : Fun := ⟨
 (.seq
  (.reg [⟨[(2, .box (.sl 0)), (3, .box (.sl 1))], [], [(.int .i64 0)], none, [2, 3], 3, [], [], []⟩])
  (.seq
   (.seq
    (.reg [⟨[], [(20, (.ld 1 false (.fa 2 (.sl 3)))), (21, (.len false (.ld 1 false (.fa 2 (.sl 3))))), (22, (.int .i64 0))], [], none, [2, 3], 4, [], [], []⟩])
    (.block 0
     (.seq (.tidy 0 [2, 3, 20, 21, 22]) (.loop (.seq (.tidy 0 [2, 3, 20, 21, 22]) f37_L0)))))
   (.seq
    (.seq
     (.reg [⟨[], [(67, (.bin .eql (.len false (.ld 1 false (.fa 2 (.sl 3)))) (.int .i64 0)))], [], none, [2, 3], 4, [], [], []⟩])
     (.cond (.sl 67)
      (.seq
       (.reg [⟨[], [(4, (.int .i64 174))], [], none, [], 1, [], [], []⟩])
       (.seq
        (.tidy 0 [4])
        .ret))
      .skip))
    (.seq
     (.reg [⟨[(71, .mks 1 (.cons (.int .i64 0) .nil) (.len false (.ld 1 false (.fa 2 (.sl 3)))) (.len false (.ld 1 false (.fa 2 (.sl 3)))))], [(11, (.sl 71))], [], none, [2, 3], 5, [], [], []⟩])
     (.seq
      (.reg [⟨[], [], [], some (none, .store 1 (.ia 1 (.sl 11) (.int .i64 0)) (.bin .add (.ld 1 false (.fa 1 (.sl 3))) (.int .i64 1))), [2, 3, 11], 6, [], [], []⟩])
      (.seq
       (.seq
        (.reg [⟨[], [(78, (.ld 1 false (.fa 2 (.sl 3)))), (79, (.len false (.ld 1 false (.fa 2 (.sl 3))))), (80, (.int .i64 0))], [], none, [2, 3, 11], 4, [], [], []⟩])
        (.block 2
         (.seq (.tidy 0 [2, 3, 11, 78, 79, 80]) (.loop (.seq (.tidy 0 [2, 3, 11, 78, 79, 80]) f37_L1)))))
       (.seq
        (.reg [⟨[], [(4, (.int .i64 0))], [], none, [], 1, [], [], []⟩])
        (.seq
         (.tidy 0 [4])
         .ret)))))))),
 [(.sl 4)], false⟩
theorem f37_ok : funOk Go.Proofs.Tryz.prog 37 0 2 f37 = true := by kernel_rfl

/- 'sloth/slothref17.Shapes' -/
def f78 : Fun := ⟨
 (.seq
  (.reg [⟨[], [], [(.nilsl 2)], none, [], 1, [], [], []⟩])
  (.seq
   (.reg [⟨[(8, .lits 2 (.cons (.set 0 1 (.str [70, 97, 108, 115, 101]) (.agg (.cons (.str []) (.cons (.int .i64 0) .nil)))) (.cons (.set 0 1 (.str [84, 114, 117, 101]) (.agg (.cons (.str []) (.cons (.int .i64 0) .nil)))) (.cons (.set 0 1 (.str [85, 110, 105, 116]) (.agg (.cons (.str []) (.cons (.int .i64 0) .nil)))) (.cons (.set 0 1 (.str [78, 105, 108]) (.agg (.cons (.str []) (.cons (.int .i64 0) .nil)))) (.cons (.set 1 1 (.int .i64 2) (.set 0 1 (.str [67, 111, 110, 115]) (.agg (.cons (.str []) (.cons (.int .i64 0) .nil))))) (.cons (.set 1 1 (.int .i64 2) (.set 0 1 (.str [80, 97, 105, 114]) (.agg (.cons (.str []) (.cons (.int .i64 0) .nil))))) (.cons (.set 1 1 (.int .i64 3) (.set 0 1 (.str [84, 114, 105, 112, 108, 101]) (.agg (.cons (.str []) (.cons (.int .i64 0) .nil))))) .nil))))))))], [(0, (.sl 8))], [], none, [], 9, [], [], []⟩])
   (.seq
    (.tidy 0 [0])
    .ret))),
 [(.sl 0)], true⟩
/- 'sloth/code.forms' -/
def f79 : Fun := ⟨
 (.seq
  (.reg [⟨[(2, .box (.agg (.cons (.str []) (.cons (.int .i64 0) (.cons (.int .i64 0) .nil)))))], [], [(.bool false)], none, [0, 2], 2, [], [], []⟩])
  (.seq
   (.reg [⟨[(4, .box (.agg (.cons (.str []) (.cons (.int .i64 0) (.cons (.int .i64 0) (.cons (.str []) (.cons (.int .i64 0) (.cons (.int .i64 0) (.cons (.str []) (.cons (.int .i64 0) (.cons (.int .i64 0) (.cons (.str []) (.cons (.int .i64 0) (.cons (.int .i64 0) (.cons (.str []) (.cons (.int .i64 0) (.cons (.int .i64 0) (.cons (.str []) (.cons (.int .i64 0) (.cons (.int .i64 0) (.cons (.str []) (.cons (.int .i64 0) (.cons (.int .i64 0) (.cons (.str []) (.cons (.int .i64 0) (.cons (.int .i64 0) (.cons (.str []) (.cons (.int .i64 0) (.cons (.int .i64 0) (.cons (.str []) (.cons (.int .i64 0) (.cons (.int .i64 0) (.cons (.str []) (.cons (.int .i64 0) (.cons (.int .i64 0) (.cons (.str []) (.cons (.int .i64 0) (.cons (.int .i64 0) (.cons (.str []) (.cons (.int .i64 0) (.cons (.int .i64 0) (.cons (.str []) (.cons (.int .i64 0) (.cons (.int .i64 0) (.cons (.str []) (.cons (.int .i64 0) (.cons (.int .i64 0) (.cons (.str []) (.cons (.int .i64 0) (.cons (.int .i64 0) (.cons (.str []) (.cons (.int .i64 0) (.cons (.int .i64 0) (.cons (.str []) (.cons (.int .i64 0) (.cons (.int .i64 0) .nil))))))))))))))))))))))))))))))))))))))))))))))))))))))))], [], [], some (none, .store 54 (.sl 4) (.set 51 3 (.set 2 1 (.int .i64 0) (.set 1 1 (.int .i64 0) (.set 0 1 (.str [117, 110, 119, 105, 110, 100]) (.agg (.cons (.str []) (.cons (.int .i64 0) (.cons (.int .i64 0) .nil))))))) (.set 48 3 (.set 2 1 (.int .i64 0) (.set 1 1 (.int .i64 7) (.set 0 1 (.str [102, 97, 105, 108]) (.agg (.cons (.str []) (.cons (.int .i64 0) (.cons (.int .i64 0) .nil))))))) (.set 45 3 (.set 2 1 (.int .i64 8) (.set 1 1 (.int .i64 3) (.set 0 1 (.str [116, 101, 115, 116, 105, 110, 116]) (.agg (.cons (.str []) (.cons (.int .i64 0) (.cons (.int .i64 0) .nil))))))) (.set 42 3 (.set 2 1 (.int .i64 8) (.set 1 1 (.int .i64 5) (.set 0 1 (.str [116, 101, 115, 116, 99, 111, 110]) (.agg (.cons (.str []) (.cons (.int .i64 0) (.cons (.int .i64 0) .nil))))))) (.set 39 3 (.set 2 1 (.int .i64 0) (.set 1 1 (.int .i64 8) (.set 0 1 (.str [106, 117, 109, 112]) (.agg (.cons (.str []) (.cons (.int .i64 0) (.cons (.int .i64 0) .nil))))))) (.set 36 3 (.set 2 1 (.int .i64 0) (.set 1 1 (.int .i64 6) (.set 0 1 (.str [97, 114, 105, 116, 104]) (.agg (.cons (.str []) (.cons (.int .i64 0) (.cons (.int .i64 0) .nil))))))) (.set 33 3 (.set 2 1 (.int .i64 0) (.set 1 1 (.int .i64 0) (.set 0 1 (.str [101, 118, 97, 108]) (.agg (.cons (.str []) (.cons (.int .i64 0) (.cons (.int .i64 0) .nil))))))) (.set 30 3 (.set 2 1 (.int .i64 0) (.set 1 1 (.int .i64 5) (.set 0 1 (.str [115, 112, 108, 105, 116]) (.agg (.cons (.str []) (.cons (.int .i64 0) (.cons (.int .i64 0) .nil))))))) (.set 27 3 (.set 2 1 (.int .i64 0) (.set 1 1 (.int .i64 5) (.set 0 1 (.str [112, 97, 99, 107]) (.agg (.cons (.str []) (.cons (.int .i64 0) (.cons (.int .i64 0) .nil))))))) (.set 24 3 (.set 2 1 (.int .i64 0) (.set 1 1 (.int .i64 1) (.set 0 1 (.str [97, 108, 108, 111, 99]) (.agg (.cons (.str []) (.cons (.int .i64 0) (.cons (.int .i64 0) .nil))))))) (.set 21 3 (.set 2 1 (.int .i64 0) (.set 1 1 (.int .i64 2) (.set 0 1 (.str [117, 112, 100, 97, 116, 101]) (.agg (.cons (.str []) (.cons (.int .i64 0) (.cons (.int .i64 0) .nil))))))) (.set 18 3 (.set 2 1 (.int .i64 0) (.set 1 1 (.int .i64 0) (.set 0 1 (.str [97, 112, 112, 108, 121]) (.agg (.cons (.str []) (.cons (.int .i64 0) (.cons (.int .i64 0) .nil))))))) (.set 15 3 (.set 2 1 (.int .i64 0) (.set 1 1 (.int .i64 1) (.set 0 1 (.str [115, 108, 105, 100, 101]) (.agg (.cons (.str []) (.cons (.int .i64 0) (.cons (.int .i64 0) .nil))))))) (.set 12 3 (.set 2 1 (.int .i64 0) (.set 1 1 (.int .i64 1) (.set 0 1 (.str [112, 111, 112]) (.agg (.cons (.str []) (.cons (.int .i64 0) (.cons (.int .i64 0) .nil))))))) (.set 9 3 (.set 2 1 (.int .i64 0) (.set 1 1 (.int .i64 3) (.set 0 1 (.str [105, 110, 116]) (.agg (.cons (.str []) (.cons (.int .i64 0) (.cons (.int .i64 0) .nil))))))) (.set 6 3 (.set 2 1 (.int .i64 0) (.set 1 1 (.int .i64 4) (.set 0 1 (.str [103, 108, 111, 98]) (.agg (.cons (.str []) (.cons (.int .i64 0) (.cons (.int .i64 0) .nil))))))) (.set 3 3 (.set 2 1 (.int .i64 0) (.set 1 1 (.int .i64 1) (.set 0 1 (.str [112, 117, 115, 104]) (.agg (.cons (.str []) (.cons (.int .i64 0) (.cons (.int .i64 0) .nil))))))) (.set 0 3 (.agg (.cons (.str []) (.cons (.int .i64 0) (.cons (.int .i64 0) .nil)))) (.agg (.cons (.str []) (.cons (.int .i64 0) (.cons (.int .i64 0) (.cons (.str []) (.cons (.int .i64 0) (.cons (.int .i64 0) (.cons (.str []) (.cons (.int .i64 0) (.cons (.int .i64 0) (.cons (.str []) (.cons (.int .i64 0) (.cons (.int .i64 0) (.cons (.str []) (.cons (.int .i64 0) (.cons (.int .i64 0) (.cons (.str []) (.cons (.int .i64 0) (.cons (.int .i64 0) (.cons (.str []) (.cons (.int .i64 0) (.cons (.int .i64 0) (.cons (.str []) (.cons (.int .i64 0) (.cons (.int .i64 0) (.cons (.str []) (.cons (.int .i64 0) (.cons (.int .i64 0) (.cons (.str []) (.cons (.int .i64 0) (.cons (.int .i64 0) (.cons (.str []) (.cons (.int .i64 0) (.cons (.int .i64 0) (.cons (.str []) (.cons (.int .i64 0) (.cons (.int .i64 0) (.cons (.str []) (.cons (.int .i64 0) (.cons (.int .i64 0) (.cons (.str []) (.cons (.int .i64 0) (.cons (.int .i64 0) (.cons (.str []) (.cons (.int .i64 0) (.cons (.int .i64 0) (.cons (.str []) (.cons (.int .i64 0) (.cons (.int .i64 0) (.cons (.str []) (.cons (.int .i64 0) (.cons (.int .i64 0) (.cons (.str []) (.cons (.int .i64 0) (.cons (.int .i64 0) .nil)))))))))))))))))))))))))))))))))))))))))))))))))))))))))))))))))))))))))), [0, 2, 4], 21, [], [], []⟩])
   (.seq
    (.seq
     (.reg [⟨[], [(29, (.or (.bin .lss (.sl 0) (.int .i64 1)) (.bin .geq (.sl 0) (.int .i64 18))))], [], none, [0, 2, 4], 6, [], [], []⟩])
     (.cond (.sl 29)
      (.seq
       (.reg [⟨[], [], [], some (none, .store 3 (.sl 2) (.agg (.cons (.str []) (.cons (.int .i64 0) (.cons (.int .i64 0) .nil))))), [2], 2, [], [], []⟩, ⟨[], [(3, (.bool false))], [], none, [2], 1, [], [], []⟩])
       (.seq
        (.tidy 0 [2, 3])
        .ret))
      .skip))
    (.seq
     (.reg [⟨[], [], [], some (none, .store 3 (.sl 2) (.ld 3 true (.aa 18 3 (.sl 4) (.sl 0)))), [2], 4, [], [], []⟩, ⟨[], [(3, (.bool true))], [], none, [2], 1, [], [], []⟩])
     (.seq
      (.tidy 0 [2, 3])
      .ret))))),
 [(.ld 3 true (.sl 2)), (.sl 3)], false⟩
theorem f79_ok : funOk Go.Proofs.Tryz.prog 79 0 1 f79 = true := by kernel_rfl

/- 'sloth/code.number' -/
def f80 : Fun := ⟨
 (.seq
  (.reg [⟨[(5, .box (.sl 0)), (6, .box (.sl 1))], [], [(.int .i64 0)], none, [2, 3, 4, 5, 6], 3, [], [], []⟩])
  (.seq
   (.reg [⟨[], [(11, (.bool true))], [], none, [2, 3, 4, 5, 6], 1, [], [], []⟩])
   (.seq
    (.seq
     (.reg [⟨[], [(12, (.sl 4))], [], none, [2, 3, 5, 6, 11], 1, [], [], []⟩])
     (.block 0
      (.seq
       (.reg [⟨[], [(13, (.bin .eql (.sl 12) (.int .i64 0)))], [], none, [2, 3, 5, 6, 11, 12], 2, [], [], []⟩])
       (.cond (.sl 13)
        (.reg [⟨[], [(11, (.bin .eql (.sl 3) (.int .i64 0)))], [], none, [], 3, [], [], []⟩])
        (.seq
         (.reg [⟨[], [(17, (.bin .eql (.sl 12) (.int .i64 1)))], [], none, [2, 3, 5, 6, 11, 12], 2, [], [], []⟩])
         (.cond (.sl 17)
          (.reg [⟨[], [(11, (.bin .geq (.sl 3) (.int .i64 0)))], [], none, [], 3, [], [], []⟩])
          (.seq
           (.reg [⟨[], [(21, (.bin .eql (.sl 12) (.int .i64 2)))], [], none, [2, 3, 5, 6, 11, 12], 2, [], [], []⟩])
           (.cond (.sl 21)
            (.reg [⟨[], [(11, (.bin .geq (.sl 3) (.int .i64 1)))], [], none, [], 3, [], [], []⟩])
            (.seq
             (.reg [⟨[], [(25, (.bin .eql (.sl 12) (.int .i64 3)))], [], none, [2, 3, 5, 6, 11, 12], 2, [], [], []⟩])
             (.cond (.sl 25)
              (.reg [⟨[], [(11, (.and (.bin .geq (.sl 3) (.int .i64 (-4611686018427387904))) (.bin .leq (.sl 3) (.int .i64 4611686018427387903))))], [], none, [], 7, [], [], []⟩])
              (.seq
               (.reg [⟨[], [(33, (.bin .eql (.sl 12) (.int .i64 4)))], [], none, [2, 3, 5, 6, 11, 12], 2, [], [], []⟩])
               (.cond (.sl 33)
                (.reg [⟨[], [(11, (.and (.bin .geq (.sl 3) (.int .i64 0)) (.bin .lss (.sl 3) (.len false (.ld 1 false (.fa 1 (.sl 5)))))))], [], none, [], 10, [], [], []⟩])
                (.seq
                 (.reg [⟨[], [(44, (.bin .eql (.sl 12) (.int .i64 5)))], [], none, [2, 3, 5, 6, 11, 12], 2, [], [], []⟩])
                 (.cond (.sl 44)
                  (.reg [⟨[], [(11, (.and (.bin .geq (.sl 3) (.int .i64 0)) (.bin .lss (.sl 3) (.len false (.ld 1 false (.fa 0 (.sl 5)))))))], [], none, [], 10, [], [], []⟩])
                  (.seq
                   (.reg [⟨[], [(55, (.bin .eql (.sl 12) (.int .i64 6)))], [], none, [2, 3, 6, 11, 12], 2, [], [], []⟩])
                   (.cond (.sl 55)
                    (.reg [⟨[], [(11, (.and (.bin .geq (.sl 3) (.int .i64 1)) (.bin .leq (.sl 3) (.int .i64 11))))], [], none, [], 7, [], [], []⟩])
                    (.seq
                     (.reg [⟨[], [(63, (.bin .eql (.sl 12) (.int .i64 7)))], [], none, [2, 3, 6, 11, 12], 2, [], [], []⟩])
                     (.cond (.sl 63)
                      (.reg [⟨[], [(11, (.and (.bin .geq (.sl 3) (.int .i64 1)) (.bin .leq (.sl 3) (.int .i64 4))))], [], none, [], 7, [], [], []⟩])
                      (.seq
                       (.reg [⟨[], [(71, (.bin .eql (.sl 12) (.int .i64 8)))], [], none, [2, 3, 6, 11], 2, [], [], []⟩])
                       (.cond (.sl 71)
                        (.seq
                         (.reg [⟨[], [(82, (.or (.bin .leq (.sl 3) (.sl 2)) (.bin .geq (.sl 3) (.len false (.ld 1 false (.fa 2 (.sl 6)))))))], [], none, [11], 10, [], [], []⟩])
                         (.cond (.sl 82)
                          (.seq
                           (.reg [⟨[], [(10, (.int .i64 174))], [], none, [], 1, [], [], []⟩])
                           (.seq
                            (.tidy 0 [10])
                            .ret))
                          .skip))
                        .skip))))))))))))))))))))
    (.seq
     (.seq
      (.reg [⟨[], [(84, (.un .not (.sl 11)))], [], none, [], 2, [], [], []⟩])
      (.cond (.sl 84)
       (.seq
        (.reg [⟨[], [(10, (.int .i64 172))], [], none, [], 1, [], [], []⟩])
        (.seq
         (.tidy 0 [10])
         .ret))
       .skip))
     (.seq
      (.reg [⟨[], [(10, (.int .i64 0))], [], none, [], 1, [], [], []⟩])
      (.seq
       (.tidy 0 [10])
       .ret)))))),
 [(.sl 10)], false⟩
theorem f80_ok : funOk Go.Proofs.Tryz.prog 80 0 5 f80 = true := by kernel_rfl

/- 'sloth/code.stacked' -/
def f81 : Fun := ⟨
 (.seq
  (.reg [⟨[(3, .box (.sl 0)), (4, .box (.sl 1))], [], [(.bool false), (.int .i64 0)], none, [2, 3, 4], 4, [], [], []⟩])
  (.seq
   (.reg [⟨[], [(8, (.bool true)), (9, (.sl 2))], [], none, [2, 3, 4], 3, [], [], []⟩])
   (.seq
    (.seq
     (.reg [⟨[], [(13, (.ld 1 false (.fa 0 (.sl 4))))], [], none, [2, 3, 4, 8, 9], 2, [], [], []⟩])
     (.block 0
      (.seq
       (.reg [⟨[], [(14, (.bin .eql (.sl 13) (.int .i64 1)))], [], none, [2, 3, 4, 8, 9, 13], 2, [], [], []⟩])
       (.cond (.sl 14)
        (.reg [⟨[], [(8, (.bin .lss (.ld 1 false (.fa 1 (.sl 4))) (.sl 2))), (9, (.bin .add (.sl 2) (.int .i64 1)))], [], none, [], 8, [], [], []⟩])
        (.seq
         (.seq
          (.reg [⟨[], [(22, (.bin .eql (.sl 13) (.int .i64 2)))], [], none, [2, 3, 4, 8, 9, 13], 2, [], [], []⟩])
          (.cond (.sl 22)
           .skip
           (.reg [⟨[], [(22, (.bin .eql (.sl 13) (.int .i64 3)))], [], none, [2, 3, 4, 8, 9, 13], 2, [], [], []⟩])))
         (.cond (.sl 22)
          (.reg [⟨[], [(9, (.bin .add (.sl 2) (.int .i64 1)))], [], none, [8], 3, [], [], []⟩])
          (.seq
           (.reg [⟨[], [(27, (.bin .eql (.sl 13) (.int .i64 4)))], [], none, [2, 3, 4, 8, 9, 13], 2, [], [], []⟩])
           (.cond (.sl 27)
            (.reg [⟨[], [(8, (.bin .lss (.ld 1 false (.fa 1 (.sl 4))) (.sl 2))), (9, (.bin .sub (.sl 2) (.ld 1 false (.fa 1 (.sl 4)))))], [], none, [], 10, [[], [0], [], [2, 0, 1], [], [], [5], [5, 6, 4], [1, 0, 2, 3], [3, 2, 0, 1, 8, 4, 6, 5, 7]], [], []⟩])
            (.seq
             (.reg [⟨[], [(37, (.bin .eql (.sl 13) (.int .i64 5)))], [], none, [2, 3, 4, 8, 9, 13], 2, [], [], []⟩])
             (.cond (.sl 37)
              (.reg [⟨[], [(8, (.bin .lss (.ld 1 false (.fa 1 (.sl 4))) (.bin .sub (.sl 2) (.int .i64 1)))), (9, (.bin .sub (.sl 2) (.ld 1 false (.fa 1 (.sl 4)))))], [], none, [], 11, [[], [0], [], [2], [2, 3, 0, 1], [], [], [6], [6, 7, 5], [1, 0, 3, 2, 4], [4, 2, 3, 0, 1, 9, 5, 7, 6, 8]], [], []⟩])
              (.seq
               (.seq
                (.reg [⟨[], [(48, (.bin .eql (.sl 13) (.int .i64 6)))], [], none, [2, 3, 4, 8, 9, 13], 2, [], [], []⟩])
                (.cond (.sl 48)
                 .skip
                 (.reg [⟨[], [(48, (.bin .eql (.sl 13) (.int .i64 12)))], [], none, [2, 3, 4, 8, 9, 13], 2, [], [], []⟩])))
               (.cond (.sl 48)
                (.reg [⟨[], [(8, (.bin .gtr (.sl 2) (.int .i64 2))), (9, (.bin .sub (.sl 2) (.int .i64 1)))], [], none, [], 6, [], [], []⟩])
                (.seq
                 (.reg [⟨[], [(55, (.bin .eql (.sl 13) (.int .i64 7)))], [], none, [2, 3, 4, 8, 9, 13], 2, [], [], []⟩])
                 (.cond (.sl 55)
                  (.reg [⟨[], [(8, (.bin .lss (.ld 1 false (.fa 1 (.sl 4))) (.sl 2))), (9, (.bin .sub (.sl 2) (.int .i64 1)))], [], none, [], 8, [], [], []⟩])
                  (.seq
                   (.reg [⟨[], [(63, (.bin .eql (.sl 13) (.int .i64 8)))], [], none, [2, 3, 4, 8, 9, 13], 2, [], [], []⟩])
                   (.cond (.sl 63)
                    (.reg [⟨[], [(8, (.bin .leq (.ld 1 false (.fa 1 (.sl 4))) (.int .i64 8000))), (9, (.bin .add (.sl 2) (.cond (.and (.bin .eql (.bin .and (.int .i64 8000) (.int .i64 0)) (.bin .and (.int .i64 8000) (.int .i64 0))) (.bin .lss (.int .i64 8000) (.ld 1 false (.fa 1 (.sl 4))))) (.int .i64 8000) (.ld 1 false (.fa 1 (.sl 4))))))], [], none, [], 10, [[], [0], [0, 1], [], [], [4], [4, 5], [5, 4, 6, 3], [1, 0, 2], [2, 0, 1, 8, 3, 6, 4, 5, 7]], [], []⟩])
                    (.seq
                     (.reg [⟨[], [(73, (.bin .eql (.sl 13) (.int .i64 9)))], [], none, [2, 3, 4, 8, 9, 13], 2, [], [], []⟩])
                     (.cond (.sl 73)
                      (.seq
                       (.reg [⟨[], [(10, (.ld 1 false (.fa 1 (.ia 2 (.ld 1 false (.fa 0 (.sl 3))) (.ld 1 false (.fa 1 (.sl 4)))))))], [], none, [2], 8, [], [], []⟩])
                       (.reg [⟨[], [(8, (.bin .lss (.sl 10) (.sl 2))), (9, (.bin .add (.bin .sub (.sl 2) (.sl 10)) (.int .i64 1)))], [], none, [], 9, [], [], []⟩]))
                      (.seq
                       (.reg [⟨[], [(89, (.bin .eql (.sl 13) (.int .i64 10)))], [], none, [2, 3, 4, 8, 9, 13], 2, [], [], []⟩])
                       (.cond (.sl 89)
                        (.reg [⟨[], [(8, (.bin .gtr (.sl 2) (.int .i64 1))), (9, (.bin .add (.bin .sub (.sl 2) (.int .i64 1)) (.ld 1 false (.fa 1 (.ia 2 (.ld 1 false (.fa 0 (.sl 3))) (.ld 1 false (.fa 1 (.sl 4))))))))], [], none, [], 14, [[], [0], [], [2], [], [4], [], [6], [6, 7, 4, 5], [5, 4, 7, 6, 8], [8, 6, 7, 4, 5, 9], [9, 5, 4, 7, 6, 8, 10, 2, 3], [0, 1], [1, 0, 12, 3, 2, 10, 8, 6, 7, 4, 5, 9, 11]], [], []⟩])
                        (.seq
                         (.seq
                          (.reg [⟨[], [(103, (.bin .eql (.sl 13) (.int .i64 11)))], [], none, [2, 8, 9, 13], 2, [], [], []⟩])
                          (.cond (.sl 103)
                           .skip
                           (.seq
                            (.reg [⟨[], [(103, (.bin .eql (.sl 13) (.int .i64 14)))], [], none, [2, 8, 9, 13], 2, [], [], []⟩])
                            (.cond (.sl 103)
                             .skip
                             (.reg [⟨[], [(103, (.bin .eql (.sl 13) (.int .i64 15)))], [], none, [2, 8, 9, 13], 2, [], [], []⟩])))))
                         (.cond (.sl 103)
                          (.reg [⟨[], [(8, (.bin .gtr (.sl 2) (.int .i64 1)))], [], none, [9], 3, [], [], []⟩])
                          (.seq
                           (.reg [⟨[], [(109, (.bin .eql (.sl 13) (.int .i64 17)))], [], none, [2, 8, 9], 2, [], [], []⟩])
                           (.cond (.sl 109)
                            (.reg [⟨[], [(8, (.bin .eql (.sl 2) (.int .i64 1)))], [], none, [9], 3, [], [], []⟩])
                            .skip))))))))))))))))))))))))
    (.seq
     (.reg [⟨[], [(6, (.sl 9)), (7, (.and (.sl 8) (.bin .leq (.sl 9) (.int .i64 8000))))], [], none, [], 8, [], [], []⟩])
     (.seq
      (.tidy 0 [6, 7])
      .ret))))),
 [(.sl 6), (.sl 7)], false⟩
theorem f81_ok : funOk Go.Proofs.Tryz.prog 81 0 3 f81 = true := by kernel_rfl

/- 'sloth/code.reach' -/
def f82 : Fun := ⟨
 (.seq
  (.reg [⟨[], [], [(.bool false)], none, [0, 1, 2], 1, [], [], []⟩])
  (.seq
   (.seq
    (.reg [⟨[], [(11, (.bin .eql (.ld 1 false (.ia 1 (.sl 0) (.sl 1))) (.int .i64 0)))], [], none, [0, 1, 2], 5, [], [], []⟩])
    (.cond (.sl 11)
     (.reg [⟨[], [], [], some (none, .store 1 (.ia 1 (.sl 0) (.sl 1)) (.sl 2)), [0, 1, 2], 5, [], [], []⟩])
     .skip))
   (.seq
    (.reg [⟨[], [(6, (.bin .eql (.ld 1 false (.ia 1 (.sl 0) (.sl 1))) (.sl 2)))], [], none, [], 7, [], [], []⟩])
    (.seq
     (.tidy 1 [6])
     .ret)))),
 [(.sl 6)], false⟩
theorem f82_ok : funOk Go.Proofs.Tryz.prog 82 1 3 f82 = true := by kernel_rfl

end Go.Vm
end

section
namespace Go.Vm
set_option maxRecDepth 100000
open Go.RowKit Go.Shelf Go.Proofs
/- 'sloth/slothlaw17.awake' -/
def f11 : Fun := ⟨
 (.seq
  (.reg [⟨[], [], [(.bool false)], none, [], 1, [], [], []⟩])
  (.seq
   (.reg [⟨[], [(1, (.str [115, 104, 97, 112, 101, 32, 34, 70, 97, 108, 115, 101, 34, 32, 48, 10, 115, 104, 97, 112, 101, 32, 34, 84, 114, 117, 101, 34, 32, 48, 10, 115, 104, 97, 112, 101, 32, 34, 85, 110, 105, 116, 34, 32, 48, 10, 115, 104, 97, 112, 101, 32, 34, 78, 105, 108, 34, 32, 48, 10, 115, 104, 97, 112, 101, 32, 34, 67, 111, 110, 115, 34, 32, 50, 10, 115, 104, 97, 112, 101, 32, 34, 80, 97, 105, 114, 34, 32, 50, 10, 115, 104, 97, 112, 101, 32, 34, 84, 114, 105, 112, 108, 101, 34, 32, 51, 10, 103, 108, 111, 98, 97, 108, 32, 34, 105, 100, 34, 32, 49, 10, 32, 32, 112, 117, 115, 104, 32, 48, 10, 32, 32, 117, 112, 100, 97, 116, 101, 32, 50, 10, 32, 32, 112, 111, 112, 32, 49, 10, 32, 32, 117, 110, 119, 105, 110, 100, 10]))], [], none, [], 1, [], [], []⟩])
   (.seq
    (.reg [⟨[], [(2, (.call 13 (.cons (.call 33 .nil) .nil)))], [], none, [1], 3, [], [], []⟩])
    (.seq
     (.reg [⟨[], [(3, (.ext 0 (.call 19 (.cons (.call 33 .nil) .nil)))), (4, (.ext 1 (.call 19 (.cons (.call 33 .nil) .nil))))], [], none, [1, 2], 7, [], [], []⟩])
     (.seq
      (.reg [⟨[(5, .box (.agg (.cons (.nilsl 2) (.cons (.nilsl 3) .nil))))], [(24, (.ext 1 (.call 21 (.cons (.sl 1) .nil))))], [], some (none, .store 2 (.sl 5) (.ext 0 (.call 21 (.cons (.sl 1) .nil)))), [1, 2, 3, 4, 5], 7, [], [], []⟩, ⟨[], [(6, (.sl 24))], [], none, [1, 2, 3, 4, 5], 1, [], [], []⟩])
      (.seq
       (.reg [⟨[], [(7, (.ext 0 (.call 24 (.cons (.call 33 .nil) .nil)))), (8, (.ext 1 (.call 24 (.cons (.call 33 .nil) .nil))))], [], none, [1, 2, 3, 4, 5, 6], 7, [], [], []⟩])
       (.seq
        (.reg [⟨[(9, .box (.agg (.cons (.nilsl 2) (.cons (.nilsl 3) .nil))))], [(34, (.ext 1 (.call 27 (.cons (.sl 7) .nil))))], [], some (none, .store 2 (.sl 9) (.ext 0 (.call 27 (.cons (.sl 7) .nil)))), [1, 2, 3, 4, 5, 6, 7, 8, 9], 7, [], [], []⟩, ⟨[], [(10, (.sl 34))], [], none, [1, 2, 3, 4, 5, 6, 7, 8, 9], 1, [], [], []⟩])
        (.seq
         (.reg [⟨[], [(11, (.call 15 (.cons (.ld 2 true (.sl 5)) (.cons (.call 33 .nil) .nil))))], [], none, [1, 2, 3, 4, 6, 7, 8, 9, 10], 4, [[], [], [1, 0], [0, 1, 2]], [], []⟩])
         (.seq
          (.reg [⟨[], [(12, (.call 15 (.cons (.ld 2 true (.sl 9)) (.cons (.call 33 .nil) .nil))))], [], none, [1, 2, 3, 4, 6, 7, 8, 10, 11], 4, [[], [], [1, 0], [0, 1, 2]], [], []⟩])
          (.seq
           (.reg [⟨[], [(0, (.and (.and (.and (.and (.and (.and (.and (.and (.bin .eql (.sl 2) (.int .i64 0)) (.bin .eql (.sl 4) (.int .i64 0))) (.bin .eql (.sl 3) (.sl 1))) (.bin .eql (.sl 6) (.int .i64 0))) (.bin .eql (.sl 8) (.int .i64 0))) (.bin .gtr (.len false (.sl 7)) (.int .i64 20))) (.bin .eql (.sl 10) (.int .i64 0))) (.sl 11)) (.sl 12)))], [], none, [], 35, [], [], []⟩])
           (.seq
            (.tidy 0 [0])
            .ret))))))))))),
 [(.sl 0)], false⟩
theorem f11_ok : funOk Go.Proofs.Tryz.prog 11 0 0 f11 = true := by kernel_rfl

/- 'sloth/slothref17.Same' -/
def f15_L0 : C :=
 (.seq
  (.seq
   (.reg [⟨[], [(30, (.bin .lss (.sl 5) (.len false (.ld 1 false (.fa 0 (.sl 2))))))], [], none, [2, 3, 5], 5, [], [], []⟩])
   (.cond (.sl 30)
    .skip
    (.seq
     (.tidy 0 [2, 3])
     (.exit 0))))
  (.seq
   (.block 1
    (.seq
     (.reg [⟨[], [(43, (.eqs true true [2, 0] (.ld 2 true (.ia 2 (.ld 1 false (.fa 0 (.sl 2))) (.sl 5))) (.ld 2 true (.ia 2 (.ld 1 false (.fa 0 (.sl 3))) (.sl 5)))))], [], none, [2, 3, 5], 11, [[], [0], [], [2, 0, 1], [1, 0, 2, 3], [], [5], [], [7, 5, 6], [6, 5, 7, 8], [8, 7, 5, 6, 9, 3, 2, 0, 1, 4]], [], []⟩])
     (.cond (.sl 43)
      (.seq
       (.reg [⟨[], [(4, (.bool false))], [], none, [], 1, [], [], []⟩])
       (.seq
        (.tidy 0 [4])
        .ret))
      .skip)))
   (.reg [⟨[], [(5, (.bin .add (.sl 5) (.int .i64 1)))], [], none, [2, 3], 3, [], [], []⟩])))
def f15_L1 : C :=
 (.seq
  (.seq
   (.reg [⟨[], [(86, (.bin .lss (.sl 9) (.len false (.ld 1 false (.fa 2 (.sl 7))))))], [], none, [2, 3, 6, 7, 8, 9], 5, [], [], []⟩])
   (.cond (.sl 86)
    .skip
    (.seq
     (.tidy 0 [2, 3, 6])
     (.exit 4))))
  (.seq
   (.block 5
    (.seq
     (.reg [⟨[], [(99, (.eqs true true [0, 0, 0] (.ld 3 true (.ia 3 (.ld 1 false (.fa 2 (.sl 7))) (.sl 9))) (.ld 3 true (.ia 3 (.ld 1 false (.fa 2 (.sl 8))) (.sl 9)))))], [], none, [2, 3, 6, 7, 8, 9], 11, [[], [0], [], [2, 0, 1], [1, 0, 2, 3], [], [5], [], [7, 5, 6], [6, 5, 7, 8], [8, 7, 5, 6, 9, 3, 2, 0, 1, 4]], [], []⟩])
     (.cond (.sl 99)
      (.seq
       (.reg [⟨[], [(4, (.bool false))], [], none, [], 1, [], [], []⟩])
       (.seq
        (.tidy 0 [4])
        .ret))
      .skip)))
   (.reg [⟨[], [(9, (.bin .add (.sl 9) (.int .i64 1)))], [], none, [2, 3, 6, 7, 8], 3, [], [], []⟩])))
def f15_L2 : C :=
 (.seq
  (.seq
   (.reg [⟨[], [(48, (.bin .lss (.sl 6) (.len false (.ld 1 false (.fa 1 (.sl 2))))))], [], none, [2, 3, 6], 5, [], [], []⟩])
   (.cond (.sl 48)
    .skip
    (.seq
     (.tidy 0 [])
     (.exit 2))))
  (.seq
   (.block 3
    (.seq
     (.reg [⟨[(7, .box (.agg (.cons (.str []) (.cons (.int .i64 0) (.cons (.nilsl 3) .nil)))))], [], [], some (none, .store 3 (.sl 7) (.ld 3 true (.ia 3 (.ld 1 false (.fa 1 (.sl 2))) (.sl 6)))), [2, 3, 6, 7], 7, [], [], []⟩])
     (.seq
      (.reg [⟨[(8, .box (.agg (.cons (.str []) (.cons (.int .i64 0) (.cons (.nilsl 3) .nil)))))], [], [], some (none, .store 3 (.sl 8) (.ld 3 true (.ia 3 (.ld 1 false (.fa 1 (.sl 3))) (.sl 6)))), [2, 3, 6, 7, 8], 7, [], [], []⟩])
      (.seq
       (.seq
        (.reg [⟨[], [(81, (.or (.or (.bin .neq (.ld 1 false (.fa 0 (.sl 7))) (.ld 1 false (.fa 0 (.sl 8)))) (.bin .neq (.ld 1 false (.fa 1 (.sl 7))) (.ld 1 false (.fa 1 (.sl 8))))) (.bin .neq (.len false (.ld 1 false (.fa 2 (.sl 7)))) (.len false (.ld 1 false (.fa 2 (.sl 8)))))))], [], none, [2, 3, 6, 7, 8], 21, [], [], []⟩])
        (.cond (.sl 81)
         (.seq
          (.reg [⟨[], [(4, (.bool false))], [], none, [], 1, [], [], []⟩])
          (.seq
           (.tidy 0 [4])
           .ret))
         .skip))
       (.seq
        (.reg [⟨[], [(9, (.int .i64 0))], [], none, [2, 3, 6, 7, 8], 1, [], [], []⟩])
        (.block 4
         (.seq (.tidy 0 [2, 3, 6, 7, 8, 9]) (.loop (.seq (.tidy 0 [2, 3, 6, 7, 8, 9]) f15_L1)))))))))
   (.reg [⟨[], [(6, (.bin .add (.sl 6) (.int .i64 1)))], [], none, [2, 3], 3, [], [], []⟩])))
def f15 : Fun := ⟨
 (.seq
  (.reg [⟨[(2, .box (.sl 0)), (3, .box (.sl 1))], [], [(.bool false)], none, [2, 3], 3, [], [], []⟩])
  (.seq
   (.seq
    (.reg [⟨[], [(25, (.or (.bin .neq (.len false (.ld 1 false (.fa 0 (.sl 2)))) (.len false (.ld 1 false (.fa 0 (.sl 3))))) (.bin .neq (.len false (.ld 1 false (.fa 1 (.sl 2)))) (.len false (.ld 1 false (.fa 1 (.sl 3)))))))], [], none, [2, 3], 16, [], [], []⟩])
    (.cond (.sl 25)
     (.seq
      (.reg [⟨[], [(4, (.bool false))], [], none, [], 1, [], [], []⟩])
      (.seq
       (.tidy 0 [4])
       .ret))
     .skip))
   (.seq
    (.seq
     (.reg [⟨[], [(5, (.int .i64 0))], [], none, [2, 3], 1, [], [], []⟩])
     (.block 0
      (.seq (.tidy 0 [2, 3, 5]) (.loop (.seq (.tidy 0 [2, 3, 5]) f15_L0)))))
    (.seq
     (.seq
      (.reg [⟨[], [(6, (.int .i64 0))], [], none, [2, 3], 1, [], [], []⟩])
      (.block 2
       (.seq (.tidy 0 [2, 3, 6]) (.loop (.seq (.tidy 0 [2, 3, 6]) f15_L2)))))
     (.seq
      (.reg [⟨[], [(4, (.bool true))], [], none, [], 1, [], [], []⟩])
      (.seq
       (.tidy 0 [4])
       .ret)))))),
 [(.sl 4)], false⟩
/- 'sloth/code.Print' -/
def f19_L0 : C :=
 (.seq
  (.reg [⟨[], [(21, (.bin .lss (.sl 20) (.sl 19)))], [], none, [1, 5, 18, 19, 20], 1, [], [], []⟩])
  (.seq
   (.cond (.sl 21)
    .skip
    (.seq
     (.tidy 0 [1, 5])
     (.exit 0)))
   (.seq
    (.block 1
     (.seq
      (.reg [⟨[(7, .box (.agg (.cons (.str []) (.cons (.int .i64 0) .nil))))], [], [], some (none, .store 2 (.sl 7) (.ld 2 true (.ia 2 (.sl 18) (.sl 20)))), [1, 5, 7, 18, 19, 20], 4, [], [], []⟩])
      (.reg [⟨[], [], [], some (some 34, .calle 47 (.cons (.sl 5) (.cons (.bin .add (.bin .add (.bin .add (.bin .add (.str [115, 104, 97, 112, 101, 32]) (.call 48 (.cons (.ld 1 false (.fa 0 (.sl 7))) .nil))) (.str [32])) (.call 49 (.cons (.ld 1 false (.fa 1 (.sl 7))) .nil))) (.str [10])) .nil))), [1, 5, 18, 19, 20], 11, [[], [0], [0, 1], [1, 0, 2], [2, 0, 1, 3], [], [5], [1, 0, 2, 5, 6], [6, 5, 7, 3, 1, 0, 2, 4], [4, 2, 0, 1, 3, 7, 5, 6, 8], [8, 6, 5, 7, 3, 1, 0, 2, 4, 9]], [], []⟩])))
    (.reg [⟨[], [(20, (.bin .add (.sl 20) (.int .i64 1)))], [], none, [1, 5, 18, 19], 2, [], [], []⟩]))))
def f19_L1 : C :=
 (.seq
  (.reg [⟨[], [(58, (.bin .lss (.sl 57) (.sl 56)))], [], none, [1, 5, 37, 38, 39, 55, 56, 57], 1, [], [], []⟩])
  (.seq
   (.cond (.sl 58)
    .skip
    (.seq
     (.tidy 0 [1, 5, 37, 38, 39])
     (.exit 4)))
   (.seq
    (.block 5
     (.seq
      (.reg [⟨[(11, .box (.agg (.cons (.int .i64 0) (.cons (.int .i64 0) (.cons (.int .i64 0) .nil)))))], [], [], some (none, .store 3 (.sl 11) (.ld 3 true (.ia 3 (.sl 55) (.sl 57)))), [1, 5, 11, 37, 38, 39, 55, 56, 57], 4, [], [], []⟩])
      (.reg [⟨[], [], [], some (some 64, .calle 47 (.cons (.sl 5) (.cons (.call 50 (.cons (.ld 2 true (.sl 1)) (.cons (.ld 3 true (.sl 11)) .nil))) .nil))), [1, 5, 37, 38, 39, 55, 56, 57], 4, [], [], []⟩])))
    (.reg [⟨[], [(57, (.bin .add (.sl 57) (.int .i64 1)))], [], none, [1, 5, 37, 38, 39, 55, 56], 2, [], [], []⟩]))))
def f19_L2 : C :=
 (.seq
  (.reg [⟨[], [(40, (.bin .lss (.sl 39) (.sl 38)))], [], none, [1, 5, 37, 38, 39], 1, [], [], []⟩])
  (.seq
   (.cond (.sl 40)
    .skip
    (.seq
     (.tidy 0 [5])
     (.exit 2)))
   (.seq
    (.block 3
     (.seq
      (.reg [⟨[(9, .box (.agg (.cons (.str []) (.cons (.int .i64 0) (.cons (.nilsl 3) .nil)))))], [], [], some (none, .store 3 (.sl 9) (.ld 3 true (.ia 3 (.sl 37) (.sl 39)))), [1, 5, 9, 37, 38, 39], 4, [], [], []⟩])
      (.seq
       (.reg [⟨[], [], [], some (some 53, .calle 47 (.cons (.sl 5) (.cons (.bin .add (.bin .add (.bin .add (.bin .add (.str [103, 108, 111, 98, 97, 108, 32]) (.call 48 (.cons (.ld 1 false (.fa 0 (.sl 9))) .nil))) (.str [32])) (.call 49 (.cons (.ld 1 false (.fa 1 (.sl 9))) .nil))) (.str [10])) .nil))), [1, 5, 9, 37, 38, 39], 11, [[], [0], [0, 1], [1, 0, 2], [2, 0, 1, 3], [], [5], [1, 0, 2, 5, 6], [6, 5, 7, 3, 1, 0, 2, 4], [4, 2, 0, 1, 3, 7, 5, 6, 8], [8, 6, 5, 7, 3, 1, 0, 2, 4, 9]], [], []⟩])
       (.seq
        (.seq
         (.reg [⟨[], [(55, (.ld 1 false (.fa 2 (.sl 9)))), (56, (.len false (.ld 1 false (.fa 2 (.sl 9))))), (57, (.int .i64 0))], [], none, [1, 5, 37, 38, 39], 4, [], [], []⟩])
         (.block 4
          (.seq (.tidy 0 [1, 5, 37, 38, 39, 55, 56, 57]) (.loop (.seq (.tidy 0 [1, 5, 37, 38, 39, 55, 56, 57]) f19_L1)))))
        (.seq
         (.reg [⟨[], [], [], some (some 66, .calle 51 (.cons (.sl 5) .nil)), [1, 5, 37, 38, 39], 1, [], [], []⟩, ⟨[], [(67, (.bin .gtr (.sl 66) (.int .i64 8388608)))], [], none, [1, 5, 37, 38, 39], 1, [], [], []⟩])
         (.cond (.sl 67)
          (.seq
           (.reg [⟨[], [(2, (.str [])), (3, (.int .i64 4))], [], none, [], 2, [], [], []⟩])
           (.seq
            (.tidy 0 [2, 3])
            .ret))
          .skip))))))
    (.reg [⟨[], [(39, (.bin .add (.sl 39) (.int .i64 1)))], [], none, [1, 5, 37, 38], 2, [], [], []⟩]))))
def f19 : Fun := ⟨
 (.seq
  (.reg [⟨[(1, .box (.sl 0))], [], [(.int .i64 0), (.str [])], none, [1], 3, [], [], []⟩])
  (.seq
   (.seq
    (.reg [⟨[], [(4, (.call 13 (.cons (.ld 2 true (.sl 1)) .nil)))], [], none, [1], 3, [], [], []⟩])
    (.seq
     (.reg [⟨[], [(15, (.bin .neq (.sl 4) (.int .i64 0)))], [], none, [1, 4], 2, [], [], []⟩])
     (.cond (.sl 15)
      (.seq
       (.reg [⟨[], [(2, (.str [])), (3, (.sl 4))], [], none, [], 3, [], [], []⟩])
       (.seq
        (.tidy 0 [2, 3])
        .ret))
      .skip)))
   (.seq
    (.reg [⟨[(5, .bld 78 5)], [], [], none, [1, 5], 1, [], [], []⟩])
    (.seq
     (.seq
      (.reg [⟨[], [(18, (.ld 1 false (.fa 0 (.sl 1)))), (19, (.len false (.ld 1 false (.fa 0 (.sl 1))))), (20, (.int .i64 0))], [], none, [1, 5], 4, [], [], []⟩])
      (.block 0
       (.seq (.tidy 0 [1, 5, 18, 19, 20]) (.loop (.seq (.tidy 0 [1, 5, 18, 19, 20]) f19_L0)))))
     (.seq
      (.seq
       (.reg [⟨[], [(37, (.ld 1 false (.fa 1 (.sl 1)))), (38, (.len false (.ld 1 false (.fa 1 (.sl 1))))), (39, (.int .i64 0))], [], none, [1, 5], 4, [], [], []⟩])
       (.block 2
        (.seq (.tidy 0 [1, 5, 37, 38, 39]) (.loop (.seq (.tidy 0 [1, 5, 37, 38, 39]) f19_L2)))))
      (.seq
       (.seq
        (.reg [⟨[], [], [], some (some 69, .calle 51 (.cons (.sl 5) .nil)), [5], 1, [], [], []⟩, ⟨[], [(70, (.bin .gtr (.sl 69) (.int .i64 8388608)))], [], none, [5], 1, [], [], []⟩])
        (.cond (.sl 70)
         (.seq
          (.reg [⟨[], [(2, (.str [])), (3, (.int .i64 4))], [], none, [], 2, [], [], []⟩])
          (.seq
           (.tidy 0 [2, 3])
           .ret))
         .skip))
       (.seq
        (.reg [⟨[], [], [], some (some 71, .calle 52 (.cons (.sl 5) .nil)), [], 1, [], [], []⟩, ⟨[], [(2, (.sl 71)), (3, (.int .i64 0))], [], none, [], 2, [], [], []⟩])
        (.seq
         (.tidy 0 [2, 3])
         .ret)))))))),
 [(.sl 2), (.sl 3)], false⟩
/- 'sloth/code.Read' -/
def f21 : Fun := ⟨
 (.seq
  (.reg [⟨[(2, .box (.agg (.cons (.nilsl 2) (.cons (.nilsl 3) .nil)))), (3, .box (.int .i64 0))], [], [], none, [0, 2, 3], 2, [], [], []⟩])
  (.seq
   (.seq
    (.reg [⟨[], [(7, (.bin .gtr (.len true (.sl 0)) (.int .i64 8388608)))], [], none, [0, 2, 3], 3, [], [], []⟩])
    (.cond (.sl 7)
     (.seq
      (.reg [⟨[], [], [], some (none, .store 2 (.sl 2) (.agg (.cons (.nilsl 2) (.cons (.nilsl 3) .nil)))), [2, 3], 2, [], [], []⟩, ⟨[], [], [], some (none, .store 1 (.sl 3) (.int .i64 2)), [2, 3], 1, [], [], []⟩])
      (.seq
       (.tidy 0 [2, 3])
       .ret))
     .skip))
   (.seq
    .stuck
    (.seq
     (.reg [⟨[(12, .box (.set 0 1 (.sl 0) (.agg (.cons (.str []) (.cons (.int .i64 0) (.cons (.nilsl 3) (.cons (.nilsl 2) (.cons (.nilsl 3) .nil))))))))], [(4, (.sl 12))], [], none, [2, 3], 4, [], [], []⟩])
     (.seq
      (.reg [⟨[], [], [], some (some 14, .calle 60 (.cons (.sl 4) .nil)), [2, 3, 4], 2, [], [], []⟩])
      (.seq
       (.reg [⟨[], [], [], some (some 16, .calle 61 (.cons (.sl 4) .nil)), [2, 3, 4], 2, [], [], []⟩])
       (.seq
        (.seq
         (.reg [⟨[], [(21, (.call 34 (.cons (.ld 2 true (.fa 3 (.fa 0 (.sl 4)))) .nil)))], [], none, [2, 3, 4], 5, [], [], []⟩])
         (.cond (.sl 21)
          (.seq
           (.reg [⟨[], [], [], some (none, .store 2 (.sl 2) (.agg (.cons (.nilsl 2) (.cons (.nilsl 3) .nil)))), [2, 3], 2, [], [], []⟩, ⟨[], [], [], some (none, .store 1 (.sl 3) (.int .i64 4)), [2, 3], 1, [], [], []⟩])
           (.seq
            (.tidy 0 [2, 3])
            .ret))
          .skip))
        (.seq
         (.reg [⟨[], [], [], some (none, .store 2 (.sl 2) (.ld 2 true (.fa 3 (.fa 0 (.sl 4))))), [2, 3], 5, [], [], []⟩, ⟨[], [], [], some (none, .store 1 (.sl 3) (.int .i64 0)), [2, 3], 1, [], [], []⟩])
         (.seq
          (.tidy 0 [2, 3])
          .ret))))))))),
 [(.ld 2 true (.sl 2)), (.ld 1 false (.sl 3))], false⟩
/- 'sloth/code.Bytes' -/
def f24_L0 : C :=
 (.seq
  (.reg [⟨[], [(28, (.bin .lss (.sl 27) (.sl 26)))], [], none, [1, 5, 25, 26, 27], 1, [], [], []⟩])
  (.seq
   (.cond (.sl 28)
    .skip
    (.seq
     (.tidy 0 [1, 5])
     (.exit 0)))
   (.seq
    (.block 1
     (.seq
      (.reg [⟨[(7, .box (.agg (.cons (.str []) (.cons (.int .i64 0) .nil))))], [], [], some (none, .store 2 (.sl 7) (.ld 2 true (.ia 2 (.sl 25) (.sl 27)))), [1, 5, 7, 25, 26, 27], 4, [], [], []⟩])
      (.reg [⟨[], [(37, (.conv .u64 (.ld 1 false (.fa 1 (.sl 7)))))], [], some (some 34, .calle 69 (.cons (.sl 5) (.cons (.ld 1 false (.fa 0 (.sl 7))) .nil))), [1, 25, 26, 27], 7, [[], [], [1], [1, 2, 0], [], [4], [4, 5], [5, 4, 6, 0, 2, 1, 3], [3, 1, 2, 0, 6, 4, 5, 7]], [], [(.fa 1 (.sl 7)), (.ld 1 false (.fa 1 (.sl 7))), (.conv .u64 (.ld 1 false (.fa 1 (.sl 7))))]⟩, ⟨[], [], [], some (some 38, .calle 68 (.cons (.sl 34) (.cons (.sl 37) .nil))), [1, 25, 26, 27], 1, [], [], []⟩, ⟨[], [(5, (.sl 38))], [], none, [1, 25, 26, 27], 1, [], [], []⟩])))
    (.reg [⟨[], [(27, (.bin .add (.sl 27) (.int .i64 1)))], [], none, [1, 5, 25, 26], 2, [], [], []⟩]))))
def f24_L1 : C :=
 (.seq
  (.reg [⟨[], [(70, (.bin .lss (.sl 69) (.sl 68)))], [], none, [5, 47, 48, 49, 67, 68, 69], 1, [], [], []⟩])
  (.seq
   (.cond (.sl 70)
    .skip
    (.seq
     (.tidy 0 [5, 47, 48, 49])
     (.exit 4)))
   (.seq
    (.block 5
     (.seq
      (.reg [⟨[(11, .box (.agg (.cons (.int .i64 0) (.cons (.int .i64 0) (.cons (.int .i64 0) .nil)))))], [], [], some (none, .store 3 (.sl 11) (.ld 3 true (.ia 3 (.sl 67) (.sl 69)))), [5, 11, 47, 48, 49, 67, 68, 69], 4, [], [], []⟩])
      (.reg [⟨[], [], [], some (some 75, .calle 70 (.cons (.sl 5) (.cons (.ld 3 true (.sl 11)) .nil))), [47, 48, 49, 67, 68, 69], 3, [], [], []⟩, ⟨[], [(5, (.sl 75))], [], none, [47, 48, 49, 67, 68, 69], 1, [], [], []⟩])))
    (.reg [⟨[], [(69, (.bin .add (.sl 69) (.int .i64 1)))], [], none, [5, 47, 48, 49, 67, 68], 2, [], [], []⟩]))))
def f24_L2 : C :=
 (.seq
  (.reg [⟨[], [(50, (.bin .lss (.sl 49) (.sl 48)))], [], none, [5, 47, 48, 49], 1, [], [], []⟩])
  (.seq
   (.cond (.sl 50)
    .skip
    (.seq
     (.tidy 0 [5])
     (.exit 2)))
   (.seq
    (.block 3
     (.seq
      (.reg [⟨[(9, .box (.agg (.cons (.str []) (.cons (.int .i64 0) (.cons (.nilsl 3) .nil)))))], [], [], some (none, .store 3 (.sl 9) (.ld 3 true (.ia 3 (.sl 47) (.sl 49)))), [5, 9, 47, 48, 49], 4, [], [], []⟩])
      (.seq
       (.regp [0, 1, 2, 4, 5, 6, 8, 9, 10, 11, 3, 7, 12, 13] [⟨[], [], [(.conv .u64 (.len false (.ld 1 false (.fa 2 (.sl 9))))), (.conv .u64 (.ld 1 false (.fa 1 (.sl 9))))], some (some 56, .calle 69 (.cons (.sl 5) (.cons (.ld 1 false (.fa 0 (.sl 9))) .nil))), [9, 47, 48, 49], 11, [[], [], [1], [], [3], [3, 4], [], [6], [6, 7], [7, 6, 8], [1, 2, 0], [4, 3, 5, 0, 2, 1, 10], [8, 6, 7, 9, 10, 1, 2, 0, 5, 3, 4, 11], [11, 4, 3, 5, 0, 2, 1, 10, 9, 7, 6, 8, 12]], [], [(.fa 1 (.sl 9)), (.ld 1 false (.fa 1 (.sl 9))), (.conv .u64 (.ld 1 false (.fa 1 (.sl 9)))), (.fa 2 (.sl 9)), (.ld 1 false (.fa 2 (.sl 9))), (.len false (.ld 1 false (.fa 2 (.sl 9)))), (.conv .u64 (.len false (.ld 1 false (.fa 2 (.sl 9)))))]⟩, ⟨[], [], [(.conv .u64 (.len false (.ld 1 false (.fa 2 (.sl 9)))))], some (some 60, .calle 68 (.cons (.sl 56) (.cons (.conv .u64 (.ld 1 false (.fa 1 (.sl 9)))) .nil))), [9, 47, 48, 49], 1, [], [], [(.fa 2 (.sl 9)), (.ld 1 false (.fa 2 (.sl 9))), (.len false (.ld 1 false (.fa 2 (.sl 9)))), (.conv .u64 (.len false (.ld 1 false (.fa 2 (.sl 9)))))]⟩, ⟨[], [], [], some (some 65, .calle 68 (.cons (.sl 60) (.cons (.conv .u64 (.len false (.ld 1 false (.fa 2 (.sl 9))))) .nil))), [9, 47, 48, 49], 1, [], [], []⟩, ⟨[], [(5, (.sl 65))], [], none, [9, 47, 48, 49], 1, [], [], []⟩])
       (.seq
        (.reg [⟨[], [(67, (.ld 1 false (.fa 2 (.sl 9)))), (68, (.len false (.ld 1 false (.fa 2 (.sl 9))))), (69, (.int .i64 0))], [], none, [5, 47, 48, 49], 4, [], [], []⟩])
        (.block 4
         (.seq (.tidy 0 [5, 47, 48, 49, 67, 68, 69]) (.loop (.seq (.tidy 0 [5, 47, 48, 49, 67, 68, 69]) f24_L1))))))))
    (.reg [⟨[], [(49, (.bin .add (.sl 49) (.int .i64 1)))], [], none, [5, 47, 48], 2, [], [], []⟩]))))
def f24 : Fun := ⟨
 (.seq
  (.reg [⟨[(1, .box (.sl 0))], [], [(.int .i64 0), (.nilsl 1)], none, [1], 3, [], [], []⟩])
  (.seq
   (.seq
    (.reg [⟨[], [(4, (.call 13 (.cons (.ld 2 true (.sl 1)) .nil)))], [], none, [1], 3, [], [], []⟩])
    (.seq
     (.reg [⟨[], [(15, (.bin .neq (.sl 4) (.int .i64 0)))], [], none, [1, 4], 2, [], [], []⟩])
     (.cond (.sl 15)
      (.seq
       (.reg [⟨[], [(2, (.nilsl 1)), (3, (.sl 4))], [], none, [], 3, [], [], []⟩])
       (.seq
        (.tidy 0 [2, 3])
        .ret))
      .skip)))
   (.seq
    (.reg [⟨[(17, .lits 1 (.cons (.int .u8 83) (.cons (.int .u8 76) (.cons (.int .u8 84) (.cons (.int .u8 72) .nil)))))], [], [], none, [1, 17], 1, [], [], []⟩, ⟨[], [], [], some (some 18, .mark (.sl 17)), [1], 1, [], [], []⟩, ⟨[], [], [], some (some 23, .calle 68 (.cons (.sl 18) (.cons (.conv .u64 (.len false (.ld 1 false (.fa 0 (.sl 1))))) .nil))), [1], 5, [], [], []⟩, ⟨[], [(5, (.sl 23))], [], none, [1], 1, [], [], []⟩])
    (.seq
     (.seq
      (.reg [⟨[], [(25, (.ld 1 false (.fa 0 (.sl 1)))), (26, (.len false (.ld 1 false (.fa 0 (.sl 1))))), (27, (.int .i64 0))], [], none, [1, 5], 4, [], [], []⟩])
      (.block 0
       (.seq (.tidy 0 [1, 5, 25, 26, 27]) (.loop (.seq (.tidy 0 [1, 5, 25, 26, 27]) f24_L0)))))
     (.seq
      (.reg [⟨[], [], [], some (some 45, .calle 68 (.cons (.sl 5) (.cons (.conv .u64 (.len false (.ld 1 false (.fa 1 (.sl 1))))) .nil))), [1], 6, [], [], []⟩, ⟨[], [(5, (.sl 45))], [], none, [1], 1, [], [], []⟩])
      (.seq
       (.seq
        (.reg [⟨[], [(47, (.ld 1 false (.fa 1 (.sl 1)))), (48, (.len false (.ld 1 false (.fa 1 (.sl 1))))), (49, (.int .i64 0))], [], none, [5], 4, [], [], []⟩])
        (.block 2
         (.seq (.tidy 0 [5, 47, 48, 49]) (.loop (.seq (.tidy 0 [5, 47, 48, 49]) f24_L2)))))
       (.seq
        (.reg [⟨[], [], [], some (some 82, .app 1 (.sl 5) (.call 71 (.cons (.call 72 (.cons (.sl 5) .nil)) .nil))), [], 5, [], [], []⟩, ⟨[], [(5, (.sl 82))], [], none, [], 1, [], [], []⟩])
        (.seq
         (.seq
          (.reg [⟨[], [(85, (.bin .gtr (.len false (.sl 5)) (.int .i64 8388608)))], [], none, [5], 3, [], [], []⟩])
          (.cond (.sl 85)
           (.seq
            (.reg [⟨[], [(2, (.nilsl 1)), (3, (.int .i64 4))], [], none, [], 2, [], [], []⟩])
            (.seq
             (.tidy 0 [2, 3])
             .ret))
           .skip))
         (.seq
          (.reg [⟨[], [(2, (.sl 5)), (3, (.int .i64 0))], [], none, [], 3, [], [], []⟩])
          (.seq
           (.tidy 0 [2, 3])
           .ret)))))))))),
 [(.sl 2), (.sl 3)], false⟩
/- 'sloth/code.Load' -/
def f27 : Fun := ⟨
 (.seq
  (.reg [⟨[(2, .box (.agg (.cons (.nilsl 2) (.cons (.nilsl 3) .nil)))), (3, .box (.int .i64 0))], [], [], none, [0, 2, 3], 2, [], [], []⟩])
  (.seq
   (.seq
    (.reg [⟨[], [(8, (.bin .gtr (.len false (.sl 0)) (.int .i64 8388608)))], [], none, [0, 2, 3], 3, [], [], []⟩])
    (.cond (.sl 8)
     (.seq
      (.reg [⟨[], [], [], some (none, .store 2 (.sl 2) (.agg (.cons (.nilsl 2) (.cons (.nilsl 3) .nil)))), [2, 3], 2, [], [], []⟩, ⟨[], [], [], some (none, .store 1 (.sl 3) (.int .i64 2)), [2, 3], 1, [], [], []⟩])
      (.seq
       (.tidy 0 [2, 3])
       .ret))
     .skip))
   (.seq
    .stuck
    (.seq
     (.reg [⟨[], [(4, (.bin .sub (.len false (.sl 0)) (.int .i64 4)))], [], none, [0, 2, 3], 4, [], [], []⟩])
     (.seq
      (.seq
       (.reg [⟨[], [(34, (.or (.or (.bin .lss (.sl 4) (.int .i64 4)) (.bin .neq (.b2s (.cut false false true false 1 (.sl 0) .nil (.int .i64 4) .nil)) (.str [83, 76, 84, 72]))) (.bin .neq (.b2s (.call 71 (.cons (.call 72 (.cons (.cut false false true false 1 (.sl 0) .nil (.sl 4) .nil) .nil)) .nil))) (.b2s (.cut false true false false 1 (.sl 0) (.sl 4) .nil .nil)))))], [], none, [0, 2, 3, 4], 21, [[], [0], [0, 1], [1, 0, 2], [2, 0, 1, 3], [3, 1, 0, 2, 4], [4, 2, 0, 1, 3, 5], [5, 3, 4, 6, 1, 0, 2], [2, 0, 1, 6, 4, 3, 5, 7], [7, 5, 3, 4, 6, 1, 0, 2, 8], [7, 5, 3, 4, 6, 1, 0, 2, 8], [10, 8, 2, 0, 1, 6, 4, 3, 5, 7, 9], [9, 7, 5, 3, 4, 6, 1, 0, 2, 8, 10, 11], [11, 10, 8, 2, 0, 1, 6, 4, 3, 5, 7, 9, 12], [12, 9, 7, 5, 3, 4, 6, 1, 0, 2, 8, 10, 11, 13], [7, 5, 3, 4, 6, 1, 0, 2, 8], [7, 5, 3, 4, 6, 1, 0, 2, 8], [16, 8, 2, 0, 1, 6, 4, 3, 5, 7, 15], [15, 7, 5, 3, 4, 6, 1, 0, 2, 8, 16, 17], [17, 16, 15, 18, 13, 11, 10, 8, 2, 0, 1, 6, 4, 3, 5, 7, 9, 12, 14], [14, 12, 9, 10, 11, 13, 18, 15, 16, 17, 19, 7, 5, 3, 4, 6, 1, 0, 2, 8]], [], []⟩])
       (.cond (.sl 34)
        (.seq
         (.reg [⟨[], [], [], some (none, .store 2 (.sl 2) (.agg (.cons (.nilsl 2) (.cons (.nilsl 3) .nil)))), [2, 3], 2, [], [], []⟩, ⟨[], [], [], some (none, .store 1 (.sl 3) (.int .i64 171)), [2, 3], 1, [], [], []⟩])
         (.seq
          (.tidy 0 [2, 3])
          .ret))
        .skip))
      (.seq
       (.reg [⟨[(40, .box (.set 0 1 (.cut false true true false 1 (.sl 0) (.int .i64 4) (.sl 4) .nil) (.agg (.cons (.nilsl 1) .nil))))], [(5, (.sl 40))], [], none, [2, 3], 6, [], [], []⟩])
       (.seq
        (.reg [⟨[], [], [], some (some 42, .calle 77 (.cons (.sl 5) .nil)), [2, 3, 5], 2, [], [], []⟩, ⟨[], [], [], some (none, .store 2 (.sl 2) (.sl 42)), [2, 3, 5], 1, [], [], []⟩])
        (.seq
         (.seq
          (.reg [⟨[], [(53, (.or (.bin .gtr (.len false (.ld 1 false (.fa 0 (.fa 0 (.sl 5))))) (.int .i64 0)) (.bin .neq (.call 13 (.cons (.ld 2 true (.sl 2)) .nil)) (.int .i64 0))))], [], none, [2, 3], 11, [], [], []⟩])
          (.cond (.sl 53)
           (.seq
            (.reg [⟨[], [], [], some (none, .store 2 (.sl 2) (.agg (.cons (.nilsl 2) (.cons (.nilsl 3) .nil)))), [2, 3], 2, [], [], []⟩, ⟨[], [], [], some (none, .store 1 (.sl 3) (.int .i64 171)), [2, 3], 1, [], [], []⟩])
            (.seq
             (.tidy 0 [2, 3])
             .ret))
           .skip))
         (.seq
          (.reg [⟨[], [], [], some (none, .store 2 (.sl 2) (.ld 2 true (.sl 2))), [2, 3], 2, [], [], []⟩, ⟨[], [], [], some (none, .store 1 (.sl 3) (.int .i64 0)), [2, 3], 1, [], [], []⟩])
          (.seq
           (.tidy 0 [2, 3])
           .ret)))))))))),
 [(.ld 2 true (.sl 2)), (.ld 1 false (.sl 3))], false⟩
/- 'sloth/slothlaw17.id' -/
def f33 : Fun := ⟨
 (.seq
  (.reg [⟨[(0, .box (.agg (.cons (.nilsl 2) (.cons (.nilsl 3) .nil))))], [], [], none, [0], 1, [], [], []⟩])
  (.seq
   (.reg [⟨[(6, .lits 3 (.cons (.set 0 1 (.int .i64 1) (.agg (.cons (.int .i64 0) (.cons (.int .i64 0) (.cons (.int .i64 0) .nil))))) (.cons (.set 1 1 (.int .i64 2) (.set 0 1 (.int .i64 7) (.agg (.cons (.int .i64 0) (.cons (.int .i64 0) (.cons (.int .i64 0) .nil)))))) (.cons (.set 1 1 (.int .i64 1) (.set 0 1 (.int .i64 4) (.agg (.cons (.int .i64 0) (.cons (.int .i64 0) (.cons (.int .i64 0) .nil)))))) (.cons (.set 0 1 (.int .i64 17) (.agg (.cons (.int .i64 0) (.cons (.int .i64 0) (.cons (.int .i64 0) .nil))))) .nil)))))], [(1, (.sl 6))], [], none, [0], 6, [], [], []⟩])
   (.seq
    (.reg [⟨[(7, .callo 78 .nil), (10, .lits 3 (.cons (.set 2 1 (.sl 1) (.set 1 1 (.int .i64 1) (.set 0 1 (.str [105, 100]) (.agg (.cons (.str []) (.cons (.int .i64 0) (.cons (.nilsl 3) .nil))))))) .nil))], [], [], some (none, .store 2 (.sl 0) (.set 1 1 (.sl 10) (.set 0 1 (.sl 7) (.agg (.cons (.nilsl 2) (.cons (.nilsl 3) .nil)))))), [0], 6, [], [], []⟩])
    (.seq
     (.tidy 0 [0])
     .ret)))),
 [(.ld 2 true (.sl 0))], false⟩
/- 'sloth/code.quote' -/
def f48 : Fun := ⟨
 (.seq
  (.reg [⟨[], [], [(.str [])], none, [0], 1, [], [], []⟩])
  (.seq
   (.reg [⟨[], [(2, (.bin .add (.bin .add (.str [34]) (.call 88 (.cons (.call 88 (.cons (.sl 0) (.cons (.str [92]) (.cons (.str [92, 92]) .nil)))) (.cons (.str [34]) (.cons (.str [92, 34]) .nil))))) (.str [34])))], [], none, [], 6, [], [], []⟩])
   (.seq
    (.tidy 0 [2])
    .ret))),
 [(.sl 2)], false⟩
/- 'sloth/code.line' -/
def f50 : Fun := ⟨
 (.seq
  (.reg [⟨[(2, .box (.sl 0)), (3, .box (.sl 1))], [], [(.str [])], none, [2, 3], 3, [], [], []⟩])
  (.seq
   (.reg [⟨[(5, .box (.agg (.cons (.str []) (.cons (.int .i64 0) (.cons (.int .i64 0) .nil)))))], [(13, (.ext 1 (.call 79 (.cons (.ld 1 false (.fa 0 (.sl 3))) .nil))))], [], some (none, .store 3 (.sl 5) (.ext 0 (.call 79 (.cons (.ld 1 false (.fa 0 (.sl 3))) .nil)))), [2, 3, 5], 8, [], [], []⟩, ⟨[], [], [(.sl 13)], none, [2, 3, 5], 1, [], [], []⟩])
   (.seq
    (.reg [⟨[], [(7, (.str [10]))], [], none, [2, 3, 5], 1, [], [], []⟩])
    (.seq
     (.block 0
      (.seq
       (.block 3
        (.seq
         (.block 2
          (.seq
           (.block 1
            (.seq
             (.seq
              (.seq
               (.reg [⟨[], [(14, (.bin .neq (.ld 1 false (.fa 2 (.sl 5))) (.int .i64 0)))], [], none, [2, 3, 5, 7], 4, [], [], []⟩])
               (.cond (.sl 14)
                (.seq
                 (.tidy 0 [2, 3, 5, 7])
                 (.exit 1))
                .skip))
              (.seq
               (.reg [⟨[], [(18, (.bin .neq (.ld 1 false (.fa 1 (.sl 5))) (.int .i64 0)))], [], none, [2, 3, 5, 7], 4, [], [], []⟩])
               (.cond (.sl 18)
                (.seq
                 (.tidy 0 [2, 3, 5, 7])
                 (.exit 2))
                .skip)))
             (.seq
              (.tidy 0 [5, 7])
              (.exit 3))))
           (.reg [⟨[], [(7, (.bin .add (.bin .add (.str [32]) (.call 49 (.cons (.ld 1 false (.fa 2 (.sl 3))) .nil))) (.sl 7)))], [], none, [2, 3, 5], 7, [], [], []⟩])))
         (.reg [⟨[], [(7, (.bin .add (.bin .add (.str [32]) (.call 90 (.cons (.ld 2 true (.sl 2)) (.cons (.ld 1 false (.fa 1 (.sl 5))) (.cons (.ld 1 false (.fa 1 (.sl 3))) .nil))))) (.sl 7)))], [], none, [5], 10, [], [], []⟩])))
       (.seq
        (.reg [⟨[], [(7, (.bin .add (.bin .add (.str [32, 32]) (.ld 1 false (.fa 0 (.sl 5)))) (.sl 7)))], [], none, [], 6, [], [], []⟩])
        (.seq
         (.tidy 0 [7])
         (.exit 0)))))
     (.seq
      (.reg [⟨[], [(4, (.sl 7))], [], none, [], 2, [], [], []⟩])
      (.seq
       (.tidy 0 [4])
       .ret)))))),
 [(.sl 4)], false⟩
/- '(*sloth/code.reader).table' -/
def f60_L0 : C :=
 (.seq
  (.seq
   (.reg [⟨[], [(7, (.bin .eql (.sl 2) (.str [115, 104, 97, 112, 101])))], [], none, [0, 2], 2, [], [], []⟩])
   (.cond (.sl 7)
    .skip
    (.seq
     (.keep [0, 2])
     (.exit 0))))
  (.seq
   (.block 1
    (.regl [⟨[], [], [(.ld 1 false (.fa 0 (.fa 3 (.fa 0 (.sl 0)))))], some (some 17, .calle 97 (.cons (.sl 0) .nil)), [0], 9, [[], [], [1], [1, 2], [2, 1, 3], [3, 1, 2, 4], [], [6], [], [6, 7, 8], [8, 9, 6, 7], [7, 6, 9, 8, 10], [10, 8, 9, 6, 7, 11, 4, 2, 1, 3, 5], [12, 11, 10, 9, 8, 7, 6, 5, 4, 3, 2, 1, 0], [0, 1, 2, 3, 4, 5, 6, 7, 8, 9, 10, 11, 12, 13], [13, 12, 11, 10, 9, 8, 7, 6, 5, 4, 3, 2, 1, 0, 14], [14, 0, 1, 2, 3, 4, 5, 6, 7, 8, 9, 10, 11, 12, 13, 15]], [], [(.sl 0), (.fa 0 (.sl 0)), (.fa 3 (.fa 0 (.sl 0))), (.fa 0 (.fa 3 (.fa 0 (.sl 0)))), (.ld 1 false (.fa 0 (.fa 3 (.fa 0 (.sl 0)))))]⟩, ⟨[], [], [(.ld 1 false (.fa 0 (.fa 3 (.fa 0 (.sl 0)))))], some (some 19, .calle 98 (.cons (.sl 0) .nil)), [0, 17], 1, [], [], [(.sl 0), (.fa 0 (.sl 0)), (.fa 3 (.fa 0 (.sl 0))), (.fa 0 (.fa 3 (.fa 0 (.sl 0)))), (.ld 1 false (.fa 0 (.fa 3 (.fa 0 (.sl 0)))))]⟩, ⟨[(21, .lits 2 (.cons (.set 1 1 (.sl 19) (.set 0 1 (.sl 17) (.agg (.cons (.str []) (.cons (.int .i64 0) .nil))))) .nil))], [], [], some (some 22, .app 2 (.ld 1 false (.fa 0 (.fa 3 (.fa 0 (.sl 0))))) (.sl 21)), [0], 3, [], [], [(.sl 0)]⟩, ⟨[], [], [], some (none, .store 1 (.fa 0 (.fa 3 (.fa 0 (.sl 0)))) (.sl 22)), [0], 4, [], [], []⟩]))
   (.reg [⟨[], [], [], some (some 9, .calle 96 (.cons (.sl 0) .nil)), [0], 2, [], [], []⟩, ⟨[], [(2, (.sl 9))], [], none, [0], 1, [], [], []⟩])))
def f60_L1 : C :=
 (.seq
  (.seq
   (.reg [⟨[], [(44, (.and (.bin .neq (.sl 2) (.str [])) (.bin .neq (.sl 2) (.str [103, 108, 111, 98, 97, 108]))))], [], none, [0, 2, 3], 6, [], [], []⟩])
   (.cond (.sl 44)
    .skip
    (.seq
     (.keep [0, 2, 3])
     (.exit 4))))
  (.seq
   (.block 5
    (.regl [⟨[], [], [], some (some 60, .calle 99 (.cons (.sl 0) (.cons (.sl 2) (.cons (.len false (.ld 1 false (.fa 1 (.fa 3 (.fa 0 (.sl 0)))))) (.cons (.len false (.ld 1 false (.fa 2 (.sl 3)))) .nil))))), [0, 3], 14, [[], [0], [], [], [], [4], [4, 5], [5, 4, 6], [6, 4, 5, 7], [7, 5, 4, 6, 8], [], [10], [10, 11], [11, 10, 12, 8, 6, 4, 5, 7, 9, 3, 2], [2, 3, 9, 7, 5, 4, 6, 8, 12, 10, 11, 13], [13, 11, 10, 12, 8, 6, 4, 5, 7, 9, 3, 2, 14, 0, 1], [15, 14, 13, 12, 11, 10, 9, 8, 7, 6, 5, 4, 3, 2, 1, 0], [0, 1, 2, 3, 4, 5, 6, 7, 8, 9, 10, 11, 12, 13, 14, 15, 16]], [], [(.fa 2 (.sl 3)), (.ld 1 false (.fa 2 (.sl 3)))]⟩, ⟨[(61, .lits 3 (.cons (.sl 60) .nil))], [], [], some (some 62, .app 3 (.ld 1 false (.fa 2 (.sl 3))) (.sl 61)), [0, 3], 2, [], [], []⟩, ⟨[], [], [], some (none, .store 1 (.fa 2 (.sl 3)) (.sl 62)), [0, 3], 2, [], [], []⟩]))
   (.reg [⟨[], [], [], some (some 46, .calle 96 (.cons (.sl 0) .nil)), [0, 3], 2, [], [], []⟩, ⟨[], [(2, (.sl 46))], [], none, [0, 3], 1, [], [], []⟩])))
def f60_L2 : C :=
 (.seq
  (.seq
   (.reg [⟨[], [(27, (.bin .neq (.sl 2) (.str [])))], [], none, [0, 2], 2, [], [], []⟩])
   (.cond (.sl 27)
    .skip
    (.seq
     (.keep [])
     (.exit 2))))
  (.block 3
   (.seq
    (.seq
     (.reg [⟨[], [(29, (.bin .neq (.sl 2) (.str [103, 108, 111, 98, 97, 108])))], [], none, [0], 2, [], [], []⟩])
     (.cond (.sl 29)
      .stuck
      .skip))
    (.seq
     (.reg [⟨[], [], [], some (some 33, .calle 97 (.cons (.sl 0) .nil)), [0], 2, [], [], []⟩, ⟨[], [], [], some (some 35, .calle 98 (.cons (.sl 0) .nil)), [0, 33], 2, [], [], []⟩, ⟨[(3, .box (.agg (.cons (.str []) (.cons (.int .i64 0) (.cons (.nilsl 3) .nil)))))], [], [], some (none, .store 3 (.sl 3) (.set 1 1 (.sl 35) (.set 0 1 (.sl 33) (.agg (.cons (.str []) (.cons (.int .i64 0) (.cons (.nilsl 3) .nil))))))), [0, 3], 3, [], [], []⟩])
     (.seq
      (.seq
       (.reg [⟨[], [], [], some (some 38, .calle 96 (.cons (.sl 0) .nil)), [0, 3], 2, [], [], []⟩, ⟨[], [(2, (.sl 38))], [], none, [0, 3], 1, [], [], []⟩])
       (.block 4
        (.seq (.keep [0, 2, 3]) (.loop (.seq (.keep [0, 2, 3]) f60_L1)))))
      (.regl [⟨[(71, .lits 3 (.cons (.ld 3 true (.sl 3)) .nil))], [], [], some (some 72, .app 3 (.ld 1 false (.fa 1 (.fa 3 (.fa 0 (.sl 0))))) (.sl 71)), [0, 2], 9, [[], [], [1], [1, 2], [2, 1, 3], [3, 1, 2, 4], [], [6], [6, 7, 4, 2, 1, 3, 5], [8, 7, 6, 5, 4, 3, 2, 1, 0], [0, 1, 2, 3, 4, 5, 6, 7, 8, 9], [9, 8, 7, 6, 5, 4, 3, 2, 1, 0, 10], [10, 0, 1, 2, 3, 4, 5, 6, 7, 8, 9, 11]], [], [(.sl 0)]⟩, ⟨[], [], [], some (none, .store 1 (.fa 1 (.fa 3 (.fa 0 (.sl 0)))) (.sl 72)), [0, 2], 4, [], [], []⟩]))))))
def f60 : Fun := ⟨
 (.seq
  (.reg [⟨[], [], [], some (some 5, .calle 96 (.cons (.sl 0) .nil)), [0], 2, [], [], []⟩, ⟨[], [(2, (.sl 5))], [], none, [0], 1, [], [], []⟩])
  (.seq
   (.block 0
    (.seq (.keep [0, 2]) (.loop (.seq (.keep [0, 2]) f60_L0))))
   (.block 2
    (.seq (.keep [0, 2]) (.loop (.seq (.keep [0, 2]) f60_L2)))))),
 [], false⟩
/- '(*sloth/code.reader).resolve' -/
def f61_L0 : C :=
 (.seq
  (.reg [⟨[], [(26, (.bin .lss (.sl 25) (.sl 24)))], [], none, [0, 2, 3, 23, 24, 25], 1, [], [], []⟩])
  (.seq
   (.cond (.sl 26)
    .skip
    (.seq
     (.keep [0, 2, 3])
     (.exit 0)))
   (.seq
    (.block 1
     (.seq
      (.reg [⟨[(5, .box (.agg (.cons (.str []) (.cons (.int .i64 0) .nil))))], [(4, (.sl 25))], [], some (none, .store 2 (.sl 5) (.ld 2 true (.ia 2 (.sl 23) (.sl 25)))), [0, 2, 3, 5, 23, 24, 25], 6, [], [], []⟩])
      (.seq
       (.reg [⟨[], [(7, (.ext 1 (.lkp true 2 (.int .i64 0) (.sl 2) (.ld 1 false (.fa 0 (.sl 5))))))], [(.ext 0 (.lkp true 2 (.int .i64 0) (.sl 2) (.ld 1 false (.fa 0 (.sl 5)))))], none, [0, 2, 3, 4, 5, 23, 24, 25], 9, [], [], []⟩])
       (.seq
        (.reg [⟨[], [(38, (.un .not (.sl 7)))], [], none, [0, 2, 3, 4, 5, 23, 24, 25], 2, [], [], []⟩])
        (.cond (.sl 38)
         (.reg [⟨[], [], [], some (none, .mset 2 (.sl 2) (.ld 1 false (.fa 0 (.sl 5))) (.sl 4)), [0, 2, 3, 23, 24, 25], 5, [], [], []⟩])
         .skip)))))
    (.reg [⟨[], [(25, (.bin .add (.sl 25) (.int .i64 1)))], [], none, [0, 2, 3, 23, 24], 2, [], [], []⟩]))))
def f61_L1 : C :=
 (.seq
  (.reg [⟨[], [(51, (.bin .lss (.sl 50) (.sl 49)))], [], none, [0, 2, 3, 48, 49, 50], 1, [], [], []⟩])
  (.seq
   (.cond (.sl 51)
    .skip
    (.seq
     (.keep [0, 2, 3])
     (.exit 2)))
   (.seq
    (.block 3
     (.seq
      (.reg [⟨[(9, .box (.agg (.cons (.str []) (.cons (.int .i64 0) (.cons (.nilsl 3) .nil)))))], [(8, (.sl 50))], [], some (none, .store 3 (.sl 9) (.ld 3 true (.ia 3 (.sl 48) (.sl 50)))), [0, 2, 3, 9, 48, 49, 50], 6, [], [], []⟩])
      (.seq
       (.reg [⟨[], [(11, (.ext 1 (.lkp true 2 (.int .i64 0) (.sl 3) (.ld 1 false (.fa 0 (.sl 9))))))], [(.ext 0 (.lkp true 2 (.int .i64 0) (.sl 3) (.ld 1 false (.fa 0 (.sl 9)))))], none, [0, 2, 3, 8, 9, 48, 49, 50], 9, [], [], []⟩])
       (.seq
        (.reg [⟨[], [(63, (.un .not (.sl 11)))], [], none, [0, 2, 3, 8, 9, 48, 49, 50], 2, [], [], []⟩])
        (.cond (.sl 63)
         (.reg [⟨[], [], [], some (none, .mset 2 (.sl 3) (.ld 1 false (.fa 0 (.sl 9))) (.sl 8)), [0, 2, 3, 48, 49, 50], 5, [], [], []⟩])
         .skip)))))
    (.reg [⟨[], [(50, (.bin .add (.sl 50) (.int .i64 1)))], [], none, [0, 2, 3, 48, 49], 2, [], [], []⟩]))))
def f61_L2 : C :=
 (.seq
  (.reg [⟨[], [(75, (.bin .lss (.sl 74) (.sl 73)))], [], none, [0, 2, 3, 72, 73, 74], 1, [], [], []⟩])
  (.seq
   (.cond (.sl 75)
    .skip
    (.seq
     (.keep [])
     (.exit 4)))
   (.seq
    (.block 5
     (.seq
      (.reg [⟨[(13, .box (.agg (.cons (.int .i64 0) (.cons (.int .i64 0) (.cons (.str []) .nil)))))], [], [], some (none, .store 3 (.sl 13) (.ld 3 true (.ia 3 (.sl 72) (.sl 74)))), [0, 2, 3, 13, 72, 73, 74], 4, [], [], []⟩])
      (.seq
       (.reg [⟨[], [(14, (.ia 3 (.ld 1 false (.fa 2 (.ia 3 (.ld 1 false (.fa 1 (.fa 3 (.fa 0 (.sl 0))))) (.ld 1 false (.fa 0 (.sl 13)))))) (.ld 1 false (.fa 1 (.sl 13)))))], [], none, [0, 2, 3, 13, 72, 73, 74], 14, [[], [0], [0, 1], [1, 0, 2], [2, 0, 1, 3], [], [5], [5, 6, 3, 1, 0, 2, 4], [4, 2, 0, 1, 3, 6, 5, 7], [7, 5, 6, 3, 1, 0, 2, 4, 8], [], [10], [10, 11, 8, 4, 2, 0, 1, 3, 6, 5, 7, 9], [9, 7, 5, 6, 3, 1, 0, 2, 4, 8, 11, 10, 12]], [], []⟩])
       (.seq
        (.reg [⟨[], [(15, (.ext 0 (.lkp true 2 (.int .i64 0) (.sl 2) (.ld 1 false (.fa 2 (.sl 13)))))), (16, (.ext 1 (.lkp true 2 (.int .i64 0) (.sl 2) (.ld 1 false (.fa 2 (.sl 13))))))], [], none, [0, 2, 3, 13, 14, 72, 73, 74], 9, [], [], []⟩])
        (.seq
         (.seq
          (.reg [⟨[], [(102, (.bin .eql (.ld 1 false (.fa 0 (.fa 0 (.sl 14)))) (.int .i64 2)))], [], none, [0, 2, 3, 13, 14, 15, 16, 72, 73, 74], 5, [], [], []⟩])
          (.cond (.sl 102)
           (.reg [⟨[], [(15, (.ext 0 (.lkp true 2 (.int .i64 0) (.sl 3) (.ld 1 false (.fa 2 (.sl 13)))))), (16, (.ext 1 (.lkp true 2 (.int .i64 0) (.sl 3) (.ld 1 false (.fa 2 (.sl 13))))))], [], none, [0, 2, 3, 14, 72, 73, 74], 9, [], [], []⟩])
           .skip))
         (.seq
          (.seq
           (.reg [⟨[], [(111, (.un .not (.sl 16)))], [], none, [0, 2, 3, 14, 15, 72, 73, 74], 2, [], [], []⟩])
           (.cond (.sl 111)
            .stuck
            .skip))
          (.reg [⟨[], [], [], some (none, .store 1 (.fa 1 (.fa 0 (.sl 14))) (.sl 15)), [0, 2, 3, 72, 73, 74], 5, [], [], []⟩])))))))
    (.reg [⟨[], [(74, (.bin .add (.sl 74) (.int .i64 1)))], [], none, [0, 2, 3, 72, 73], 2, [], [], []⟩]))))
def f61 : Fun := ⟨
 (.seq
  (.reg [⟨[(17, .mkm), (18, .mkm)], [(2, (.sl 17)), (3, (.sl 18))], [], none, [0], 4, [], [], []⟩])
  (.seq
   (.seq
    (.reg [⟨[], [(23, (.ld 1 false (.fa 0 (.fa 3 (.fa 0 (.sl 0)))))), (24, (.len false (.ld 1 false (.fa 0 (.fa 3 (.fa 0 (.sl 0))))))), (25, (.int .i64 0))], [], none, [0, 2, 3], 7, [], [], []⟩])
    (.block 0
     (.seq (.keep [0, 2, 3, 23, 24, 25]) (.loop (.seq (.keep [0, 2, 3, 23, 24, 25]) f61_L0)))))
   (.seq
    (.seq
     (.reg [⟨[], [(48, (.ld 1 false (.fa 1 (.fa 3 (.fa 0 (.sl 0)))))), (49, (.len false (.ld 1 false (.fa 1 (.fa 3 (.fa 0 (.sl 0))))))), (50, (.int .i64 0))], [], none, [0, 2, 3], 7, [], [], []⟩])
     (.block 2
      (.seq (.keep [0, 2, 3, 48, 49, 50]) (.loop (.seq (.keep [0, 2, 3, 48, 49, 50]) f61_L1)))))
    (.seq
     (.reg [⟨[], [(72, (.ld 1 false (.fa 2 (.fa 0 (.sl 0))))), (73, (.len false (.ld 1 false (.fa 2 (.fa 0 (.sl 0)))))), (74, (.int .i64 0))], [], none, [0, 2, 3], 6, [], [], []⟩])
     (.block 4
      (.seq (.keep [0, 2, 3, 72, 73, 74]) (.loop (.seq (.keep [0, 2, 3, 72, 73, 74]) f61_L2)))))))),
 [], false⟩
/- 'sloth/code.put' -/
def f68_L0 : C :=
 (.seq
  (.seq
   (.reg [⟨[], [(6, (.bin .gtr (.sl 1) (.int .u64 127)))], [], none, [0, 1], 2, [], [], []⟩])
   (.cond (.sl 6)
    .skip
    (.seq
     (.tidy 1 [0, 1])
     (.exit 0))))
  (.seq
   (.block 1
    (.reg [⟨[(13, .lits 1 (.cons (.bin .or (.conv .u8 (.sl 1)) (.int .u8 128)) .nil))], [], [], some (some 14, .app 1 (.sl 0) (.sl 13)), [1], 6, [], [], []⟩, ⟨[], [(0, (.sl 14))], [], none, [1], 1, [], [], []⟩]))
   (.reg [⟨[], [(1, (.sh false (.sl 1) (.int .u64 7)))], [], none, [0], 3, [], [], []⟩])))
def f68 : Fun := ⟨
 (.seq
  (.reg [⟨[], [], [(.nilsl 1)], none, [0, 1], 1, [], [], []⟩])
  (.seq
   (.block 0
    (.seq (.tidy 1 [0, 1]) (.loop (.seq (.tidy 1 [0, 1]) f68_L0))))
   (.seq
    (.reg [⟨[(18, .lits 1 (.cons (.conv .u8 (.sl 1)) .nil))], [], [], some (some 19, .app 1 (.sl 0) (.sl 18)), [], 5, [], [], []⟩, ⟨[], [(4, (.sl 19))], [], none, [], 1, [], [], []⟩])
    (.seq
     (.tidy 1 [4])
     .ret)))),
 [(.sl 4)], false⟩
/- 'sloth/code.putName' -/
def f69 : Fun := ⟨
 (.seq
  (.reg [⟨[], [], [(.nilsl 1)], none, [0, 1], 1, [], [], []⟩])
  (.seq
   (.reg [⟨[], [], [], some (some 9, .calle 68 (.cons (.sl 0) (.cons (.conv .u64 (.len true (.sl 1))) .nil))), [1], 5, [], [], []⟩, ⟨[], [], [], some (some 11, .app 1 (.sl 9) (.s2r (.sl 1))), [], 2, [], [], []⟩, ⟨[], [(4, (.sl 11))], [], none, [], 1, [], [], []⟩])
   (.seq
    (.tidy 1 [4])
    .ret))),
 [(.sl 4)], false⟩
/- 'sloth/code.putInstr' -/
def f70 : Fun := ⟨
 (.seq
  (.reg [⟨[(3, .box (.sl 1))], [], [(.nilsl 1)], none, [0, 3], 2, [], [], []⟩])
  (.seq
   (.reg [⟨[(5, .box (.agg (.cons (.str []) (.cons (.int .i64 0) (.cons (.int .i64 0) .nil)))))], [(12, (.ext 1 (.call 79 (.cons (.ld 1 false (.fa 0 (.sl 3))) .nil))))], [], some (none, .store 3 (.sl 5) (.ext 0 (.call 79 (.cons (.ld 1 false (.fa 0 (.sl 3))) .nil)))), [0, 3, 5], 8, [], [], []⟩, ⟨[], [], [(.sl 12)], none, [0, 3, 5], 1, [], [], []⟩])
   (.seq
    (.reg [⟨[], [], [], some (some 17, .calle 68 (.cons (.sl 0) (.cons (.conv .u64 (.ld 1 false (.fa 0 (.sl 3)))) .nil))), [3, 5], 5, [], [], []⟩, ⟨[], [(0, (.sl 17))], [], none, [3, 5], 1, [], [], []⟩])
    (.seq
     (.seq
      (.reg [⟨[], [(20, (.bin .eql (.ld 1 false (.fa 1 (.sl 5))) (.int .i64 3)))], [], none, [0, 3, 5], 3, [], [], []⟩])
      (.cond (.sl 20)
       (.reg [⟨[], [], [], some (some 25, .calle 68 (.cons (.sl 0) (.cons (.call 100 (.cons (.ld 1 false (.fa 1 (.sl 3))) .nil)) .nil))), [3, 5], 5, [], [], []⟩, ⟨[], [(0, (.sl 25))], [], none, [3, 5], 1, [], [], []⟩])
       (.seq
        (.reg [⟨[], [(28, (.bin .neq (.ld 1 false (.fa 1 (.sl 5))) (.int .i64 0)))], [], none, [0, 3, 5], 3, [], [], []⟩])
        (.cond (.sl 28)
         (.reg [⟨[], [], [], some (some 33, .calle 68 (.cons (.sl 0) (.cons (.conv .u64 (.ld 1 false (.fa 1 (.sl 3)))) .nil))), [3, 5], 5, [], [], []⟩, ⟨[], [(0, (.sl 33))], [], none, [3, 5], 1, [], [], []⟩])
         .skip))))
     (.seq
      (.seq
       (.reg [⟨[], [(36, (.bin .neq (.ld 1 false (.fa 2 (.sl 5))) (.int .i64 0)))], [], none, [0, 3], 3, [], [], []⟩])
       (.cond (.sl 36)
        (.reg [⟨[], [], [], some (some 41, .calle 68 (.cons (.sl 0) (.cons (.conv .u64 (.ld 1 false (.fa 2 (.sl 3)))) .nil))), [], 5, [], [], []⟩, ⟨[], [(0, (.sl 41))], [], none, [], 1, [], [], []⟩])
        .skip))
      (.seq
       (.reg [⟨[], [(4, (.sl 0))], [], none, [], 2, [], [], []⟩])
       (.seq
        (.tidy 1 [4])
        .ret))))))),
 [(.sl 4)], false⟩
/- 'sloth/code.four' -/
def f71 : Fun := ⟨
 (.seq
  (.reg [⟨[], [], [(.nilsl 1)], none, [0], 1, [], [], []⟩])
  (.seq
   (.reg [⟨[(14, .lits 1 (.cons (.conv .u8 (.sl 0)) (.cons (.conv .u8 (.sh false (.sl 0) (.int .u64 8))) (.cons (.conv .u8 (.sh false (.sl 0) (.int .u64 16))) (.cons (.conv .u8 (.sh false (.sl 0) (.int .u64 24))) .nil)))))], [(2, (.sl 14))], [], none, [], 13, [], [], []⟩])
   (.seq
    (.tidy 0 [2])
    .ret))),
 [(.sl 2)], false⟩
/- 'sloth/code.sum' -/
def f72_L0 : C :=
 (.seq
  (.reg [⟨[], [(18, (.bin .lss (.sl 17) (.int .i64 8)))], [], none, [3, 7, 8, 9, 17], 1, [], [], []⟩])
  (.seq
   (.cond (.sl 18)
    .skip
    (.seq
     (.tidy 0 [3, 7, 8, 9])
     (.exit 2)))
   (.seq
    (.block 3
     (.seq
      (.reg [⟨[], [(6, (.bin .and (.sl 3) (.int .u32 1)))], [], none, [3, 7, 8, 9, 17], 3, [], [], []⟩])
      (.seq
       (.reg [⟨[], [(3, (.sh false (.sl 3) (.int .u64 1)))], [], none, [6, 7, 8, 9, 17], 3, [], [], []⟩])
       (.seq
        (.reg [⟨[], [(24, (.bin .eql (.sl 6) (.int .u32 1)))], [], none, [3, 7, 8, 9, 17], 2, [], [], []⟩])
        (.cond (.sl 24)
         (.reg [⟨[], [(3, (.bin .xor (.sl 3) (.int .u32 3988292384)))], [], none, [7, 8, 9, 17], 3, [], [], []⟩])
         .skip)))))
    (.reg [⟨[], [(17, (.bin .add (.sl 17) (.int .i64 1)))], [], none, [3, 7, 8, 9], 2, [], [], []⟩]))))
def f72_L1 : C :=
 (.seq
  (.reg [⟨[], [(10, (.bin .lss (.sl 9) (.sl 8)))], [], none, [3, 7, 8, 9], 1, [], [], []⟩])
  (.seq
   (.cond (.sl 10)
    .skip
    (.seq
     (.tidy 0 [3])
     (.exit 0)))
   (.seq
    (.block 1
     (.seq
      (.reg [⟨[], [(5, (.ld 1 false (.ia 1 (.sl 7) (.sl 9))))], [], none, [3, 7, 8, 9], 3, [], [], []⟩])
      (.seq
       (.reg [⟨[], [(3, (.bin .xor (.sl 3) (.conv .u32 (.sl 5))))], [], none, [7, 8, 9], 5, [], [], []⟩])
       (.seq
        (.reg [⟨[], [(17, (.int .i64 0))], [], none, [3, 7, 8, 9], 1, [], [], []⟩])
        (.block 2
         (.seq (.tidy 0 [3, 7, 8, 9, 17]) (.loop (.seq (.tidy 0 [3, 7, 8, 9, 17]) f72_L0))))))))
    (.reg [⟨[], [(9, (.bin .add (.sl 9) (.int .i64 1)))], [], none, [3, 7, 8], 2, [], [], []⟩]))))
def f72 : Fun := ⟨
 (.seq
  (.reg [⟨[], [], [(.int .u32 0)], none, [0], 1, [], [], []⟩])
  (.seq
   (.reg [⟨[], [(3, (.int .u32 4294967295))], [], none, [0], 1, [], [], []⟩])
   (.seq
    (.seq
     (.reg [⟨[], [(7, (.sl 0)), (8, (.len false (.sl 0))), (9, (.int .i64 0))], [], none, [3], 3, [], [], []⟩])
     (.block 0
      (.seq (.tidy 0 [3, 7, 8, 9]) (.loop (.seq (.tidy 0 [3, 7, 8, 9]) f72_L1)))))
    (.seq
     (.reg [⟨[], [(2, (.un .xor (.sl 3)))], [], none, [], 3, [], [], []⟩])
     (.seq
      (.tidy 0 [2])
      .ret))))),
 [(.sl 2)], false⟩
/- '(*sloth/code.loader).table' -/
def f77_L0 : C :=
 (.seq
  (.reg [⟨[], [(8, (.bin .lss (.sl 7) (.sl 6)))], [], none, [0, 2, 3, 6, 7], 1, [], [], []⟩])
  (.seq
   (.cond (.sl 8)
    .skip
    (.seq
     (.tidy 1 [0, 2, 3])
     (.exit 0)))
   (.seq
    (.block 1
     (.regl [⟨[], [], [(.ld 1 false (.fa 0 (.sl 3)))], some (some 12, .calle 102 (.cons (.sl 0) .nil)), [0, 2, 3, 6, 7], 5, [[], [0], [], [2], [], [2, 3, 4], [4, 5, 2, 3], [3, 2, 5, 4, 6], [6, 4, 5, 2, 3, 7, 0, 1], [8, 7, 6, 5, 4, 3, 2, 1, 0], [0, 1, 2, 3, 4, 5, 6, 7, 8, 9]], [], [(.fa 0 (.sl 3)), (.ld 1 false (.fa 0 (.sl 3))), (.sl 0)]⟩, ⟨[], [], [(.ld 1 false (.fa 0 (.sl 3)))], some (some 14, .calle 103 (.cons (.sl 0) .nil)), [0, 2, 3, 6, 7, 12], 1, [], [], [(.fa 0 (.sl 3)), (.ld 1 false (.fa 0 (.sl 3)))]⟩, ⟨[(16, .lits 2 (.cons (.set 1 1 (.sl 14) (.set 0 1 (.sl 12) (.agg (.cons (.str []) (.cons (.int .i64 0) .nil))))) .nil))], [], [], some (some 17, .app 2 (.ld 1 false (.fa 0 (.sl 3))) (.sl 16)), [0, 2, 3, 6, 7], 3, [], [], []⟩, ⟨[], [], [], some (none, .store 1 (.fa 0 (.sl 3)) (.sl 17)), [0, 2, 3, 6, 7], 2, [], [], []⟩]))
    (.reg [⟨[], [(7, (.bin .add (.sl 7) (.int .i64 1)))], [], none, [0, 2, 3, 6], 2, [], [], []⟩]))))
def f77_L1 : C :=
 (.seq
  (.reg [⟨[], [(32, (.bin .lss (.sl 31) (.sl 30)))], [], none, [0, 2, 3, 4, 21, 22, 30, 31], 1, [], [], []⟩])
  (.seq
   (.cond (.sl 32)
    .skip
    (.seq
     (.tidy 1 [0, 2, 3, 4, 21, 22])
     (.exit 4)))
   (.seq
    (.block 5
     (.regl [⟨[], [], [(.ld 1 false (.fa 2 (.sl 4)))], some (some 36, .calle 104 (.cons (.sl 0) .nil)), [0, 2, 3, 4, 21, 22, 30, 31], 4, [[], [0], [], [2], [2, 3], [3, 2, 4, 0, 1], [5, 4, 3, 2, 1, 0], [0, 1, 2, 3, 4, 5, 6]], [], [(.fa 2 (.sl 4)), (.ld 1 false (.fa 2 (.sl 4)))]⟩, ⟨[(37, .lits 3 (.cons (.sl 36) .nil))], [], [], some (some 38, .app 3 (.ld 1 false (.fa 2 (.sl 4))) (.sl 37)), [0, 2, 3, 4, 21, 22, 30, 31], 2, [], [], []⟩, ⟨[], [], [], some (none, .store 1 (.fa 2 (.sl 4)) (.sl 38)), [0, 2, 3, 4, 21, 22, 30, 31], 2, [], [], []⟩]))
    (.reg [⟨[], [(31, (.bin .add (.sl 31) (.int .i64 1)))], [], none, [0, 2, 3, 4, 21, 22, 30], 2, [], [], []⟩]))))
def f77_L2 : C :=
 (.seq
  (.reg [⟨[], [(23, (.bin .lss (.sl 22) (.sl 21)))], [], none, [0, 2, 3, 21, 22], 1, [], [], []⟩])
  (.seq
   (.cond (.sl 23)
    .skip
    (.seq
     (.tidy 1 [2, 3])
     (.exit 2)))
   (.seq
    (.block 3
     (.seq
      (.reg [⟨[], [], [], some (some 25, .calle 102 (.cons (.sl 0) .nil)), [0, 2, 3, 21, 22], 2, [], [], []⟩, ⟨[], [], [], some (some 27, .calle 103 (.cons (.sl 0) .nil)), [0, 2, 3, 21, 22, 25], 2, [], [], []⟩, ⟨[(4, .box (.agg (.cons (.str []) (.cons (.int .i64 0) (.cons (.nilsl 3) .nil)))))], [], [], some (none, .store 3 (.sl 4) (.set 1 1 (.sl 27) (.set 0 1 (.sl 25) (.agg (.cons (.str []) (.cons (.int .i64 0) (.cons (.nilsl 3) .nil))))))), [0, 2, 3, 4, 21, 22], 3, [], [], []⟩])
      (.seq
       (.seq
        (.reg [⟨[], [], [], some (some 30, .calle 101 (.cons (.sl 0) .nil)), [0, 2, 3, 4, 21, 22], 2, [], [], []⟩, ⟨[], [(31, (.int .i64 0))], [], none, [0, 2, 3, 4, 21, 22, 30], 1, [], [], []⟩])
        (.block 4
         (.seq (.tidy 1 [0, 2, 3, 4, 21, 22, 30, 31]) (.loop (.seq (.tidy 1 [0, 2, 3, 4, 21, 22, 30, 31]) f77_L1)))))
       (.reg [⟨[(44, .lits 3 (.cons (.ld 3 true (.sl 4)) .nil))], [], [], some (some 45, .app 3 (.ld 1 false (.fa 1 (.sl 3))) (.sl 44)), [0, 2, 3, 21, 22], 5, [], [], []⟩, ⟨[], [], [], some (none, .store 1 (.fa 1 (.sl 3)) (.sl 45)), [0, 2, 3, 21, 22], 2, [], [], []⟩]))))
    (.reg [⟨[], [(22, (.bin .add (.sl 22) (.int .i64 1)))], [], none, [0, 2, 3, 21], 2, [], [], []⟩]))))
def f77 : Fun := ⟨
 (.seq
  (.reg [⟨[(2, .box (.agg (.cons (.nilsl 2) (.cons (.nilsl 3) .nil))))], [], [], none, [0, 2], 1, [], [], []⟩])
  (.seq
   (.reg [⟨[(3, .box (.agg (.cons (.nilsl 2) (.cons (.nilsl 3) .nil))))], [], [], none, [0, 2, 3], 1, [], [], []⟩])
   (.seq
    (.seq
     (.reg [⟨[], [], [], some (some 6, .calle 101 (.cons (.sl 0) .nil)), [0, 2, 3], 2, [], [], []⟩, ⟨[], [(7, (.int .i64 0))], [], none, [0, 2, 3, 6], 1, [], [], []⟩])
     (.block 0
      (.seq (.tidy 1 [0, 2, 3, 6, 7]) (.loop (.seq (.tidy 1 [0, 2, 3, 6, 7]) f77_L0)))))
    (.seq
     (.seq
      (.reg [⟨[], [], [], some (some 21, .calle 101 (.cons (.sl 0) .nil)), [0, 2, 3], 2, [], [], []⟩, ⟨[], [(22, (.int .i64 0))], [], none, [0, 2, 3, 21], 1, [], [], []⟩])
      (.block 2
       (.seq (.tidy 1 [0, 2, 3, 21, 22]) (.loop (.seq (.tidy 1 [0, 2, 3, 21, 22]) f77_L2)))))
     (.seq
      (.reg [⟨[], [], [], some (none, .store 2 (.sl 2) (.ld 2 true (.sl 3))), [2], 2, [], [], []⟩])
      (.seq
       (.tidy 1 [2])
       .ret)))))),
 [(.ld 2 true (.sl 2))], false⟩
/- 'strings.ReplaceAll' -/
def f88 : Fun := ⟨
 (.seq
  (.reg [⟨[], [], [(.str [])], none, [0, 1, 2], 1, [], [], []⟩])
  (.seq
   (.reg [⟨[], [(6, (.call 106 (.cons (.sl 0) (.cons (.sl 1) (.cons (.sl 2) (.cons (.int .i64 (-1)) .nil))))))], [], none, [], 5, [], [], []⟩])
   (.seq
    (.tidy 0 [6])
    .ret))),
 [(.sl 6)], false⟩
/- 'sloth/code.piece' -/
def f90 : Fun := ⟨
 (.seq
  (.reg [⟨[(3, .box (.sl 0))], [], [(.str [])], none, [1, 2, 3], 2, [], [], []⟩])
  (.seq
   (.seq
    (.reg [⟨[], [(7, (.sl 1))], [], none, [2, 3], 1, [], [], []⟩])
    (.block 0
     (.seq
      (.reg [⟨[], [(8, (.bin .eql (.sl 7) (.int .i64 4)))], [], none, [2, 3, 7], 2, [], [], []⟩])
      (.cond (.sl 8)
       (.seq
        (.reg [⟨[], [(6, (.call 48 (.cons (.ld 1 false (.fa 0 (.ia 3 (.ld 1 false (.fa 1 (.sl 3))) (.sl 2)))) .nil)))], [], none, [], 8, [], [], []⟩])
        (.seq
         (.tidy 0 [6])
         .ret))
       (.seq
        (.reg [⟨[], [(17, (.bin .eql (.sl 7) (.int .i64 5)))], [], none, [2, 3, 7], 2, [], [], []⟩])
        (.cond (.sl 17)
         (.seq
          (.reg [⟨[], [(6, (.call 48 (.cons (.ld 1 false (.fa 0 (.ia 2 (.ld 1 false (.fa 0 (.sl 3))) (.sl 2)))) .nil)))], [], none, [], 8, [], [], []⟩])
          (.seq
           (.tidy 0 [6])
           .ret))
         (.seq
          (.reg [⟨[], [(26, (.bin .eql (.sl 7) (.int .i64 6)))], [], none, [2], 2, [], [], []⟩])
          (.cond (.sl 26)
           (.seq
            (.reg [⟨[], [(6, (.ld 1 false (.ia 1 (.call 108 .nil) (.sl 2))))], [], none, [], 5, [], [], []⟩])
            (.seq
             (.tidy 0 [6])
             .ret))
           .skip))))))))
   (.seq
    (.reg [⟨[], [(6, (.call 49 (.cons (.sl 2) .nil)))], [], none, [], 3, [], [], []⟩])
    (.seq
     (.tidy 0 [6])
     .ret)))),
 [(.sl 6)], false⟩
/- '(*sloth/code.reader).word' -/
def f96_L0 : C :=
 (.seq
  (.seq
   (.reg [⟨[], [(55, (.and (.and (.and (.bin .lss (.ld 1 false (.fa 1 (.fa 0 (.sl 0)))) (.len true (.ld 1 false (.fa 0 (.fa 0 (.sl 0)))))) (.bin .geq (.ix (.ld 1 false (.fa 0 (.fa 0 (.sl 0)))) (.ld 1 false (.fa 1 (.fa 0 (.sl 0))))) (.int .u8 33))) (.bin .leq (.ix (.ld 1 false (.fa 0 (.fa 0 (.sl 0)))) (.ld 1 false (.fa 1 (.fa 0 (.sl 0))))) (.int .u8 126))) (.bin .neq (.ix (.ld 1 false (.fa 0 (.fa 0 (.sl 0)))) (.ld 1 false (.fa 1 (.fa 0 (.sl 0))))) (.int .u8 34))))], [], none, [0, 3], 46, [[], [0], [0, 1], [1, 0, 2], [], [4], [4, 5], [5, 4, 6], [6, 4, 5, 7], [7, 5, 4, 6, 8, 2, 0, 1, 3], [3, 1, 0, 2, 8, 6, 4, 5, 7, 9], [9, 7, 5, 4, 6, 8, 2, 0, 1, 3, 10], [10, 3, 1, 0, 2, 8, 6, 4, 5, 7, 9, 11], [11, 9, 7, 5, 4, 6, 8, 2, 0, 1, 3, 10, 12], [12, 10, 3, 1, 0, 2, 8, 6, 4, 5, 7, 9, 11, 13], [9, 7, 5, 4, 6, 8, 2, 0, 1, 3, 10], [10, 3, 1, 0, 2, 8, 6, 4, 5, 7, 9, 15], [15, 9, 7, 5, 4, 6, 8, 2, 0, 1, 3, 10, 16], [16, 10, 3, 1, 0, 2, 8, 6, 4, 5, 7, 9, 15, 17], [17, 15, 16, 18, 13, 11, 9, 7, 5, 4, 6, 8, 2, 0, 1, 3, 10, 12, 14], [14, 12, 10, 3, 1, 0, 2, 8, 6, 4, 5, 7, 9, 11, 13, 18, 16, 15, 17, 19], [19, 17, 15, 16, 18, 13, 11, 12, 14, 20, 9, 7, 5, 4, 6, 8, 2, 0, 1, 3, 10], [10, 3, 1, 0, 2, 8, 6, 4, 5, 7, 9, 20, 14, 12, 11, 13, 18, 16, 15, 17, 19, 21], [21, 19, 17, 15, 16, 18, 13, 11, 12, 14, 20, 9, 7, 5, 4, 6, 8, 2, 0, 1, 3, 10, 22], [22, 10, 3, 1, 0, 2, 8, 6, 4, 5, 7, 9, 20, 14, 12, 11, 13, 18, 16, 15, 17, 19, 21, 23], [23, 21, 19, 17, 15, 16, 18, 13, 11, 12, 14, 20, 9, 7, 5, 4, 6, 8, 2, 0, 1, 3, 10, 22, 24], [24, 22, 10, 3, 1, 0, 2, 8, 6, 4, 5, 7, 9, 20, 14, 12, 11, 13, 18, 16, 15, 17, 19, 21, 23, 25], [21, 19, 17, 15, 16, 18, 13, 11, 12, 14, 20, 9, 7, 5, 4, 6, 8, 2, 0, 1, 3, 10, 22], [22, 10, 3, 1, 0, 2, 8, 6, 4, 5, 7, 9, 20, 14, 12, 11, 13, 18, 16, 15, 17, 19, 21, 27], [27, 21, 19, 17, 15, 16, 18, 13, 11, 12, 14, 20, 9, 7, 5, 4, 6, 8, 2, 0, 1, 3, 10, 22, 28], [28, 22, 10, 3, 1, 0, 2, 8, 6, 4, 5, 7, 9, 20, 14, 12, 11, 13, 18, 16, 15, 17, 19, 21, 27, 29], [29, 27, 28, 30, 25, 23, 21, 19, 17, 15, 16, 18, 13, 11, 12, 14, 20, 9, 7, 5, 4, 6, 8, 2, 0, 1, 3, 10, 22, 24, 26], [26, 24, 22, 10, 3, 1, 0, 2, 8, 6, 4, 5, 7, 9, 20, 14, 12, 11, 13, 18, 16, 15, 17, 19, 21, 23, 25, 30, 28, 27, 29, 31], [31, 29, 27, 28, 30, 25, 23, 24, 26, 32, 21, 19, 17, 15, 16, 18, 13, 11, 12, 14, 20, 9, 7, 5, 4, 6, 8, 2, 0, 1, 3, 10, 22], [22, 10, 3, 1, 0, 2, 8, 6, 4, 5, 7, 9, 20, 14, 12, 11, 13, 18, 16, 15, 17, 19, 21, 32, 26, 24, 23, 25, 30, 28, 27, 29, 31, 33], [33, 31, 29, 27, 28, 30, 25, 23, 24, 26, 32, 21, 19, 17, 15, 16, 18, 13, 11, 12, 14, 20, 9, 7, 5, 4, 6, 8, 2, 0, 1, 3, 10, 22, 34], [34, 22, 10, 3, 1, 0, 2, 8, 6, 4, 5, 7, 9, 20, 14, 12, 11, 13, 18, 16, 15, 17, 19, 21, 32, 26, 24, 23, 25, 30, 28, 27, 29, 31, 33, 35], [35, 33, 31, 29, 27, 28, 30, 25, 23, 24, 26, 32, 21, 19, 17, 15, 16, 18, 13, 11, 12, 14, 20, 9, 7, 5, 4, 6, 8, 2, 0, 1, 3, 10, 22, 34, 36], [36, 34, 22, 10, 3, 1, 0, 2, 8, 6, 4, 5, 7, 9, 20, 14, 12, 11, 13, 18, 16, 15, 17, 19, 21, 32, 26, 24, 23, 25, 30, 28, 27, 29, 31, 33, 35, 37], [33, 31, 29, 27, 28, 30, 25, 23, 24, 26, 32, 21, 19, 17, 15, 16, 18, 13, 11, 12, 14, 20, 9, 7, 5, 4, 6, 8, 2, 0, 1, 3, 10, 22, 34], [34, 22, 10, 3, 1, 0, 2, 8, 6, 4, 5, 7, 9, 20, 14, 12, 11, 13, 18, 16, 15, 17, 19, 21, 32, 26, 24, 23, 25, 30, 28, 27, 29, 31, 33, 39], [39, 33, 31, 29, 27, 28, 30, 25, 23, 24, 26, 32, 21, 19, 17, 15, 16, 18, 13, 11, 12, 14, 20, 9, 7, 5, 4, 6, 8, 2, 0, 1, 3, 10, 22, 34, 40], [40, 34, 22, 10, 3, 1, 0, 2, 8, 6, 4, 5, 7, 9, 20, 14, 12, 11, 13, 18, 16, 15, 17, 19, 21, 32, 26, 24, 23, 25, 30, 28, 27, 29, 31, 33, 39, 41], [41, 39, 40, 42, 37, 35, 33, 31, 29, 27, 28, 30, 25, 23, 24, 26, 32, 21, 19, 17, 15, 16, 18, 13, 11, 12, 14, 20, 9, 7, 5, 4, 6, 8, 2, 0, 1, 3, 10, 22, 34, 36, 38], [38, 36, 34, 22, 10, 3, 1, 0, 2, 8, 6, 4, 5, 7, 9, 20, 14, 12, 11, 13, 18, 16, 15, 17, 19, 21, 32, 26, 24, 23, 25, 30, 28, 27, 29, 31, 33, 35, 37, 42, 40, 39, 41, 43], [43, 41, 39, 40, 42, 37, 35, 36, 38, 44, 33, 31, 29, 27, 28, 30, 25, 23, 24, 26, 32, 21, 19, 17, 15, 16, 18, 13, 11, 12, 14, 20, 9, 7, 5, 4, 6, 8, 2, 0, 1, 3, 10, 22, 34]], [], []⟩])
   (.cond (.sl 55)
    .skip
    (.seq
     (.keep [0, 3])
     (.exit 0))))
  (.block 1
   (.reg [⟨[], [], [], some (none, .store 1 (.fa 1 (.fa 0 (.sl 0))) (.bin .add (.ld 1 false (.fa 1 (.fa 0 (.sl 0)))) (.int .i64 1))), [0, 3], 8, [], [], []⟩])))
def f96 : Fun := ⟨
 (.seq
  (.reg [⟨[], [], [(.str [])], none, [0], 1, [], [], []⟩])
  (.seq
   (.reg [⟨[], [], [], some (some 5, .calle 109 (.cons (.sl 0) .nil)), [0], 2, [], [], []⟩])
   (.seq
    (.reg [⟨[], [(3, (.ld 1 false (.fa 1 (.fa 0 (.sl 0)))))], [], none, [0], 5, [], [], []⟩])
    (.seq
     (.block 0
      (.seq (.keep [0, 3]) (.loop (.seq (.keep [0, 3]) f96_L0))))
     (.seq
      (.seq
       (.reg [⟨[], [(80, (.and (.bin .eql (.ld 1 false (.fa 1 (.fa 0 (.sl 0)))) (.sl 3)) (.bin .lss (.ld 1 false (.fa 1 (.fa 0 (.sl 0)))) (.len true (.ld 1 false (.fa 0 (.fa 0 (.sl 0))))))))], [], none, [0, 3], 18, [[], [0], [0, 1], [1, 0, 2], [], [4, 2, 0, 1, 3], [3, 1, 0, 2, 4, 5], [5, 4, 2, 0, 1, 3, 6], [6, 3, 1, 0, 2, 4, 5, 7], [7, 5, 4, 2, 0, 1, 3, 6, 8], [8, 6, 3, 1, 0, 2, 4, 5, 7, 9], [5, 4, 2, 0, 1, 3, 6], [6, 3, 1, 0, 2, 4, 5, 11], [11, 5, 4, 2, 0, 1, 3, 6, 12], [12, 6, 3, 1, 0, 2, 4, 5, 11, 13], [13, 11, 5, 4, 2, 0, 1, 3, 6, 12, 14], [14, 12, 11, 13, 15, 9, 7, 5, 4, 2, 0, 1, 3, 6, 8, 10], [10, 8, 7, 9, 15, 13, 11, 12, 14, 16, 5, 4, 2, 0, 1, 3, 6]], [], []⟩])
       (.cond (.sl 80)
        .stuck
        .skip))
      (.seq
       (.reg [⟨[], [(2, (.cut true true true false 0 (.ld 1 false (.fa 0 (.fa 0 (.sl 0)))) (.sl 3) (.ld 1 false (.fa 1 (.fa 0 (.sl 0)))) .nil))], [], none, [], 11, [[], [0], [0, 1], [1, 0, 2], [], [], [5], [5, 6], [6, 5, 7], [7, 5, 6, 8, 4, 2, 0, 1, 3], [3, 1, 0, 2, 4, 8, 6, 5, 7, 9]], [], []⟩])
       (.seq
        (.keep [2])
        .ret))))))),
 [(.sl 2)], false⟩
/- '(*sloth/code.reader).name' -/
def f97_L0 : C :=
 (.seq
  (.seq
   (.reg [⟨[], [(58, (.and (.bin .lss (.ld 1 false (.fa 1 (.fa 0 (.sl 0)))) (.len true (.ld 1 false (.fa 0 (.fa 0 (.sl 0)))))) (.bin .neq (.ix (.ld 1 false (.fa 0 (.fa 0 (.sl 0)))) (.ld 1 false (.fa 1 (.fa 0 (.sl 0))))) (.int .u8 34))))], [], none, [0, 3], 22, [[], [0], [0, 1], [1, 0, 2], [], [4], [4, 5], [5, 4, 6], [6, 4, 5, 7], [7, 5, 4, 6, 8, 2, 0, 1, 3], [3, 1, 0, 2, 8, 6, 4, 5, 7, 9], [9, 7, 5, 4, 6, 8, 2, 0, 1, 3, 10], [10, 3, 1, 0, 2, 8, 6, 4, 5, 7, 9, 11], [11, 9, 7, 5, 4, 6, 8, 2, 0, 1, 3, 10, 12], [12, 10, 3, 1, 0, 2, 8, 6, 4, 5, 7, 9, 11, 13], [9, 7, 5, 4, 6, 8, 2, 0, 1, 3, 10], [10, 3, 1, 0, 2, 8, 6, 4, 5, 7, 9, 15], [15, 9, 7, 5, 4, 6, 8, 2, 0, 1, 3, 10, 16], [16, 10, 3, 1, 0, 2, 8, 6, 4, 5, 7, 9, 15, 17], [17, 15, 16, 18, 13, 11, 9, 7, 5, 4, 6, 8, 2, 0, 1, 3, 10, 12, 14], [14, 12, 10, 3, 1, 0, 2, 8, 6, 4, 5, 7, 9, 11, 13, 18, 16, 15, 17, 19], [19, 17, 15, 16, 18, 13, 11, 12, 14, 20, 9, 7, 5, 4, 6, 8, 2, 0, 1, 3, 10]], [], []⟩])
   (.cond (.sl 58)
    .skip
    (.seq
     (.keep [0, 3])
     (.exit 0))))
  (.seq
   (.block 1
    (.seq
     (.seq
      (.reg [⟨[], [(75, (.bin .eql (.ix (.ld 1 false (.fa 0 (.fa 0 (.sl 0)))) (.ld 1 false (.fa 1 (.fa 0 (.sl 0))))) (.int .u8 92)))], [], none, [0, 3], 10, [[], [0], [0, 1], [1, 0, 2], [], [4], [4, 5], [5, 4, 6], [6, 4, 5, 7, 2, 0, 1, 3], [3, 1, 0, 2, 7, 5, 4, 6, 8]], [], []⟩])
      (.cond (.sl 75)
       (.seq
        (.reg [⟨[], [], [], some (none, .store 1 (.fa 1 (.fa 0 (.sl 0))) (.bin .add (.ld 1 false (.fa 1 (.fa 0 (.sl 0)))) (.int .i64 1))), [0, 3], 8, [], [], []⟩])
        (.seq
         (.reg [⟨[], [(116, (.or (.bin .eql (.ld 1 false (.fa 1 (.fa 0 (.sl 0)))) (.len true (.ld 1 false (.fa 0 (.fa 0 (.sl 0)))))) (.and (.bin .neq (.ix (.ld 1 false (.fa 0 (.fa 0 (.sl 0)))) (.ld 1 false (.fa 1 (.fa 0 (.sl 0))))) (.int .u8 34)) (.bin .neq (.ix (.ld 1 false (.fa 0 (.fa 0 (.sl 0)))) (.ld 1 false (.fa 1 (.fa 0 (.sl 0))))) (.int .u8 92)))))], [], none, [0, 3], 34, [[], [0], [0, 1], [1, 0, 2], [], [4], [4, 5], [5, 4, 6], [6, 4, 5, 7], [7, 5, 4, 6, 8, 2, 0, 1, 3], [3, 1, 0, 2, 8, 6, 4, 5, 7, 9], [9, 7, 5, 4, 6, 8, 2, 0, 1, 3, 10], [10, 3, 1, 0, 2, 8, 6, 4, 5, 7, 9, 11], [11, 9, 7, 5, 4, 6, 8, 2, 0, 1, 3, 10, 12], [12, 10, 3, 1, 0, 2, 8, 6, 4, 5, 7, 9, 11, 13], [9, 7, 5, 4, 6, 8, 2, 0, 1, 3, 10], [10, 3, 1, 0, 2, 8, 6, 4, 5, 7, 9, 15], [15, 9, 7, 5, 4, 6, 8, 2, 0, 1, 3, 10, 16], [16, 10, 3, 1, 0, 2, 8, 6, 4, 5, 7, 9, 15, 17], [17, 15, 16, 18, 13, 11, 9, 7, 5, 4, 6, 8, 2, 0, 1, 3, 10, 12, 14], [14, 12, 10, 3, 1, 0, 2, 8, 6, 4, 5, 7, 9, 11, 13, 18, 16, 15, 17, 19], [19, 17, 15, 16, 18, 13, 11, 9, 7, 5, 4, 6, 8, 2, 0, 1, 3, 10, 12, 14, 20], [20, 14, 12, 10, 3, 1, 0, 2, 8, 6, 4, 5, 7, 9, 11, 13, 18, 16, 15, 17, 19, 21], [21, 19, 17, 15, 16, 18, 13, 11, 9, 7, 5, 4, 6, 8, 2, 0, 1, 3, 10, 12, 14, 20, 22], [22, 20, 14, 12, 10, 3, 1, 0, 2, 8, 6, 4, 5, 7, 9, 11, 13, 18, 16, 15, 17, 19, 21, 23], [23, 21, 19, 17, 15, 16, 18, 13, 11, 9, 7, 5, 4, 6, 8, 2, 0, 1, 3, 10, 12, 14, 20, 22, 24], [20, 14, 12, 10, 3, 1, 0, 2, 8, 6, 4, 5, 7, 9, 11, 13, 18, 16, 15, 17, 19, 21], [21, 19, 17, 15, 16, 18, 13, 11, 9, 7, 5, 4, 6, 8, 2, 0, 1, 3, 10, 12, 14, 20, 26], [26, 20, 14, 12, 10, 3, 1, 0, 2, 8, 6, 4, 5, 7, 9, 11, 13, 18, 16, 15, 17, 19, 21, 27], [27, 21, 19, 17, 15, 16, 18, 13, 11, 9, 7, 5, 4, 6, 8, 2, 0, 1, 3, 10, 12, 14, 20, 26, 28], [28, 26, 27, 29, 24, 22, 20, 14, 12, 10, 3, 1, 0, 2, 8, 6, 4, 5, 7, 9, 11, 13, 18, 16, 15, 17, 19, 21, 23, 25], [25, 23, 21, 19, 17, 15, 16, 18, 13, 11, 9, 7, 5, 4, 6, 8, 2, 0, 1, 3, 10, 12, 14, 20, 22, 24, 29, 27, 26, 28, 30], [30, 28, 26, 27, 29, 24, 22, 23, 25, 31, 20, 14, 12, 10, 3, 1, 0, 2, 8, 6, 4, 5, 7, 9, 11, 13, 18, 16, 15, 17, 19, 21], [21, 19, 17, 15, 16, 18, 13, 11, 12, 14, 20, 31, 25, 23, 22, 24, 29, 27, 26, 28, 30, 32, 9, 7, 5, 4, 6, 8, 2, 0, 1, 3, 10]], [], []⟩])
         (.cond (.sl 116)
          .stuck
          .skip)))
       .skip))
     (.reg [⟨[], [], [], some (some 128, .calle 110 (.cons (.sl 3) (.cons (.ix (.ld 1 false (.fa 0 (.fa 0 (.sl 0)))) (.ld 1 false (.fa 1 (.fa 0 (.sl 0))))) .nil))), [0, 3], 10, [[], [0], [0, 1], [1, 0, 2], [], [4], [4, 5], [5, 4, 6], [6, 4, 5, 7, 2, 0, 1, 3], [3, 1, 0, 2, 7, 5, 4, 6, 8]], [], []⟩])))
   (.reg [⟨[], [], [], some (none, .store 1 (.fa 1 (.fa 0 (.sl 0))) (.bin .add (.ld 1 false (.fa 1 (.fa 0 (.sl 0)))) (.int .i64 1))), [0, 3], 8, [], [], []⟩])))
def f97 : Fun := ⟨
 (.seq
  (.reg [⟨[], [], [(.str [])], none, [0], 1, [], [], []⟩])
  (.seq
   (.reg [⟨[], [], [], some (some 5, .calle 109 (.cons (.sl 0) .nil)), [0], 2, [], [], []⟩])
   (.seq
    (.reg [⟨[(3, .bld 78 5)], [], [], none, [0, 3], 1, [], [], []⟩])
    (.seq
     (.seq
      (.reg [⟨[], [(27, (.or (.bin .eql (.ld 1 false (.fa 1 (.fa 0 (.sl 0)))) (.len true (.ld 1 false (.fa 0 (.fa 0 (.sl 0)))))) (.bin .neq (.ix (.ld 1 false (.fa 0 (.fa 0 (.sl 0)))) (.ld 1 false (.fa 1 (.fa 0 (.sl 0))))) (.int .u8 34))))], [], none, [0, 3], 22, [[], [0], [0, 1], [1, 0, 2], [], [4], [4, 5], [5, 4, 6], [6, 4, 5, 7], [7, 5, 4, 6, 8, 2, 0, 1, 3], [3, 1, 0, 2, 8, 6, 4, 5, 7, 9], [9, 7, 5, 4, 6, 8, 2, 0, 1, 3, 10], [10, 3, 1, 0, 2, 8, 6, 4, 5, 7, 9, 11], [11, 9, 7, 5, 4, 6, 8, 2, 0, 1, 3, 10, 12], [12, 10, 3, 1, 0, 2, 8, 6, 4, 5, 7, 9, 11, 13], [9, 7, 5, 4, 6, 8, 2, 0, 1, 3, 10], [10, 3, 1, 0, 2, 8, 6, 4, 5, 7, 9, 15], [15, 9, 7, 5, 4, 6, 8, 2, 0, 1, 3, 10, 16], [16, 10, 3, 1, 0, 2, 8, 6, 4, 5, 7, 9, 15, 17], [17, 15, 16, 18, 13, 11, 9, 7, 5, 4, 6, 8, 2, 0, 1, 3, 10, 12, 14], [14, 12, 10, 3, 1, 0, 2, 8, 6, 4, 5, 7, 9, 11, 13, 18, 16, 15, 17, 19], [19, 17, 15, 16, 18, 13, 11, 12, 14, 20, 9, 7, 5, 4, 6, 8, 2, 0, 1, 3, 10]], [], []⟩])
      (.cond (.sl 27)
       .stuck
       .skip))
     (.seq
      (.seq
       (.reg [⟨[], [], [], some (none, .store 1 (.fa 1 (.fa 0 (.sl 0))) (.bin .add (.ld 1 false (.fa 1 (.fa 0 (.sl 0)))) (.int .i64 1))), [0, 3], 8, [], [], []⟩])
       (.block 0
        (.seq (.keep [0, 3]) (.loop (.seq (.keep [0, 3]) f97_L0)))))
      (.seq
       (.seq
        (.reg [⟨[], [(139, (.bin .eql (.ld 1 false (.fa 1 (.fa 0 (.sl 0)))) (.len true (.ld 1 false (.fa 0 (.fa 0 (.sl 0)))))))], [], some (some 140, .calle 52 (.cons (.sl 3) .nil)), [0, 3], 12, [[], [0], [0, 1], [1, 0, 2], [], [4], [4, 5], [5, 4, 6], [6, 4, 5, 7], [7, 5, 4, 6, 8, 2, 0, 1, 3], [3, 1, 0, 2, 8, 6, 4, 5, 7, 9], [9, 7, 5, 4, 6, 8, 2, 0, 1, 3, 10], [10, 3, 1, 0, 2, 8, 6, 4, 5, 7, 9, 11], [11, 9, 7, 5, 4, 6, 8, 2, 0, 1, 3, 10, 12], [12, 11, 13, 9, 7, 5, 4, 6, 8, 2, 0, 1, 3, 10]], [((.bin .eql (.ld 1 false (.fa 1 (.fa 0 (.sl 0)))) (.len true (.ld 1 false (.fa 0 (.fa 0 (.sl 0)))))), false)], []⟩, ⟨[], [(143, (.or (.sl 139) (.un .not (.call 35 (.cons (.sl 140) .nil)))))], [], none, [0, 3], 3, [], [], []⟩])
        (.cond (.sl 143)
         .stuck
         .skip))
       (.seq
        (.reg [⟨[], [], [], some (none, .store 1 (.fa 1 (.fa 0 (.sl 0))) (.bin .add (.ld 1 false (.fa 1 (.fa 0 (.sl 0)))) (.int .i64 1))), [3], 8, [], [], []⟩])
        (.seq
         (.reg [⟨[], [], [], some (some 153, .calle 52 (.cons (.sl 3) .nil)), [], 1, [], [], []⟩, ⟨[], [(2, (.sl 153))], [], none, [], 1, [], [], []⟩])
         (.seq
          (.keep [2])
          .ret))))))))),
 [(.sl 2)], false⟩
/- '(*sloth/code.reader).number' -/
def f98 : Fun := ⟨
 (.seq
  (.reg [⟨[], [], [(.int .i64 0)], none, [0], 1, [], [], []⟩])
  (.seq
   (.reg [⟨[], [], [], some (some 7, .calle 96 (.cons (.sl 0) .nil)), [], 2, [], [], []⟩, ⟨[], [(3, (.sl 7))], [], none, [], 1, [], [], []⟩])
   (.seq
    (.reg [⟨[], [(4, (.ext 0 (.call 111 (.cons (.sl 3) .nil)))), (5, (.ext 1 (.call 111 (.cons (.sl 3) .nil))))], [], none, [3], 7, [], [], []⟩])
    (.seq
     (.seq
      (.reg [⟨[], [(28, (.or (.or (.or (.eqs true false [5] (.sl 5) .nilif) (.bin .neq (.call 49 (.cons (.sl 4) .nil)) (.sl 3))) (.bin .lss (.sl 4) (.int .i64 (-4611686018427387904)))) (.bin .gtr (.sl 4) (.int .i64 4611686018427387903))))], [], none, [4], 16, [], [], []⟩])
      (.cond (.sl 28)
       .stuck
       .skip))
     (.seq
      (.reg [⟨[], [(2, (.sl 4))], [], none, [], 2, [], [], []⟩])
      (.seq
       (.keep [2])
       .ret)))))),
 [(.sl 2)], false⟩
/- '(*sloth/code.reader).instr' -/
def f99_L0 : C :=
 (.seq
  (.block 1
   (.seq
    (.reg [⟨[(10, .box (.agg (.cons (.str []) (.cons (.int .i64 0) (.cons (.int .i64 0) .nil)))))], [(19, (.ext 1 (.call 79 (.cons (.sl 9) .nil))))], [], some (none, .store 3 (.sl 10) (.ext 0 (.call 79 (.cons (.sl 9) .nil)))), [0, 1, 2, 3, 8, 9, 10], 7, [], [], []⟩, ⟨[], [(11, (.sl 19))], [], none, [0, 1, 2, 3, 8, 9, 10], 1, [], [], []⟩])
    (.seq
     (.seq
      (.reg [⟨[], [(21, (.un .not (.sl 11)))], [], none, [0, 1, 2, 3, 8, 9, 10], 2, [], [], []⟩])
      (.cond (.sl 21)
       .stuck
       .skip))
     (.seq
      (.seq
       (.reg [⟨[], [(27, (.bin .neq (.ld 1 false (.fa 0 (.sl 10))) (.sl 1)))], [], none, [0, 1, 2, 3, 8, 9, 10], 4, [], [], []⟩])
       (.cond (.sl 27)
        (.seq
         (.keep [0, 1, 2, 3, 8, 9])
         (.exit 1))
        .skip))
      (.seq
       (.reg [⟨[(12, .box (.agg (.cons (.int .i64 0) (.cons (.int .i64 0) (.cons (.int .i64 0) .nil)))))], [], [], some (none, .store 3 (.sl 12) (.set 0 1 (.sl 9) (.agg (.cons (.int .i64 0) (.cons (.int .i64 0) (.cons (.int .i64 0) .nil)))))), [0, 2, 3, 8, 10, 12], 4, [], [], []⟩])
       (.seq
        (.seq
         (.reg [⟨[], [(32, (.bin .neq (.ld 1 false (.fa 1 (.sl 10))) (.int .i64 0)))], [], none, [0, 2, 3, 8, 10, 12], 3, [], [], []⟩])
         (.cond (.sl 32)
          (.reg [⟨[], [], [], some (some 38, .calle 112 (.cons (.sl 0) (.cons (.ld 1 false (.fa 1 (.sl 10))) (.cons (.sl 2) (.cons (.sl 3) .nil))))), [0, 8, 10, 12], 6, [], [], []⟩, ⟨[], [], [], some (none, .store 1 (.fa 1 (.sl 12)) (.sl 38)), [0, 8, 10, 12], 2, [], [], []⟩])
          .skip))
        (.seq
         (.seq
          (.reg [⟨[], [(42, (.bin .neq (.ld 1 false (.fa 2 (.sl 10))) (.int .i64 0)))], [], none, [0, 8, 12], 3, [], [], []⟩])
          (.cond (.sl 42)
           (.reg [⟨[], [], [], some (some 44, .calle 98 (.cons (.sl 0) .nil)), [8, 12], 2, [], [], []⟩, ⟨[], [], [], some (none, .store 1 (.fa 2 (.sl 12)) (.sl 44)), [8, 12], 2, [], [], []⟩])
           .skip))
         (.seq
          (.reg [⟨[], [], [], some (none, .store 3 (.sl 8) (.ld 3 true (.sl 12))), [8], 2, [], [], []⟩])
          (.seq
           (.keep [8])
           .ret)))))))))
  (.reg [⟨[], [(9, (.bin .add (.sl 9) (.int .i64 1)))], [], none, [0, 1, 2, 3, 8], 3, [], [], []⟩]))
def f99 : Fun := ⟨
 (.seq
  (.reg [⟨[(8, .box (.agg (.cons (.int .i64 0) (.cons (.int .i64 0) (.cons (.int .i64 0) .nil)))))], [], [], none, [0, 1, 2, 3, 8], 1, [], [], []⟩])
  (.seq
   (.reg [⟨[], [(9, (.int .i64 1))], [], none, [0, 1, 2, 3, 8], 1, [], [], []⟩])
   (.block 0
    (.seq (.keep [0, 1, 2, 3, 8, 9]) (.loop (.seq (.keep [0, 1, 2, 3, 8, 9]) f99_L0)))))),
 [(.ld 3 true (.sl 8))], false⟩
/- 'sloth/code.folded' -/
def f100 : Fun := ⟨
 (.seq
  (.reg [⟨[], [], [(.int .u64 0)], none, [0], 1, [], [], []⟩])
  (.seq
   (.seq
    (.reg [⟨[], [(4, (.bin .lss (.sl 0) (.int .i64 0)))], [], none, [0], 2, [], [], []⟩])
    (.cond (.sl 4)
     (.seq
      (.reg [⟨[], [(2, (.bin .add (.bin .mul (.int .u64 2) (.conv .u64 (.un .neg (.bin .add (.sl 0) (.int .i64 1))))) (.int .u64 1)))], [], none, [], 7, [], [], []⟩])
      (.seq
       (.tidy 0 [2])
       .ret))
     .skip))
   (.seq
    (.reg [⟨[], [(2, (.bin .mul (.int .u64 2) (.conv .u64 (.sl 0))))], [], none, [], 4, [], [], []⟩])
    (.seq
     (.tidy 0 [2])
     .ret)))),
 [(.sl 2)], false⟩
/- '(*sloth/code.loader).count' -/
def f101 : Fun := ⟨
 (.seq
  (.reg [⟨[], [], [(.int .i64 0)], none, [0], 1, [], [], []⟩])
  (.seq
   (.reg [⟨[], [], [], some (some 5, .calle 103 (.cons (.sl 0) .nil)), [0], 2, [], [], []⟩, ⟨[], [(3, (.sl 5))], [], none, [0], 1, [], [], []⟩])
   (.seq
    (.seq
     (.reg [⟨[], [(12, (.bin .gtr (.sl 3) (.len false (.ld 1 false (.fa 0 (.fa 0 (.sl 0)))))))], [], none, [3], 7, [], [], []⟩])
     (.cond (.sl 12)
      .stuck
      .skip))
    (.seq
     (.reg [⟨[], [(2, (.sl 3))], [], none, [], 2, [], [], []⟩])
     (.seq
      (.tidy 1 [2])
      .ret))))),
 [(.sl 2)], false⟩
/- '(*sloth/code.loader).name' -/
def f102 : Fun := ⟨
 (.seq
  (.reg [⟨[], [], [(.str [])], none, [0], 1, [], [], []⟩])
  (.seq
   (.reg [⟨[], [], [], some (some 6, .calle 101 (.cons (.sl 0) .nil)), [0], 2, [], [], []⟩, ⟨[], [(3, (.sl 6))], [], none, [0], 1, [], [], []⟩])
   (.seq
    (.reg [⟨[], [(4, (.b2s (.cut false false true false 1 (.ld 1 false (.fa 0 (.fa 0 (.sl 0)))) .nil (.sl 3) .nil)))], [], none, [0, 3], 8, [], [], []⟩])
    (.seq
     (.reg [⟨[], [], [], some (none, .store 1 (.fa 0 (.fa 0 (.sl 0))) (.cut false true false false 1 (.ld 1 false (.fa 0 (.fa 0 (.sl 0)))) (.sl 3) .nil .nil)), [4], 10, [], [], []⟩])
     (.seq
      (.reg [⟨[], [(2, (.sl 4))], [], none, [], 2, [], [], []⟩])
      (.seq
       (.tidy 1 [2])
       .ret)))))),
 [(.sl 2)], false⟩
/- '(*sloth/code.loader).number' -/
def f103 : Fun := ⟨
 (.seq
  (.reg [⟨[], [], [(.int .i64 0)], none, [0], 1, [], [], []⟩])
  (.seq
   (.reg [⟨[], [], [], some (some 5, .calle 113 (.cons (.sl 0) .nil)), [], 2, [], [], []⟩, ⟨[], [(3, (.sl 5))], [], none, [], 1, [], [], []⟩])
   (.seq
    (.seq
     (.reg [⟨[], [(7, (.bin .gtr (.sl 3) (.int .u64 9223372036854775807)))], [], none, [3], 2, [], [], []⟩])
     (.cond (.sl 7)
      .stuck
      .skip))
    (.seq
     (.reg [⟨[], [(2, (.conv .i64 (.sl 3)))], [], none, [], 3, [], [], []⟩])
     (.seq
      (.tidy 1 [2])
      .ret))))),
 [(.sl 2)], false⟩
/- '(*sloth/code.loader).instr' -/
def f104 : Fun := ⟨
 (.seq
  (.reg [⟨[(2, .box (.agg (.cons (.int .i64 0) (.cons (.int .i64 0) (.cons (.int .i64 0) .nil)))))], [], [], none, [0, 2], 1, [], [], []⟩])
  (.seq
   (.reg [⟨[], [], [], some (some 7, .calle 103 (.cons (.sl 0) .nil)), [0, 2], 2, [], [], []⟩, ⟨[(3, .box (.agg (.cons (.int .i64 0) (.cons (.int .i64 0) (.cons (.int .i64 0) .nil)))))], [], [], some (none, .store 3 (.sl 3) (.set 0 1 (.sl 7) (.agg (.cons (.int .i64 0) (.cons (.int .i64 0) (.cons (.int .i64 0) .nil)))))), [0, 2, 3], 3, [], [], []⟩])
   (.seq
    (.reg [⟨[(4, .box (.agg (.cons (.str []) (.cons (.int .i64 0) (.cons (.int .i64 0) .nil)))))], [(14, (.ext 1 (.call 79 (.cons (.ld 1 false (.fa 0 (.sl 3))) .nil))))], [], some (none, .store 3 (.sl 4) (.ext 0 (.call 79 (.cons (.ld 1 false (.fa 0 (.sl 3))) .nil)))), [0, 2, 3, 4], 8, [], [], []⟩, ⟨[], [(5, (.sl 14))], [], none, [0, 2, 3, 4], 1, [], [], []⟩])
    (.seq
     (.block 0
      (.seq
       (.reg [⟨[], [(15, (.un .not (.sl 5)))], [], none, [0, 2, 3, 4], 3, [], [], []⟩])
       (.cond (.sl 15)
        .stuck
        (.seq
         (.reg [⟨[], [(20, (.bin .eql (.ld 1 false (.fa 1 (.sl 4))) (.int .i64 3)))], [], none, [0, 2, 3, 4], 4, [], [], []⟩])
         (.cond (.sl 20)
          (.reg [⟨[], [], [], some (some 25, .calle 114 (.cons (.sl 0) .nil)), [0, 2, 3, 4], 2, [], [], []⟩, ⟨[], [], [], some (none, .store 1 (.fa 1 (.sl 3)) (.sl 25)), [0, 2, 3, 4], 2, [], [], []⟩])
          (.seq
           (.reg [⟨[], [(27, (.bin .neq (.ld 1 false (.fa 1 (.sl 4))) (.int .i64 0)))], [], none, [0, 2, 3, 4], 4, [], [], []⟩])
           (.cond (.sl 27)
            (.reg [⟨[], [], [], some (some 32, .calle 103 (.cons (.sl 0) .nil)), [0, 2, 3, 4], 2, [], [], []⟩, ⟨[], [], [], some (none, .store 1 (.fa 1 (.sl 3)) (.sl 32)), [0, 2, 3, 4], 2, [], [], []⟩])
            .skip)))))))
     (.seq
      (.seq
       (.reg [⟨[], [(36, (.bin .neq (.ld 1 false (.fa 2 (.sl 4))) (.int .i64 0)))], [], none, [0, 2, 3], 3, [], [], []⟩])
       (.cond (.sl 36)
        (.reg [⟨[], [], [], some (some 38, .calle 103 (.cons (.sl 0) .nil)), [2, 3], 2, [], [], []⟩, ⟨[], [], [], some (none, .store 1 (.fa 2 (.sl 3)) (.sl 38)), [2, 3], 2, [], [], []⟩])
        .skip))
      (.seq
       (.reg [⟨[], [], [], some (none, .store 3 (.sl 2) (.ld 3 true (.sl 3))), [2], 2, [], [], []⟩])
       (.seq
        (.tidy 1 [2])
        .ret))))))),
 [(.ld 3 true (.sl 2))], false⟩
/- 'strings.Replace' -/
def f106_L0 : C :=
 (.seq
  (.reg [⟨[], [(54, (.bin .lss (.sl 53) (.sl 52)))], [], none, [0, 1, 2, 10, 11, 52, 53], 1, [], [], []⟩])
  (.seq
   (.cond (.sl 54)
    .skip
    (.seq
     (.tidy 0 [0, 10, 11])
     (.exit 0)))
   (.seq
    (.block 1
     (.seq
      (.reg [⟨[], [(12, (.bin .add (.sl 11) (.call 117 (.cons (.cut true true false false 0 (.sl 0) (.sl 11) .nil .nil) (.cons (.sl 1) .nil)))))], [], none, [0, 1, 2, 10, 11, 52, 53], 8, [], [], []⟩])
      (.seq
       (.reg [⟨[], [], [], some (some 66, .calle 47 (.cons (.sl 10) (.cons (.cut true true true false 0 (.sl 0) (.sl 11) (.sl 12) .nil) .nil))), [0, 1, 2, 10, 12, 52, 53], 5, [], [], []⟩])
       (.seq
        (.reg [⟨[], [], [], some (some 68, .calle 47 (.cons (.sl 10) (.cons (.sl 2) .nil))), [0, 1, 2, 10, 12, 52, 53], 2, [], [], []⟩])
        (.reg [⟨[], [(11, (.bin .add (.sl 12) (.len true (.sl 1))))], [], none, [0, 1, 2, 10, 52, 53], 5, [], [], []⟩])))))
    (.reg [⟨[], [(53, (.bin .add (.sl 53) (.int .i64 1)))], [], none, [0, 1, 2, 10, 11, 52], 2, [], [], []⟩]))))
def f106_L1 : C :=
 (.seq
  (.reg [⟨[], [(79, (.bin .lss (.sl 78) (.sl 77)))], [], none, [0, 2, 10, 11, 77, 78], 1, [], [], []⟩])
  (.seq
   (.cond (.sl 79)
    .skip
    (.seq
     (.tidy 0 [0, 10, 11])
     (.exit 2)))
   (.seq
    (.block 3
     (.seq
      (.reg [⟨[], [(14, (.ext 1 (.call 118 (.cons (.cut true true false false 0 (.sl 0) (.sl 11) .nil .nil) .nil))))], [(.ext 0 (.call 118 (.cons (.cut true true false false 0 (.sl 0) (.sl 11) .nil .nil) .nil)))], none, [0, 2, 10, 11, 77, 78], 9, [], [], []⟩])
      (.seq
       (.reg [⟨[], [(15, (.bin .add (.sl 11) (.sl 14)))], [], none, [0, 2, 10, 11, 77, 78], 4, [], [], []⟩])
       (.seq
        (.reg [⟨[], [], [], some (some 94, .calle 47 (.cons (.sl 10) (.cons (.cut true true true false 0 (.sl 0) (.sl 11) (.sl 15) .nil) .nil))), [0, 2, 10, 15, 77, 78], 5, [], [], []⟩])
        (.seq
         (.reg [⟨[], [], [], some (some 96, .calle 47 (.cons (.sl 10) (.cons (.sl 2) .nil))), [0, 2, 10, 15, 77, 78], 2, [], [], []⟩])
         (.reg [⟨[], [(11, (.sl 15))], [], none, [0, 2, 10, 77, 78], 2, [], [], []⟩]))))))
    (.reg [⟨[], [(78, (.bin .add (.sl 78) (.int .i64 1)))], [], none, [0, 2, 10, 11, 77], 2, [], [], []⟩]))))
def f106 : Fun := ⟨
 (.seq
  (.reg [⟨[], [], [(.str [])], none, [0, 1, 2, 3], 1, [], [], []⟩])
  (.seq
   (.seq
    (.reg [⟨[], [(22, (.or (.bin .eql (.sl 1) (.sl 2)) (.bin .eql (.sl 3) (.int .i64 0))))], [], none, [0, 1, 2, 3], 7, [], [], []⟩])
    (.cond (.sl 22)
     (.seq
      (.reg [⟨[], [(8, (.sl 0))], [], none, [], 2, [], [], []⟩])
      (.seq
       (.tidy 0 [8])
       .ret))
     .skip))
   (.seq
    (.seq
     (.reg [⟨[], [(9, (.call 115 (.cons (.sl 0) (.cons (.sl 1) .nil))))], [], none, [0, 1, 2, 3], 4, [], [], []⟩])
     (.seq
      (.reg [⟨[], [(28, (.bin .eql (.sl 9) (.int .i64 0)))], [], none, [0, 1, 2, 3, 9], 2, [], [], []⟩])
      (.cond (.sl 28)
       (.seq
        (.reg [⟨[], [(8, (.sl 0))], [], none, [], 2, [], [], []⟩])
        (.seq
         (.tidy 0 [8])
         .ret))
       (.seq
        (.reg [⟨[], [(36, (.or (.bin .lss (.sl 3) (.int .i64 0)) (.bin .lss (.sl 9) (.sl 3))))], [], none, [0, 1, 2, 3, 9], 7, [], [], []⟩])
        (.cond (.sl 36)
         (.reg [⟨[], [(3, (.sl 9))], [], none, [0, 1, 2], 2, [], [], []⟩])
         .skip)))))
    (.seq
     (.reg [⟨[(10, .bld 78 5)], [], [], none, [0, 1, 2, 3, 10], 1, [], [], []⟩])
     (.seq
      (.reg [⟨[], [], [(.call 116 (.cons (.sl 10) (.cons (.bin .add (.len true (.sl 0)) (.bin .mul (.sl 3) (.bin .sub (.len true (.sl 2)) (.len true (.sl 1))))) .nil)))], none, [0, 1, 2, 3, 10], 11, [], [], []⟩])
      (.seq
       (.reg [⟨[], [(11, (.int .i64 0))], [], none, [0, 1, 2, 3, 10], 1, [], [], []⟩])
       (.seq
        (.seq
         (.reg [⟨[], [(51, (.bin .gtr (.len true (.sl 1)) (.int .i64 0)))], [], none, [0, 1, 2, 3, 10, 11], 3, [], [], []⟩])
         (.cond (.sl 51)
          (.seq
           (.reg [⟨[], [(52, (.sl 3)), (53, (.int .i64 0))], [], none, [0, 1, 2, 10, 11], 2, [], [], []⟩])
           (.block 0
            (.seq (.tidy 0 [0, 1, 2, 10, 11, 52, 53]) (.loop (.seq (.tidy 0 [0, 1, 2, 10, 11, 52, 53]) f106_L0)))))
          (.seq
           (.reg [⟨[], [], [], some (some 75, .calle 47 (.cons (.sl 10) (.cons (.sl 2) .nil))), [0, 2, 3, 10, 11], 2, [], [], []⟩])
           (.seq
            (.reg [⟨[], [(77, (.bin .sub (.sl 3) (.int .i64 1))), (78, (.int .i64 0))], [], none, [0, 2, 10, 11], 3, [], [], []⟩])
            (.block 2
             (.seq (.tidy 0 [0, 2, 10, 11, 77, 78]) (.loop (.seq (.tidy 0 [0, 2, 10, 11, 77, 78]) f106_L1))))))))
        (.seq
         (.reg [⟨[], [], [], some (some 102, .calle 47 (.cons (.sl 10) (.cons (.cut true true false false 0 (.sl 0) (.sl 11) .nil .nil) .nil))), [10], 4, [], [], []⟩])
         (.seq
          (.reg [⟨[], [], [], some (some 103, .calle 52 (.cons (.sl 10) .nil)), [], 1, [], [], []⟩, ⟨[], [(8, (.sl 103))], [], none, [], 1, [], [], []⟩])
          (.seq
           (.tidy 0 [8])
           .ret)))))))))),
 [(.sl 8)], false⟩
/- 'sloth/code.operators' -/
def f108 : Fun := ⟨
 (.seq
  (.reg [⟨[], [], [(.nilsl 1)], none, [], 1, [], [], []⟩])
  (.seq
   (.reg [⟨[(1, .lits 1 (.cons (.str []) (.cons (.str [43]) (.cons (.str [45]) (.cons (.str [42]) (.cons (.str [47]) (.cons (.str [37]) (.cons (.str [61, 61]) (.cons (.str [47, 61]) (.cons (.str [60]) (.cons (.str [60, 61]) (.cons (.str [62]) (.cons (.str [62, 61]) .nil)))))))))))))], [(0, (.sl 1))], [], none, [], 2, [], [], []⟩])
   (.seq
    (.tidy 0 [0])
    .ret))),
 [(.sl 0)], false⟩
/- '(*sloth/code.reader).blanks' -/
def f109_L0 : C :=
 (.seq
  (.seq
   (.reg [⟨[], [(24, (.and (.bin .lss (.ld 1 false (.fa 1 (.fa 0 (.sl 0)))) (.len true (.ld 1 false (.fa 0 (.fa 0 (.sl 0)))))) (.bin .geq (.call 123 (.cons (.str [32, 9, 10, 13]) (.cons (.ix (.ld 1 false (.fa 0 (.fa 0 (.sl 0)))) (.ld 1 false (.fa 1 (.fa 0 (.sl 0))))) .nil))) (.int .i64 0))))], [], none, [0], 23, [[], [0], [0, 1], [1, 0, 2], [], [4], [4, 5], [5, 4, 6], [6, 4, 5, 7], [7, 5, 4, 6, 8, 2, 0, 1, 3], [3, 1, 0, 2, 8, 6, 4, 5, 7, 9], [9, 7, 5, 4, 6, 8, 2, 0, 1, 3, 10], [10, 3, 1, 0, 2, 8, 6, 4, 5, 7, 9, 11], [11, 9, 7, 5, 4, 6, 8, 2, 0, 1, 3, 10, 12], [12, 10, 3, 1, 0, 2, 8, 6, 4, 5, 7, 9, 11, 13], [9, 7, 5, 4, 6, 8, 2, 0, 1, 3, 10], [10, 3, 1, 0, 2, 8, 6, 4, 5, 7, 9, 15], [15, 9, 7, 5, 4, 6, 8, 2, 0, 1, 3, 10, 16], [16, 10, 3, 1, 0, 2, 8, 6, 4, 5, 7, 9, 15, 17], [17, 15, 16, 18, 13, 11, 9, 7, 5, 4, 6, 8, 2, 0, 1, 3, 10, 12, 14], [14, 12, 10, 3, 1, 0, 2, 8, 6, 4, 5, 7, 9, 11, 13, 18, 16, 15, 17, 19], [19, 17, 15, 16, 18, 13, 11, 9, 7, 5, 4, 6, 8, 2, 0, 1, 3, 10, 12, 14, 20], [20, 14, 12, 11, 13, 18, 16, 15, 17, 19, 21, 9, 7, 5, 4, 6, 8, 2, 0, 1, 3, 10]], [], []⟩])
   (.cond (.sl 24)
    .skip
    (.seq
     (.keep [])
     (.exit 0))))
  (.block 1
   (.reg [⟨[], [], [], some (none, .store 1 (.fa 1 (.fa 0 (.sl 0))) (.bin .add (.ld 1 false (.fa 1 (.fa 0 (.sl 0)))) (.int .i64 1))), [0], 8, [], [], []⟩])))
def f109 : Fun := ⟨
 (.block 0
  (.seq (.keep [0]) (.loop (.seq (.keep [0]) f109_L0)))),
 [], false⟩
/- '(*sloth/code.reader).piece' -/
def f112_L0 : C :=
 (.seq
  (.reg [⟨[], [(37, (.bin .lss (.sl 36) (.sl 35)))], [], none, [0, 9, 34, 35, 36], 1, [], [], []⟩])
  (.seq
   (.cond (.sl 37)
    .skip
    (.seq
     (.keep [0])
     (.exit 1)))
   (.seq
    (.block 2
     (.seq
      (.reg [⟨[], [(10, (.sl 36)), (11, (.ld 1 false (.ia 1 (.sl 34) (.sl 36))))], [], none, [0, 9, 34, 35, 36], 5, [], [], []⟩])
      (.seq
       (.reg [⟨[], [(47, (.and (.bin .eql (.sl 11) (.sl 9)) (.bin .gtr (.sl 10) (.int .i64 0))))], [], none, [0, 9, 10, 34, 35, 36], 7, [], [], []⟩])
       (.cond (.sl 47)
        (.seq
         (.reg [⟨[], [(8, (.sl 10))], [], none, [], 2, [], [], []⟩])
         (.seq
          (.keep [8])
          .ret))
        .skip))))
    (.reg [⟨[], [(36, (.bin .add (.sl 36) (.int .i64 1)))], [], none, [0, 9, 34, 35], 2, [], [], []⟩]))))
def f112 : Fun := ⟨
 (.seq
  (.reg [⟨[], [], [(.int .i64 0)], none, [0, 1, 2, 3], 1, [], [], []⟩])
  (.seq
   (.seq
    (.reg [⟨[], [(12, (.sl 1))], [], none, [0, 2, 3], 1, [], [], []⟩])
    (.block 0
     (.seq
      (.seq
       (.reg [⟨[], [(13, (.bin .eql (.sl 12) (.int .i64 4)))], [], none, [0, 2, 3, 12], 2, [], [], []⟩])
       (.cond (.sl 13)
        .skip
        (.reg [⟨[], [(13, (.bin .eql (.sl 12) (.int .i64 5)))], [], none, [0, 2, 3, 12], 2, [], [], []⟩])))
      (.cond (.sl 13)
       (.seq
        (.regl [⟨[], [], [(.sl 3), (.sl 2), (.ld 1 false (.fa 2 (.fa 0 (.sl 0))))], some (some 24, .calle 97 (.cons (.sl 0) .nil)), [0, 2, 3], 9, [[], [], [1], [1, 2], [2, 1, 3], [], [], [], [7], [7, 8, 6, 5], [5, 6, 8, 7, 9], [9, 7, 8, 6, 5, 10, 3, 1, 2, 4], [11, 10, 9, 8, 7, 6, 5, 4, 3, 2, 1, 0], [0, 1, 2, 3, 4, 5, 6, 7, 8, 9, 10, 11, 12], [12, 11, 10, 9, 8, 7, 6, 5, 4, 3, 2, 1, 0, 13]], [], [(.sl 0), (.fa 0 (.sl 0)), (.fa 2 (.fa 0 (.sl 0))), (.ld 1 false (.fa 2 (.fa 0 (.sl 0)))), (.sl 2), (.sl 3)]⟩, ⟨[(26, .lits 3 (.cons (.set 2 1 (.sl 24) (.set 1 1 (.sl 3) (.set 0 1 (.sl 2) (.agg (.cons (.int .i64 0) (.cons (.int .i64 0) (.cons (.str []) .nil))))))) .nil))], [], [], some (some 27, .app 3 (.ld 1 false (.fa 2 (.fa 0 (.sl 0)))) (.sl 26)), [0], 3, [], [], [(.sl 0)]⟩, ⟨[], [], [], some (none, .store 1 (.fa 2 (.fa 0 (.sl 0))) (.sl 27)), [], 3, [], [], []⟩])
        (.seq
         (.reg [⟨[], [(8, (.int .i64 0))], [], none, [], 1, [], [], []⟩])
         (.seq
          (.keep [8])
          .ret)))
       (.seq
        (.reg [⟨[], [(30, (.bin .eql (.sl 12) (.int .i64 6)))], [], none, [0], 2, [], [], []⟩])
        (.cond (.sl 30)
         (.seq
          (.reg [⟨[], [], [], some (some 33, .calle 96 (.cons (.sl 0) .nil)), [0], 2, [], [], []⟩, ⟨[], [(9, (.sl 33))], [], none, [0], 1, [], [], []⟩])
          (.seq
           (.seq
            (.reg [⟨[], [(34, (.call 108 .nil)), (35, (.len false (.call 108 .nil))), (36, (.int .i64 0))], [], none, [0, 9], 3, [], [], []⟩])
            (.block 1
             (.seq (.keep [0, 9, 34, 35, 36]) (.loop (.seq (.keep [0, 9, 34, 35, 36]) f112_L0)))))
           .stuck))
         .skip))))))
   (.seq
    (.reg [⟨[], [], [], some (some 53, .calle 98 (.cons (.sl 0) .nil)), [], 2, [], [], []⟩, ⟨[], [(8, (.sl 53))], [], none, [], 1, [], [], []⟩])
    (.seq
     (.keep [8])
     .ret)))),
 [(.sl 8)], false⟩
/- '(*sloth/code.loader).folded' -/
def f113_L0 : C :=
 (.seq
  (.seq
   (.reg [⟨[], [(7, (.bin .lss (.sl 4) (.int .i64 64)))], [], none, [0, 2, 3, 4], 2, [], [], []⟩])
   (.cond (.sl 7)
    .skip
    (.seq
     (.tidy 1 [2])
     (.exit 0))))
  (.seq
   (.block 1
    (.seq
     (.reg [⟨[], [], [], some (some 11, .calle 126 (.cons (.sl 0) .nil)), [0, 2, 3, 4], 2, [], [], []⟩, ⟨[], [(5, (.sl 11))], [], none, [0, 2, 3, 4], 1, [], [], []⟩])
     (.seq
      (.seq
       (.reg [⟨[], [(25, (.or (.and (.bin .eql (.sl 4) (.int .i64 63)) (.bin .gtr (.sl 5) (.int .u8 1))) (.and (.bin .gtr (.sl 4) (.int .i64 0)) (.bin .eql (.sl 5) (.int .u8 0)))))], [], none, [0, 2, 3, 4, 5], 14, [], [], []⟩])
       (.cond (.sl 25)
        .stuck
        .skip))
      (.seq
       (.reg [⟨[], [(3, (.bin .or (.sl 3) (.sh true (.conv .u64 (.bin .and (.sl 5) (.int .u8 127))) (.sl 4))))], [], none, [0, 2, 4, 5], 8, [], [], []⟩])
       (.seq
        (.reg [⟨[], [(36, (.bin .lss (.sl 5) (.int .u8 128)))], [], none, [0, 2, 3, 4], 2, [], [], []⟩])
        (.cond (.sl 36)
         (.seq
          (.reg [⟨[], [(2, (.sl 3))], [], none, [], 2, [], [], []⟩])
          (.seq
           (.tidy 1 [2])
           .ret))
         .skip))))))
   (.reg [⟨[], [(4, (.bin .add (.sl 4) (.int .i64 7)))], [], none, [0, 2, 3], 3, [], [], []⟩])))
def f113 : Fun := ⟨
 (.seq
  (.reg [⟨[], [(2, (.int .u64 0))], [], none, [0], 1, [], [], []⟩])
  (.seq
   (.reg [⟨[], [(3, (.int .u64 0))], [], none, [0, 2], 1, [], [], []⟩])
   (.seq
    (.seq
     (.reg [⟨[], [(4, (.int .i64 0))], [], none, [0, 2, 3], 1, [], [], []⟩])
     (.block 0
      (.seq (.tidy 1 [0, 2, 3, 4]) (.loop (.seq (.tidy 1 [0, 2, 3, 4]) f113_L0)))))
    .stuck))),
 [(.sl 2)], false⟩
/- '(*sloth/code.loader).signed' -/
def f114 : Fun := ⟨
 (.seq
  (.reg [⟨[], [], [(.int .i64 0)], none, [0], 1, [], [], []⟩])
  (.seq
   (.reg [⟨[], [], [], some (some 5, .calle 113 (.cons (.sl 0) .nil)), [], 2, [], [], []⟩, ⟨[], [(3, (.sl 5))], [], none, [], 1, [], [], []⟩])
   (.seq
    (.seq
     (.reg [⟨[], [(8, (.bin .eql (.bin .and (.sl 3) (.int .u64 1)) (.int .u64 1)))], [], none, [3], 3, [], [], []⟩])
     (.cond (.sl 8)
      (.seq
       (.reg [⟨[], [(2, (.bin .sub (.un .neg (.conv .i64 (.sh false (.sl 3) (.int .u64 1)))) (.int .i64 1)))], [], none, [], 6, [], [], []⟩])
       (.seq
        (.tidy 1 [2])
        .ret))
      .skip))
    (.seq
     (.reg [⟨[], [(2, (.conv .i64 (.sh false (.sl 3) (.int .u64 1))))], [], none, [], 4, [], [], []⟩])
     (.seq
      (.tidy 1 [2])
      .ret))))),
 [(.sl 2)], false⟩
/- '(*sloth/code.loader).take' -/
def f126 : Fun := ⟨
 (.seq
  (.reg [⟨[], [], [(.int .u8 0)], none, [0], 1, [], [], []⟩])
  (.seq
   (.seq
    (.reg [⟨[], [(9, (.bin .eql (.len false (.ld 1 false (.fa 0 (.fa 0 (.sl 0))))) (.int .i64 0)))], [], none, [0], 6, [], [], []⟩])
    (.cond (.sl 9)
     .stuck
     .skip))
   (.seq
    (.reg [⟨[], [(3, (.ld 1 false (.ia 1 (.ld 1 false (.fa 0 (.fa 0 (.sl 0)))) (.int .i64 0))))], [], none, [0], 7, [], [], []⟩])
    (.seq
     (.reg [⟨[], [], [], some (none, .store 1 (.fa 0 (.fa 0 (.sl 0))) (.cut false true false false 1 (.ld 1 false (.fa 0 (.fa 0 (.sl 0)))) (.int .i64 1) .nil .nil)), [3], 9, [], [], []⟩])
     (.seq
      (.reg [⟨[], [(2, (.sl 3))], [], none, [], 2, [], [], []⟩])
      (.seq
       (.tidy 1 [2])
       .ret)))))),
 [(.sl 2)], false⟩
def eB8 : List Blk → Option (List UInt8)
  | [.map [(.nils 78, .bsl 1 0 n)], .map [(.emps 5, .d false .nilp), (.str bytes, .d false .nilp)]] => if n = bytes.length ∧ n ≤ 1000000 then some bytes else none
  | _ => none
theorem eB8_ok {bs : List Blk} {bytes : List UInt8} (h : eB8 bs = some bytes) : bs = [bldB 78 1 bytes.length, bufB 5 bytes] ∧ bytes.length ≤ 1000000 := by
  unfold eB8 at h
  split at h
  · split at h
    · rename_i hc
      obtain ⟨h1, h2⟩ := hc
      simp only [Option.some.injEq] at h
      subst h
      subst h1
      exact ⟨rfl, h2⟩
    · cases h
  · cases h
def cEff8 : FuncId → List V → List Blk → Option (V × List Blk × List Nat)
  | 110, [.ptr 0 0 0, .d false (.int .u8 c)], bs => match eB8 bs with
    | some bytes => if 0 ≤ c ∧ c < 256 then some (.d false .nilif, [bldB 78 1 (bytes ++ [UInt8.ofNat c.toNat]).length, bufB 5 (bytes ++ [UInt8.ofNat c.toNat])], [1]) else none
    | none => none
  | 47, [.ptr 0 0 0, .d false (.str s)], bs => match eB8 bs with
    | some bytes => if s.length ≤ 1000000 then some (.tup [.d false (.int .i64 s.length), .d false .nilif], [bldB 78 1 (bytes ++ s).length, bufB 5 (bytes ++ s)], [1]) else none
    | none => none
  | 51, [.ptr 0 0 0], bs => match eB8 bs with
    | some bytes => some (.d false (.int .i64 bytes.length), [bldB 78 1 bytes.length, bufB 5 bytes], [])
    | none => none
  | 52, [.ptr 0 0 0], bs => match eB8 bs with
    | some bytes => some (.d false (.str bytes), [bldB 78 1 bytes.length, bufB 5 bytes], [1])
    | none => none
  | _, _, _ => none
theorem itoa_digit : ∀ n : Nat, n < 10 → Lib.itoa n = [UInt8.ofNat (48 + n)] := by
  intro n h
  unfold Lib.itoa
  rw [if_neg (by omega), Int.toNat_natCast, Lib.decDigits]
  simp [h]
theorem atoi_digit : ∀ n : Nat, n < 10 → Lib.atoi [UInt8.ofNat (48 + n)] = some (n : Int) := by decide
def cCall8 : FuncId → List V → Option (V × List Blk)
  | 49, [.d _ (.int .i64 n)] => if 0 ≤ n ∧ n < 10 then some (.d false (.str [UInt8.ofNat (48 + n.toNat)]), []) else none
  | 111, [.d _ (.str [c])] => if 48 ≤ c.toNat ∧ c.toNat < 58 then some (.tup [.d false (.int .i64 (c.toNat - 48 : Nat)), .d false .nilif], []) else none
  | 123, [.d _ (.str s), .d _ (.int .u8 c)] => if 0 ≤ c ∧ c < 256 then some (.d false (.int .i64 (Lib.indexByte s (UInt8.ofNat c.toNat))), []) else none
  | 115, [.d _ (.str s), .d _ (.str [c])] => some (.d false (.int .i64 (s.count c)), [])
  | _, _ => none
def KS8 : Cx := ⟨cCall8, cEff8, GT, fun _ => false, []⟩
theorem KS8_sound : KS8.Sound Tryz.prog := by
  refine ⟨fun f args r news h => ?_, fun f args r news h => (by cases h), fun f args blks r blks' mv h => ?_⟩
  · simp only [KS8] at h ⊢
    unfold cCall8 at h
    split at h
    · refine ⟨by kernel_rfl, ?_⟩
      split at h
      · rename_i a n hc
        simp only [Option.some.injEq, Prod.mk.injEq] at h
        obtain ⟨rfl, rfl⟩ := h
        have e := itoa_digit n.toNat (by omega)
        have e2 : ((n.toNat : Nat) : Int) = n := by omega
        rw [e2] at e
        rw [← e]
        exact pure_itoa n a (by omega) (by omega)
      · cases h
    · refine ⟨by kernel_rfl, ?_⟩
      split at h
      · rename_i a c hc
        simp only [Option.some.injEq, Prod.mk.injEq] at h
        obtain ⟨rfl, rfl⟩ := h
        have e := atoi_digit (c.toNat - 48) (by omega)
        have e2 : UInt8.ofNat (48 + (c.toNat - 48)) = c := by
          rw [show 48 + (c.toNat - 48) = c.toNat by omega]; simp
        rw [e2] at e
        exact pure_atoi [c] a _ (by simp) e
      · cases h
    · refine ⟨by kernel_rfl, ?_⟩
      split at h
      · rename_i a s b c hc
        simp only [Option.some.injEq, Prod.mk.injEq] at h
        obtain ⟨rfl, rfl⟩ := h
        have := pure_index s (UInt8.ofNat c.toNat) a b
        have e : ((UInt8.ofNat c.toNat).toNat : Int) = c := by
          rw [UInt8.toNat_ofNat']; omega
        rw [e] at this
        exact this
      · cases h
    · refine ⟨by kernel_rfl, ?_⟩
      simp only [Option.some.injEq, Prod.mk.injEq] at h
      obtain ⟨rfl, rfl⟩ := h
      exact pure_count _ _ _ _
    · cases h
  · simp only [KS8] at h ⊢
    unfold cEff8 at h
    split at h
    · refine ⟨by kernel_rfl, ?_⟩
      split at h
      · rename_i bytes hb
        obtain ⟨rfl, hl⟩ := eB8_ok hb
        split at h
        · rename_i c _ hc
          simp only [Option.some.injEq, Prod.mk.injEq] at h
          obtain ⟨rfl, rfl, rfl⟩ := h
          have := eff_WriteByte (G := GT) tB_wb bytes (UInt8.ofNat c.toNat) (by omega)
          have e : ((UInt8.ofNat c.toNat).toNat : Int) = c := by
            rw [UInt8.toNat_ofNat']; omega
          rw [e] at this
          exact this
        · cases h
      · cases h
    · refine ⟨by kernel_rfl, ?_⟩
      split at h
      · rename_i bytes hb
        obtain ⟨rfl, hl⟩ := eB8_ok hb
        split at h
        · simp only [Option.some.injEq, Prod.mk.injEq] at h
          obtain ⟨rfl, rfl, rfl⟩ := h
          exact eff_WriteString tB_ws bytes _ (by omega)
        · cases h
      · cases h
    · refine ⟨by kernel_rfl, ?_⟩
      split at h
      · rename_i bytes hb
        obtain ⟨rfl, hl⟩ := eB8_ok hb
        simp only [Option.some.injEq, Prod.mk.injEq] at h
        obtain ⟨rfl, rfl, rfl⟩ := h
        exact eff_Len Tryz.lays170 bytes
      · cases h
    · refine ⟨by kernel_rfl, ?_⟩
      split at h
      · rename_i bytes hb
        obtain ⟨rfl, hl⟩ := eB8_ok hb
        simp only [Option.some.injEq, Prod.mk.injEq] at h
        obtain ⟨rfl, rfl, rfl⟩ := h
        exact eff_String Tryz.lays169 Tryz.Builder_Extra_169 bytes
      · cases h
    · cases h
end Go.Vm
end

section
namespace Go.Vm
set_option maxRecDepth 100000
open Go.RowKit Go.Shelf Go.Proofs
def T8 : List Row := [⟨13, 0, 1, f13⟩, ⟨15, 0, 2, f15⟩, ⟨19, 0, 1, f19⟩, ⟨24, 0, 1, f24⟩, ⟨33, 0, 0, f33⟩, ⟨34, 0, 1, f34⟩, ⟨35, 0, 1, f35⟩, ⟨36, 0, 0, f36⟩, ⟨37, 0, 2, f37⟩, ⟨48, 0, 1, f48⟩, ⟨50, 0, 2, f50⟩, ⟨60, 1, 1, f60⟩, ⟨60, 2, 1, f60⟩, ⟨60, 3, 1, f60⟩, ⟨60, 4, 1, f60⟩, ⟨60, 5, 1, f60⟩, ⟨61, 1, 1, f61⟩, ⟨61, 2, 1, f61⟩, ⟨61, 3, 1, f61⟩, ⟨61, 4, 1, f61⟩, ⟨61, 5, 1, f61⟩, ⟨68, 1, 2, f68⟩, ⟨69, 1, 2, f69⟩, ⟨70, 1, 2, f70⟩, ⟨71, 0, 1, f71⟩, ⟨72, 0, 1, f72⟩, ⟨77, 1, 1, f77⟩, ⟨78, 0, 0, f78⟩, ⟨79, 0, 1, f79⟩, ⟨80, 0, 5, f80⟩, ⟨81, 0, 3, f81⟩, ⟨82, 1, 3, f82⟩, ⟨88, 0, 3, f88⟩, ⟨90, 0, 3, f90⟩, ⟨96, 1, 1, f96⟩, ⟨96, 2, 1, f96⟩, ⟨96, 3, 1, f96⟩, ⟨96, 4, 1, f96⟩, ⟨96, 5, 1, f96⟩, ⟨97, 1, 1, f97⟩, ⟨97, 2, 1, f97⟩, ⟨97, 3, 1, f97⟩, ⟨97, 4, 1, f97⟩, ⟨97, 5, 1, f97⟩, ⟨98, 1, 1, f98⟩, ⟨98, 2, 1, f98⟩, ⟨98, 3, 1, f98⟩, ⟨98, 4, 1, f98⟩, ⟨98, 5, 1, f98⟩, ⟨99, 1, 4, f99⟩, ⟨99, 2, 4, f99⟩, ⟨99, 3, 4, f99⟩, ⟨99, 4, 4, f99⟩, ⟨99, 5, 4, f99⟩, ⟨100, 0, 1, f100⟩, ⟨101, 1, 1, f101⟩, ⟨102, 1, 1, f102⟩, ⟨103, 1, 1, f103⟩, ⟨104, 1, 1, f104⟩, ⟨106, 0, 4, f106⟩, ⟨108, 0, 0, f108⟩, ⟨109, 1, 1, f109⟩, ⟨109, 2, 1, f109⟩, ⟨109, 3, 1, f109⟩, ⟨109, 4, 1, f109⟩, ⟨109, 5, 1, f109⟩, ⟨112, 1, 4, f112⟩, ⟨112, 2, 4, f112⟩, ⟨112, 3, 4, f112⟩, ⟨112, 4, 4, f112⟩, ⟨112, 5, 4, f112⟩, ⟨113, 1, 1, f113⟩, ⟨114, 1, 1, f114⟩, ⟨126, 1, 1, f126⟩]
def K8 (n : Nat) : Cx := cxM KS8 400 T8 n
theorem T8_ok : ∀ r ∈ T8, funOk Tryz.prog r.f r.m r.n r.g = true := by
  have h : T8.all (fun r => funOk Tryz.prog r.f r.m r.n r.g) = true := by kernel_rfl
  simpa [List.all_eq_true] using h
theorem K8_sound (n : Nat) : (K8 n).Sound Tryz.prog := cxM_sound mixedZ KS8_sound T8_ok (fun r _ h => by cases h) rfl n
theorem K8_dfr (n : Nat) : (K8 n).dfr = [] := cxM_dfr rfl 400 T8 n
def codeBytes : List (List D) := [[.int .u8 83], [.int .u8 76], [.int .u8 84], [.int .u8 72], [.int .u8 7], [.int .u8 5], [.int .u8 70], [.int .u8 97], [.int .u8 108], [.int .u8 115], [.int .u8 101], [.int .u8 0], [.int .u8 4], [.int .u8 84], [.int .u8 114], [.int .u8 117], [.int .u8 101], [.int .u8 0], [.int .u8 4], [.int .u8 85], [.int .u8 110], [.int .u8 105], [.int .u8 116], [.int .u8 0], [.int .u8 3], [.int .u8 78], [.int .u8 105], [.int .u8 108], [.int .u8 0], [.int .u8 4], [.int .u8 67], [.int .u8 111], [.int .u8 110], [.int .u8 115], [.int .u8 2], [.int .u8 4], [.int .u8 80], [.int .u8 97], [.int .u8 105], [.int .u8 114], [.int .u8 2], [.int .u8 6], [.int .u8 84], [.int .u8 114], [.int .u8 105], [.int .u8 112], [.int .u8 108], [.int .u8 101], [.int .u8 3], [.int .u8 1], [.int .u8 2], [.int .u8 105], [.int .u8 100], [.int .u8 1], [.int .u8 4], [.int .u8 1], [.int .u8 0], [.int .u8 7], [.int .u8 2], [.int .u8 4], [.int .u8 1], [.int .u8 17], [.int .u8 204], [.int .u8 185], [.int .u8 3], [.int .u8 45]]
def textA : List UInt8 := [115, 104, 97, 112, 101, 32, 34, 70, 97, 108, 115, 101, 34, 32, 48, 10, 115, 104, 97, 112, 101, 32, 34, 84, 114, 117, 101, 34, 32, 48, 10, 115, 104, 97, 112, 101, 32, 34, 85, 110, 105, 116, 34, 32, 48, 10, 115, 104, 97, 112, 101, 32, 34, 78, 105, 108, 34, 32, 48, 10, 115, 104, 97, 112, 101, 32, 34, 67, 111, 110, 115, 34, 32, 50, 10, 115, 104, 97, 112, 101, 32, 34, 80, 97, 105, 114, 34, 32, 50, 10, 115, 104, 97, 112, 101, 32, 34, 84, 114, 105, 112, 108, 101, 34, 32, 51, 10, 103, 108, 111, 98, 97, 108, 32, 34, 105, 100, 34, 32, 49, 10, 32, 32, 112, 117, 115, 104, 32, 48, 10, 32, 32, 117, 112, 100, 97, 116, 101, 32, 50, 10, 32, 32, 112, 111, 112, 32, 49, 10, 32, 32, 117, 110, 119, 105, 110, 100, 10]
def cL : C → C
  | .seq a _ => a
  | c => c
def cR : C → C
  | .seq _ b => b
  | c => c
def f21D : DfrF := ⟨cL f21.body, cL (cR f21.body), cR (cR (cR f21.body)), f21.res, 9, 59, [2, 3]⟩
def f27D : DfrF := ⟨cL f27.body, cL (cR f27.body), cR (cR (cR f27.body)), f27.res, 10, 76, [2, 3]⟩
theorem f21D_ok : dfrOk Tryz.prog 21 1 f21D = true := by kernel_rfl
theorem f27D_ok : dfrOk Tryz.prog 27 1 f27D = true := by kernel_rfl
def st (x : Option (Ex × S)) : S := match x with
  | some (_, s) => s
  | none => ⟨[], [], 0, []⟩
def s0R : S := st (execC 400 (K8 30) f21D.c0 (startS [.d false (.str textA)] []))
def s1R : S := st (execC 400 (K8 30) f21D.ca s0R)
def idT : V := .tup [.agg [.d false (.sl 2 [[.str [70, 97, 108, 115, 101], .int .i64 0], [.str [84, 114, 117, 101], .int .i64 0], [.str [85, 110, 105, 116], .int .i64 0], [.str [78, 105, 108], .int .i64 0], [.str [67, 111, 110, 115], .int .i64 2], [.str [80, 97, 105, 114], .int .i64 2], [.str [84, 114, 105, 112, 108, 101], .int .i64 3]]),
  .d false (.sl 3 [[.str [105, 100], .int .i64 1, .sl 3 [[.int .i64 1, .int .i64 0, .int .i64 0], [.int .i64 7, .int .i64 2, .int .i64 0], [.int .i64 4, .int .i64 1, .int .i64 0], [.int .i64 17, .int .i64 0, .int .i64 0]]]])], .d false (.int .i64 0)]
theorem run21 : DfrRun (K8 30) f21D [.d false (.str textA)] idT [] := dfr_of (N := 400) (s0 := s0R) (s1 := s1R) (by kernel_rfl) (by kernel_rfl) (by kernel_rfl) (fun ds => by kernel_rfl)
end Go.Vm
end

section
namespace Go.Vm
set_option maxRecDepth 100000
open Go.RowKit Go.Shelf Go.Proofs
def s0L (c : Bool) : S := st (execC 400 (K8 30) f27D.c0 (startS [.d c (.sl 1 codeBytes)] []))
def s1L (c : Bool) : S := st (execC 400 (K8 30) f27D.ca (s0L c))
theorem run27f : DfrRun (K8 30) f27D [.d false (.sl 1 codeBytes)] idT [] := dfr_of (N := 400) (s0 := s0L false) (s1 := s1L false) (by kernel_rfl) (by kernel_rfl) (by kernel_rfl) (fun ds => by kernel_rfl)
theorem run27t : DfrRun (K8 30) f27D [.d true (.sl 1 codeBytes)] idT [] := dfr_of (N := 400) (s0 := s0L true) (s1 := s1L true) (by kernel_rfl) (by kernel_rfl) (by kernel_rfl) (fun ds => by kernel_rfl)
def callA8 : FuncId → List V → Option (V × List Blk)
  | 21, [.d false (.str l)] => if l = textA then some (idT, []) else none
  | 27, [.d c (.sl 1 rows)] => if dRows rows codeBytes then some (idT, []) else none
  | f, vs => (K8 30).call f vs
def KA8 : Cx := ⟨callA8, (K8 30).eff, GT, fun _ => false, []⟩
theorem K8_glob (n : Nat) : (K8 n).glob = GT := cxM_glob KS8 400 T8 n
theorem KA8_sound : KA8.Sound Tryz.prog := by
  refine ⟨fun f args r news h => ?_, fun f args r news h => (by cases h), fun f args blks r blks' mv h => ?_⟩
  · simp only [KA8] at h ⊢
    unfold callA8 at h
    split at h
    · split at h
      · rename_i l hl
        subst hl
        simp only [Option.some.injEq, Prod.mk.injEq] at h
        obtain ⟨rfl, rfl⟩ := h
        have := dfr_sound mixedZ (K8_sound 30) f21D_ok quiet59 run21 (K8_dfr 30)
        rw [K8_glob] at this
        exact this
      · cases h
    · split at h
      · rename_i c rows hl
        obtain rfl := dRows_ok hl
        simp only [Option.some.injEq, Prod.mk.injEq] at h
        obtain ⟨rfl, rfl⟩ := h
        cases c with
        | false =>
          have := dfr_sound mixedZ (K8_sound 30) f27D_ok quiet76 run27f (K8_dfr 30)
          rw [K8_glob] at this
          exact this
        | true =>
          have := dfr_sound mixedZ (K8_sound 30) f27D_ok quiet76 run27t (K8_dfr 30)
          rw [K8_glob] at this
          exact this
      · cases h
    · have := (K8_sound 30).pure _ _ _ _ h
      rw [K8_glob] at this
      exact this
  · have := (K8_sound 30).eff f args blks r blks' mv h
    rw [K8_glob] at this
    exact this
theorem awake_run : runFunC 400 KA8 f11 [] [] = some (.bool true, [], []) := by kernel_rfl
theorem awake8 : callable Tryz.prog 11 = true ∧ PureCall Tryz.prog GT 11 [] (.bool true) [] := pure_sound mixedZ KA8_sound f11_ok (runFunC_ok awake_run)
end Go.Vm
end

section
namespace Go.Vm

def thn (x : Option (Ex × S)) (f : S → Option (Ex × S)) : Option (Ex × S) := match x with
  | some (.nrm, s) => f s
  | r => r
theorem thn_nrm (s : S) (f) : thn (some (.nrm, s)) f = f s := rfl
theorem thn_ret (s : S) (f) : thn (some (.ret, s)) f = some (.ret, s) := rfl
theorem thn_exit (n : Nat) (s : S) (f) : thn (some (.exit n, s)) f = some (.exit n, s) := rfl
theorem thn_goto (n : Nat) (s : S) (f) : thn (some (.goto n, s)) f = some (.goto n, s) := rfl
def brn (x : Option V) (f g : S → Option (Ex × S)) (s : S) : Option (Ex × S) := match x with
  | some (.d _ (.bool b)) => if b then f s else g s
  | _ => none
theorem brn_true (c) (f g) (s : S) : brn (some (.d c (.bool true))) f g s = f s := rfl
theorem brn_false (c) (f g) (s : S) : brn (some (.d c (.bool false))) f g s = g s := rfl
def blk (id : Nat) (x : Option (Ex × S)) : Option (Ex × S) := match x with
  | some (.exit i, s') => if i = id then some (.nrm, s') else some (.exit i, s')
  | r => r
theorem blk_nrm (id) (s : S) : blk id (some (.nrm, s)) = some (.nrm, s) := rfl
theorem blk_ret (id) (s : S) : blk id (some (.ret, s)) = some (.ret, s) := rfl
theorem blk_goto (id n) (s : S) : blk id (some (.goto n, s)) = some (.goto n, s) := rfl
theorem blk_exit (id i) (s : S) : blk id (some (.exit i, s)) = if i = id then some (.nrm, s) else some (.exit i, s) := rfl
def nrm (x : Option S) : Option (Ex × S) := x.map fun s => (.nrm, s)
theorem nrm_some (s : S) : nrm (some s) = some (.nrm, s) := rfl

theorem exec_skip (K s) : exec K .skip s = some (.nrm, s) := rfl
theorem exec_reg (K l s) : exec K (.reg l) s = nrm (evSegs K s l) := by
  simp only [exec, nrm]; cases evSegs K s l <;> rfl
theorem exec_seq (K a b s) : exec K (.seq a b) s = thn (exec K a s) (exec K b) := by
  simp only [exec, thn]; cases exec K a s with
  | none => rfl
  | some p => obtain ⟨e, s'⟩ := p; cases e <;> rfl
theorem exec_cond (K e a b s) : exec K (.cond e a b) s = brn (ev K s e) (exec K a) (exec K b) s := by
  simp only [exec, brn]
  rcases ev K s e with _ | v
  · rfl
  · cases v with
    | d c x => cases x <;> rfl
    | _ => rfl
theorem exec_block (K id c s) : exec K (.block id c) s = blk id (exec K c s) := by
  simp only [exec, blk]
  rcases exec K c s with _ | ⟨e, s'⟩
  · rfl
  · cases e <;> rfl
theorem exec_exit (K id s) : exec K (.exit id) s = some (.exit id, s) := rfl
theorem exec_goto (K l s) : exec K (.goto l) s = some (.goto l, s) := rfl
theorem exec_ret (K s) : exec K .ret s = some (.ret, s) := rfl
theorem exec_tidy (K m l s) : exec K (.tidy m l) s = nrm (tidyS m l s) := by
  simp only [exec, nrm]; cases tidyS m l s <;> rfl
theorem exec_own (K t k s) : exec K (.own t k) s = match look s.rho t with
    | some (.fs _ k' []) => if k' = k then some (.nrm, ⟨put s.rho t (.bsl s.nx 0 0), (s.nx, .dat true k []) :: s.heap, s.nx + 1, s.mv⟩) else some (.nrm, s)
    | _ => some (.nrm, s) := rfl

def o1 {α β : Type} (f : α → Option β) (x : Option α) : Option β := x.bind f
theorem o1_some {α β : Type} (f : α → Option β) (a : α) : o1 f (some a) = f a := rfl
def o2 {α β γ : Type} (f : α → β → Option γ) (x : Option α) (y : Option β) : Option γ := x.bind fun a => y.bind fun b => f a b
theorem o2_some {α β γ : Type} (f : α → β → Option γ) (a : α) (b : β) : o2 f (some a) (some b) = f a b := rfl
def o4 (f : V → V → V → V → Option V) (x y z w : Option V) : Option V := x.bind fun a => y.bind fun b => z.bind fun c => w.bind fun d => f a b c d
theorem o4_some (f : V → V → V → V → Option V) (a b c d : V) : o4 f (some a) (some b) (some c) (some d) = f a b c d := rfl

noncomputable def segs (K : Cx) (r : List Seg) (s : S) : Option S := evSegs K s r
theorem segs_nil (K s) : segs K [] s = some s := rfl
theorem evSegs_cons (K s g r) : evSegs K s (g :: r) = o1 (segs K r) (evSeg K s g) := by
  simp only [evSegs, o1, segs]; cases evSeg K s g <;> rfl
theorem segs_cons (K s g r) : segs K (g :: r) s = o1 (segs K r) (evSeg K s g) := evSegs_cons K s g r

def segL (K : Cx) (s : S) (g : Seg) (p : S × List Blk) : Option S :=
  match evLets K p.1 g.lets with
    | some l => if evChk K p.1 g.chk then match g.wr with
        | none => some ⟨l ++ restrict p.1.rho g.keep, addBlks s.heap s.nx p.2, p.1.nx, s.mv⟩
        | some (d, wr) => match wonB K p.1 g.wg with
          | some true => match evWr K p.1 (addBlks s.heap s.nx p.2) wr with
            | some (H, v, q, nx) => match d with
              | some d => some ⟨(d, v) :: lose q (l ++ restrict p.1.rho g.keep), loseH q H, nx, q.ids ++ s.mv⟩
              | none => some ⟨lose q (l ++ restrict p.1.rho g.keep), loseH q H, nx, q.ids ++ s.mv⟩
            | none => none
          | some false => some ⟨l ++ restrict p.1.rho g.keep, addBlks s.heap s.nx p.2, p.1.nx, s.mv⟩
          | none => none
      else none
    | none => none

def segW (K : Cx) (s s1 : S) (news : List Blk) (keep : List Nat) (wr : Option (Option Nat × Wr)) (won : Option Bool) (chk : Bool) (l : Option (List (Nat × V))) : Option S :=
  match l with
  | some l => if chk then match wr with
      | none => some ⟨l ++ restrict s1.rho keep, addBlks s.heap s.nx news, s1.nx, s.mv⟩
      | some (d, wr) => match won with
        | some true => match evWr K s1 (addBlks s.heap s.nx news) wr with
          | some (H, v, q, nx) => match d with
            | some d => some ⟨(d, v) :: lose q (l ++ restrict s1.rho keep), loseH q H, nx, q.ids ++ s.mv⟩
            | none => some ⟨lose q (l ++ restrict s1.rho keep), loseH q H, nx, q.ids ++ s.mv⟩
          | none => none
        | some false => some ⟨l ++ restrict s1.rho keep, addBlks s.heap s.nx news, s1.nx, s.mv⟩
        | none => none
    else none
  | none => none

theorem evSeg_eq (K s mks lets chk wr keep cnt aux wg) : evSeg K s ⟨mks, lets, chk, wr, keep, cnt, aux, wg, []⟩ = o1 (segL K s ⟨[], lets, chk, wr, keep, cnt, [], wg, []⟩) (evMks K s mks) := by
  have h : ∀ mv H1, lateOk K s mv H1 ⟨mks, lets, chk, wr, keep, cnt, aux, wg, []⟩ := fun mv H1 e he => by simp at he
  have h2 : evSeg K s ⟨mks, lets, chk, wr, keep, cnt, aux, wg, []⟩ = evSeg0 K s ⟨mks, lets, chk, wr, keep, cnt, aux, wg, []⟩ := by
    unfold evSeg
    split
    · rename_i s' he; rw [if_pos (h _ _), he]
    · rename_i he; rw [he]
  rw [h2]
  simp only [evSeg0, o1, segL]; cases evMks K s mks <;> rfl
theorem segL_eq (K s mks lets chk wr keep cnt aux wg late s1 news) : segL K s ⟨mks, lets, chk, wr, keep, cnt, aux, wg, late⟩ (s1, news) = segW K s s1 news keep wr (wonB K s1 wg) (evChk K s1 chk) (evLets K s1 lets) := by
  simp only [segL, segW]
def segO (s : S) (d : Option Nat) (ρ : List (Nat × V)) (x : Option (List (Nat × Blk) × V × Lost × Nat)) : Option S := match x with
  | some (H, v, q, nx) => match d with
    | some d => some ⟨(d, v) :: lose q ρ, loseH q H, nx, q.ids ++ s.mv⟩
    | none => some ⟨lose q ρ, loseH q H, nx, q.ids ++ s.mv⟩
  | none => none
theorem segO_some (s d ρ H v q nx) : segO s (some d) ρ (some (H, v, q, nx)) = some ⟨(d, v) :: lose q ρ, loseH q H, nx, q.ids ++ s.mv⟩ := rfl
theorem segO_none (s ρ H v q nx) : segO s none ρ (some (H, v, q, nx)) = some ⟨lose q ρ, loseH q H, nx, q.ids ++ s.mv⟩ := rfl
theorem segW_none (K s s1 news keep won l) : segW K s s1 news keep none won true (some l) = some ⟨l ++ restrict s1.rho keep, addBlks s.heap s.nx news, s1.nx, s.mv⟩ := rfl
theorem segW_some (K s s1 news keep d wr l) : segW K s s1 news keep (some (d, wr)) (some true) true (some l) = segO s d (l ++ restrict s1.rho keep) (evWr K s1 (addBlks s.heap s.nx news) wr) := by
  simp only [segW, segO, if_true]
theorem segW_off (K s s1 news keep d wr l) : segW K s s1 news keep (some (d, wr)) (some false) true (some l) = some ⟨l ++ restrict s1.rho keep, addBlks s.heap s.nx news, s1.nx, s.mv⟩ := rfl

theorem evMks_nil (K s) : evMks K s [] = some (s, []) := rfl
def mksA (K : Cx) (s : S) (d : Nat) (r : List (Nat × Mk)) (p : V × List Blk) : Option (S × List Blk) :=
  match evMks K ⟨put s.rho d p.1, s.heap, s.nx + p.2.length, s.mv⟩ r with
  | some (s', more) => some (s', p.2 ++ more)
  | none => none
def mksB (news : List Blk) (p : S × List Blk) : Option (S × List Blk) := some (p.1, news ++ p.2)
theorem mksB_eq (news s' more) : mksB news (s', more) = some (s', news ++ more) := rfl
theorem evMks_cons (K s d m r) : evMks K s ((d, m) :: r) = o1 (mksA K s d r) (evMk K s m) := by
  simp only [evMks, o1, mksA]; cases evMk K s m <;> rfl
theorem mksA_eq (K s d r v news) : mksA K s d r (v, news) = o1 (mksB news) (evMks K ⟨put s.rho d v, s.heap, s.nx + news.length, s.mv⟩ r) := by
  simp only [mksA, o1]; cases evMks K ⟨put s.rho d v, s.heap, s.nx + news.length, s.mv⟩ r <;> rfl

theorem evLets_nil (K s) : evLets K s [] = some [] := rfl
def letC (d : Nat) (v : V) (l : List (Nat × V)) : Option (List (Nat × V)) := some ((d, v) :: l)
theorem letC_eq (d v l) : letC d v l = some ((d, v) :: l) := rfl
theorem evLets_cons (K s d e r) : evLets K s ((d, e) :: r) = o2 (letC d) (ev K s e) (evLets K s r) := by
  simp only [evLets, o2, letC]; cases ev K s e <;> cases evLets K s r <;> rfl
theorem evChk_nil (K s) : evChk K s [] = true := rfl
theorem evChk_cons (K s e r) : evChk K s (e :: r) = ((ev K s e).isSome && evChk K s r) := rfl
theorem wonB_nil (K s) : wonB K s [] = some true := rfl

theorem e_sl (K s t) : ev K s (.sl t) = look s.rho t := rfl
theorem e_int (K s k n) : ev K s (.int k n) = some (.int k n) := rfl
theorem e_bool (K s b) : ev K s (.bool b) = some (.bool b) := rfl
theorem e_str (K s l) : ev K s (.str l) = some (.str l) := rfl
theorem e_nilsl (K s k) : ev K s (.nilsl k) = some (.fs true k []) := rfl
theorem e_nilif (K s) : ev K s .nilif = some (.d false .nilif) := rfl
theorem e_un (K s o a) : ev K s (.un o a) = o1 (evUn o) (ev K s a) := by
  simp only [ev, o1]; cases ev K s a <;> rfl
theorem e_bin (K s o a b) : ev K s (.bin o a b) = o2 (evBin o) (ev K s a) (ev K s b) := by
  simp only [ev, o2]; cases ev K s a <;> cases ev K s b <;> rfl
theorem e_eqs (K s n g ks a b) : ev K s (.eqs n g ks a b) = o2 (evEqs n g ks) (ev K s a) (ev K s b) := by
  simp only [ev, o2]; cases ev K s a <;> cases ev K s b <;> rfl
def andV (x y : Option V) : Option V := match x, y with
  | some (.d _ (.bool x)), some (.d _ (.bool y)) => some (.bool (x && y))
  | some (.d _ (.bool false)), _ => some (.bool false)
  | _, _ => none
theorem andV_some (c c' x y) : andV (some (.d c (.bool x))) (some (.d c' (.bool y))) = some (.bool (x && y)) := by cases x <;> rfl
theorem andV_false (c y) : andV (some (.d c (.bool false))) y = some (.bool false) := by
  unfold andV; split <;> simp_all
theorem e_and (K s a b) : ev K s (.and a b) = andV (ev K s a) (ev K s b) := rfl
def orV (x y : Option V) : Option V := match x, y with
  | some (.d _ (.bool x)), some (.d _ (.bool y)) => some (.bool (x || y))
  | some (.d _ (.bool true)), _ => some (.bool true)
  | _, _ => none
theorem orV_some (c c' x y) : orV (some (.d c (.bool x))) (some (.d c' (.bool y))) = some (.bool (x || y)) := by cases x <;> rfl
theorem orV_true (c y) : orV (some (.d c (.bool true))) y = some (.bool true) := by
  unfold orV; split <;> simp_all
theorem e_or (K s a b) : ev K s (.or a b) = orV (ev K s a) (ev K s b) := rfl
def condV (x a b : Option V) : Option V := match x with
  | some (.d _ (.bool x)) => if x then a else b
  | _ => none
theorem condV_some (c x a b) : condV (some (.d c (.bool x))) a b = if x then a else b := rfl
theorem e_cond (K s c a b) : ev K s (.cond c a b) = condV (ev K s c) (ev K s a) (ev K s b) := rfl
theorem e_fa (K s o a) : ev K s (.fa o a) = o1 (evFa o) (ev K s a) := by
  simp only [ev, o1]; cases ev K s a <;> rfl
theorem e_ia (K s k a b) : ev K s (.ia k a b) = o2 (evIa s.heap k) (ev K s a) (ev K s b) := by
  simp only [ev, o2]; cases ev K s a <;> cases ev K s b <;> rfl
theorem e_aa (K s l k a b) : ev K s (.aa l k a b) = o2 (evAa l k) (ev K s a) (ev K s b) := by
  simp only [ev, o2]; cases ev K s a <;> cases ev K s b <;> rfl
theorem e_ix (K s a b) : ev K s (.ix a b) = o2 evIx (ev K s a) (ev K s b) := by
  simp only [ev, o2]; cases ev K s a <;> cases ev K s b <;> rfl
theorem e_ld (K s n g a) : ev K s (.ld n g a) = o1 (evLd s.heap n g) (ev K s a) := by
  simp only [ev, o1]; cases ev K s a <;> rfl
theorem e_ext (K s i a) : ev K s (.ext i a) = o1 (evExt i) (ev K s a) := by
  simp only [ev, o1]; cases ev K s a <;> rfl
theorem e_len (K s b a) : ev K s (.len b a) = o1 (evLen b) (ev K s a) := by
  simp only [ev, o1]; cases ev K s a <;> rfl
def evCutS (H : List (Nat × Blk)) (str bl bh bm : Bool) (k : Nat) (v l h m : V) : Option V := if str == v.isStr then evCut H bl bh bm k v l h m else none
theorem e_cut (K s str bl bh bm k a lo hi mx) : ev K s (.cut str bl bh bm k a lo hi mx) = o4 (evCutS s.heap str bl bh bm k) (ev K s a) (ev K s lo) (ev K s hi) (ev K s mx) := by
  simp only [ev, o4, evCutS]; cases ev K s a <;> cases ev K s lo <;> cases ev K s hi <;> cases ev K s mx <;> rfl
def aggV : V → Option V
  | .tup vs => some (.agg vs)
  | _ => none
theorem aggV_tup (vs) : aggV (.tup vs) = some (.agg vs) := rfl
theorem e_agg (K s a) : ev K s (.agg a) = o1 aggV (ev K s a) := by
  simp only [ev, o1]; cases ev K s a with
  | none => rfl
  | some v => cases v <;> rfl
theorem e_set (K s o n a b) : ev K s (.set o n a b) = o2 (evSet o n) (ev K s a) (ev K s b) := by
  simp only [ev, o2]; cases ev K s a <;> cases ev K s b <;> rfl
theorem e_conv (K s k a) : ev K s (.conv k a) = o1 (evConv k) (ev K s a) := by
  simp only [ev, o1]; cases ev K s a <;> rfl
def callV (K : Cx) (H : List (Nat × Blk)) (f : FuncId) : V → Option V
  | .tup vs => evCall K H f vs
  | _ => none
theorem callV_tup (K H f vs) : callV K H f (.tup vs) = evCall K H f vs := rfl
theorem e_call (K s f a) : ev K s (.call f a) = o1 (callV K s.heap f) (ev K s a) := by
  simp only [ev, o1]; cases ev K s a with
  | none => rfl
  | some v => cases v <;> rfl
def callvV (K : Cx) (H : List (Nat × Blk)) : V → V → Option V
  | .fn f caps, .tup vs => evCall K H f (vs ++ caps)
  | _, _ => none
theorem callvV_tup (K H f caps vs) : callvV K H (.fn f caps) (.tup vs) = evCall K H f (vs ++ caps) := rfl
theorem e_callv (K s f a) : ev K s (.callv f a) = o2 (callvV K s.heap) (ev K s f) (ev K s a) := by
  simp only [ev, o2]; cases ev K s f with
  | none => rfl
  | some v => cases ev K s a with
    | none => cases v <;> rfl
    | some u => cases v <;> cases u <;> rfl
theorem e_nil (K s) : ev K s .nil = some (.tup []) := rfl
def consV (v : V) : V → Option V
  | .tup vs => some (.tup (v :: vs))
  | _ => none
theorem consV_tup (v vs) : consV v (.tup vs) = some (.tup (v :: vs)) := rfl
theorem e_cons (K s a b) : ev K s (.cons a b) = o2 consV (ev K s a) (ev K s b) := by
  simp only [ev, o2]; cases ev K s a with
  | none => rfl
  | some v => cases ev K s b with
    | none => rfl
    | some u => cases u <;> rfl

def callR (own ps : Bool) (x : Option (V × List Blk)) : Option V := match x with
  | some (r, []) => if ps then some r.renew else if own && !r.new then none else some r
  | some (r, b :: bs) => if own then none else view (indexed (b :: bs)) r
  | _ => none
theorem callR_some (own r) : callR own false (some (r, [])) = if own && !r.new then none else some r := rfl
theorem callR_pass (own r) : callR own true (some (r, [])) = some r.renew := rfl
def callA (K : Cx) (f : FuncId) (own ps : Bool) (ws : List V) : Option V := callR own ps (K.call f ws)
theorem callA_eq (K f own ps ws) : callA K f own ps ws = callR own ps (K.call f ws) := rfl
theorem passes_eq (C : Cx) (f vs) : passes C f vs = (vs.all V.new && !vs.all V.flatV && C.loc f) := rfl
theorem evCall_eq (K H f vs) : evCall K H f vs = o1 (callA K f (vs.any V.own) (passes K f vs)) (mapO (view H) vs) := by
  unfold evCall
  cases mapO (view H) vs with
  | none => rfl
  | some ws =>
    show _ = callR (vs.any V.own) (passes K f vs) (K.call f ws)
    cases hk : K.call f ws with
    | none => simp [hk, callR]
    | some p => obtain ⟨r, news⟩ := p; cases news <;> simp [hk, callR]
def mapC {β : Type} (b : β) (bs : List β) : Option (List β) := some (b :: bs)
theorem mapC_eq {β : Type} (b : β) (bs) : mapC b bs = some (b :: bs) := rfl
theorem mapO_nil {α β : Type} (f : α → Option β) : mapO f [] = some [] := rfl
theorem mapO_cons {α β : Type} (f : α → Option β) (a r) : mapO f (a :: r) = o2 mapC (f a) (mapO f r) := by
  simp only [mapO, o2, mapC]; cases f a <;> cases mapO f r <;> rfl

def mkBox (nx : Nat) (v : V) : Option (V × List Blk) := if v.laid then some (.ptr nx 0 0, [.mix v.cells.length [v.cells]]) else none
theorem evMk_box (K s e) : evMk K s (.box e) = o1 (mkBox s.nx) (ev K s e) := by
  simp only [evMk, o1, mkBox]; cases ev K s e <;> rfl
def mkMks (nx k : Nat) (z l c : V) : Option (V × List Blk) := match z, l, c with
  | .tup zs, .d _ (.int _ n), .d _ (.int _ c) => match mapO asD zs with
    | some ds => if 0 ≤ n ∧ n ≤ c ∧ c ≤ most ∧ ds.length = k ∧ 0 < k ∧ ds.all D.flat then some (.bsl nx 0 n.toNat, [.dat true k (List.replicate n.toNat ds)]) else none
    | none => none
  | _, _, _ => none
def o3 {β : Type} (f : V → V → V → Option β) (x y z : Option V) : Option β := x.bind fun a => y.bind fun b => z.bind fun c => f a b c
theorem o3_some {β : Type} (f : V → V → V → Option β) (a b c : V) : o3 f (some a) (some b) (some c) = f a b c := rfl
theorem evMk_mks (K s k z l c) : evMk K s (.mks k z l c) = o3 (mkMks s.nx k) (ev K s z) (ev K s l) (ev K s c) := by
  simp only [evMk, o3]
  cases ev K s z with
  | none => rfl
  | some z => cases ev K s l with
    | none => cases z <;> rfl
    | some l => cases ev K s c with
      | none =>
        cases z <;> try rfl
        cases l <;> try rfl
        rename_i d; cases d <;> rfl
      | some c =>
        cases z <;> try rfl
        cases l <;> try rfl
        rename_i d; cases d <;> try rfl
        cases c <;> try rfl
        rename_i d; cases d <;> rfl
def mkLits (nx k : Nat) : V → Option (V × List Blk)
  | .tup vs => if vs.all (fun v => v.laid && v.cells.length == k) && decide (0 < k) then some (.bsl nx 0 vs.length, [mkBlk k (vs.map V.cells)]) else none
  | _ => none
theorem mkLits_tup (nx k vs) : mkLits nx k (.tup vs) = if vs.all (fun v => v.laid && v.cells.length == k) && decide (0 < k) then some (.bsl nx 0 vs.length, [mkBlk k (vs.map V.cells)]) else none := rfl
theorem evMk_lits (K s k e) : evMk K s (.lits k e) = o1 (mkLits s.nx k) (ev K s e) := by
  simp only [evMk, o1]; cases ev K s e with
  | none => rfl
  | some v => cases v <;> rfl
def mkOR (nx : Nat) (own : Bool) (x : Option (V × List Blk)) : Option (V × List Blk) := match x with
  | some (r, news) => if news.all Blk.plain && (!own || (r.new2 && news.all Blk.new)) then some (r.shift nx, news) else if news.all Blk.lays && (!own || (r.new2 && news.all Blk.newM)) then some (r.shift nx, news.map (Blk.shift nx)) else none
  | none => none
theorem mkOR_some (nx own r news) : mkOR nx own (some (r, news)) = if news.all Blk.plain && (!own || (r.new2 && news.all Blk.new)) then some (r.shift nx, news) else if news.all Blk.lays && (!own || (r.new2 && news.all Blk.newM)) then some (r.shift nx, news.map (Blk.shift nx)) else none := rfl
def mkOA (K : Cx) (nx : Nat) (f : FuncId) (own : Bool) (ws : List V) : Option (V × List Blk) := mkOR nx own (K.call f ws)
theorem mkOA_eq (K nx f own ws) : mkOA K nx f own ws = mkOR nx own (K.call f ws) := rfl
def mkO (K : Cx) (s : S) (f : FuncId) : V → Option (V × List Blk)
  | .tup vs => o1 (mkOA K s.nx f (vs.any V.own)) (mapO (view s.heap) vs)
  | _ => none
theorem mkO_tup (K s f vs) : mkO K s f (.tup vs) = o1 (mkOA K s.nx f (vs.any V.own)) (mapO (view s.heap) vs) := rfl
theorem evMk_callo (K s f e) : evMk K s (.callo f e) = o1 (mkO K s f) (ev K s e) := by
  simp only [evMk, o1]; cases ev K s e with
  | none => rfl
  | some v =>
    cases v <;> try rfl
    rename_i vs
    simp only [Option.bind_some, mkO, o1]
    cases mapO (view s.heap) vs with
    | none => rfl
    | some ws => simp only [Option.bind_some, mkOA, mkOR]; cases K.call f ws <;> rfl

def wrStore (H : List (Nat × Blk)) (nx n : Nat) (a x : V) : Option (List (Nat × Blk) × V × Lost × Nat) := match a with
  | .ptr b i j => if x.laid && x.cells.length == n then match look H b with
        | some blk => match blk.set i j x.cells with
          | some blk' => some (put H b blk', .junk, .none, nx)
          | none => none
        | none => none
      else none
  | _ => none
def stB (H : List (Nat × Blk)) (nx b : Nat) (x : Option Blk) : Option (List (Nat × Blk) × V × Lost × Nat) := x.bind fun k => some (put H b k, .junk, .none, nx)
theorem stB_some (H nx b k) : stB H nx b (some k) = some (put H b k, .junk, .none, nx) := rfl
def stA (H : List (Nat × Blk)) (nx b i j : Nat) (cs : List V) (k : Blk) : Option (List (Nat × Blk) × V × Lost × Nat) := stB H nx b (k.set i j cs)
theorem stA_eq (H nx b i j cs k) : stA H nx b i j cs k = stB H nx b (k.set i j cs) := rfl
theorem wrStore_ptr (H nx n b i j x) : wrStore H nx n (.ptr b i j) x = if x.laid && x.cells.length == n then o1 (stA H nx b i j x.cells) (look H b) else none := by
  simp only [wrStore]
  split
  · cases look H b with
    | none => rfl
    | some k => simp only [o1, Option.bind_some, stA, stB]; cases k.set i j x.cells <;> rfl
  · rfl
theorem evWr_store (K s H n a v) : evWr K s H (.store n a v) = o2 (wrStore H s.nx n) (ev K s a) (ev K s v) := by
  simp only [evWr, o2]
  cases ev K s a with
  | none => rfl
  | some a => cases ev K s v with
    | none => cases a <;> rfl
    | some v => cases a <;> rfl
def wrApp (s : S) (H : List (Nat × Blk)) (k : Nat) (x : V) (rows : Rows) : Option (List (Nat × Blk) × V × Lost × Nat) := match x with
  | .bsl id i len => match look H id with
    | some blk => if i = 0 ∧ blk.n = len ∧ blk.k = k ∧ len + rows.n ≤ most then some (put H id (blk.app rows), .bsl id 0 (len + rows.n), .some id, s.nx) else none
    | none => none
  | .fs _ k' [] => if k' = k ∧ rows.n ≤ most then some ((s.nx, rows.blk k) :: H, .bsl s.nx 0 rows.n, .none, s.nx + 1) else none
  | _ => none
def apA (s : S) (H : List (Nat × Blk)) (k id i len : Nat) (rows : Rows) (blk : Blk) : Option (List (Nat × Blk) × V × Lost × Nat) :=
  if i = 0 ∧ blk.n = len ∧ blk.k = k ∧ len + rows.n ≤ most then some (put H id (blk.app rows), .bsl id 0 (len + rows.n), .some id, s.nx) else none
theorem wrApp_bsl (s H k id i len rows) : wrApp s H k (.bsl id i len) rows = o1 (apA s H k id i len rows) (look H id) := by
  simp only [wrApp, o1, apA]; cases look H id <;> rfl
theorem wrApp_fs (s H k c rows) (h : rows.n ≤ most) : wrApp s H k (.fs c k []) rows = some ((s.nx, rows.blk k) :: H, .bsl s.nx 0 rows.n, .none, s.nx + 1) := if_pos ⟨rfl, h⟩
theorem evWr_app (K s H k a b) : evWr K s H (.app k a b) = o2 (wrApp s H k) (ev K s a) (o1 (rowsOf H k) (ev K s b)) := by
  simp only [evWr, o2, o1]
  cases ev K s a with
  | none => rfl
  | some x => cases ev K s b with
    | none => cases x <;> rfl
    | some y =>
      simp only [Option.bind_some]
      cases rowsOf H k y <;> rfl
def wrEff (K : Cx) (nx : Nat) (H : List (Nat × Blk)) (f : FuncId) : V → Option (List (Nat × Blk) × V × Lost × Nat)
  | .tup vs => match calleeOf f vs with
    | some (g, ws) => evEff K nx H g ws (reachB H (refN H + 64) [] (refsL ws))
    | none => none
  | _ => none
theorem wrEff_tup {K nx H f vs} (h : (f == 4294967295) = false) : wrEff K nx H f (.tup vs) = evEff K nx H f vs (reachB H (refN H + 64) [] (refsL vs)) := by
  simp only [wrEff, calleeOf, dynF, h, Bool.false_eq_true, if_false]
theorem evWr_calle (K s H f e) : evWr K s H (.calle f e) = o1 (wrEff K s.nx H f) (ev K s e) := by
  simp only [evWr, o1]; cases ev K s e with
  | none => rfl
  | some v => cases v with
    | tup vs => rfl
    | _ => rfl

def effR (nx : Nat) (H : List (Nat × Blk)) (bs : List Nat) (p : V × List Blk × List Nat) : Option (List (Nat × Blk) × V × Lost × Nat) :=
  if bs.length ≤ p.2.1.length then some (putAll (loseM (p.2.2.map (backB bs nx)) H) (backB bs nx) 0 p.2.1, p.1.ren (backB bs nx), .many (p.2.2.map (backB bs nx)), nx + (p.2.1.length - bs.length)) else none
theorem effR_eq (nx H bs r b m) : effR nx H bs (r, b, m) = if bs.length ≤ b.length then some (putAll (loseM (m.map (backB bs nx)) H) (backB bs nx) 0 b, r.ren (backB bs nx), .many (m.map (backB bs nx)), nx + (b.length - bs.length)) else none := rfl
def effA (K : Cx) (nx : Nat) (H : List (Nat × Blk)) (f : FuncId) (vs : List V) (bs : List Nat) (blks : List Blk) : Option (List (Nat × Blk) × V × Lost × Nat) := o1 (effR nx H bs) (K.eff f (vs.map fun v => v.dim.ren bs.idxOf) blks)
theorem effA_eq (K nx H f vs bs blks) : effA K nx H f vs bs blks = o1 (effR nx H bs) (K.eff f (vs.map fun v => v.dim.ren bs.idxOf) blks) := rfl
theorem evEff_eq (K nx H f vs bs) : evEff K nx H f vs bs = if decide bs.Nodup && vs.all (V.within bs.contains) && closedB H bs then o1 (effA K nx H f vs bs) (handed H bs) else none := by
  unfold evEff
  split
  · cases handed H bs with
    | none => rfl
    | some blks =>
      simp only [o1_some, effA]
      cases K.eff f (vs.map fun v => v.dim.ren bs.idxOf) blks with
      | none => rfl
      | some p => obtain ⟨r, b, m⟩ := p; rfl
  · rfl
theorem backB_eq (bs nx i) : backB bs nx i = (bs[i]?).getD (nx + (i - bs.length)) := by
  unfold backB; cases bs[i]? <;> rfl
def wonV (b : Bool) : Option V → Option Bool
  | some (.d _ (.bool x)) => some (x == b)
  | _ => none
theorem wonV_some (b c x) : wonV b (some (.d c (.bool x))) = some (x == b) := rfl
theorem wonB_one (K s e b) : wonB K s [(e, b)] = wonV b (ev K s e) := by
  simp only [wonB, wonV]
  cases ev K s e with
  | none => rfl
  | some v => cases v with
    | d c x => cases x <;> rfl
    | _ => rfl
theorem look_nil {α : Type} (t) : look ([] : List (Nat × α)) t = none := rfl
def lookB {α : Type} (v : α) (r : List (Nat × α)) (t : Nat) : Bool → Option α
  | true => some v
  | false => look r t
theorem lookB_true {α : Type} (v : α) (r t) : lookB v r t true = some v := rfl
theorem lookB_false {α : Type} (v : α) (r t) : lookB v r t false = look r t := rfl
theorem look_cons {α : Type} (k v r t) : look ((k, v) :: r : List (Nat × α)) t = lookB v r t (k == t) := by
  simp only [look]
  by_cases h : k = t
  · simp [h, lookB]
  · have : (k == t) = false := by simpa using h
    simp [h, this, lookB]
def putB {α : Type} (k : Nat) (u : α) (r : List (Nat × α)) (t : Nat) (v : α) : Bool → List (Nat × α)
  | true => (t, v) :: r
  | false => (k, u) :: put r t v
theorem putB_true {α : Type} (k : Nat) (u : α) (r t v) : putB k u r t v true = (t, v) :: r := rfl
theorem putB_false {α : Type} (k : Nat) (u : α) (r t v) : putB k u r t v false = (k, u) :: put r t v := rfl
theorem put_nil {α : Type} (t v) : put ([] : List (Nat × α)) t v = [(t, v)] := rfl
theorem put_cons {α : Type} (k u r t v) : put ((k, u) :: r : List (Nat × α)) t v = putB k u r t v (k == t) := by
  simp only [put]
  by_cases h : k = t
  · simp [h, putB]
  · have : (k == t) = false := by simpa using h
    simp [h, this, putB]
def resC {α : Type} (l : List (Nat × α)) (t : Nat) (r : List Nat) (x : Option α) : List (Nat × α) := match x with
  | some v => (t, v) :: restrict l r
  | none => restrict l r
theorem resC_some {α : Type} (l : List (Nat × α)) (t r v) : resC l t r (some v) = (t, v) :: restrict l r := rfl
theorem restrict_nil {α : Type} (l : List (Nat × α)) : restrict l [] = [] := rfl
theorem restrict_cons {α : Type} (l : List (Nat × α)) (t r) : restrict l (t :: r) = resC l t r (look l t) := rfl

noncomputable def endF (K : Cx) (res : List E) (own : Bool) (m : Nat) (x : Option (Ex × S)) : Option (V × List Blk × List Nat) := match x with
  | some (.nrm, s) => o1 (finish m own s) ((mapO (ev K s) res).map oneOr)
  | some (.ret, s) => o1 (finish m own s) ((mapO (ev K s) res).map oneOr)
  | _ => none
theorem endF_ret (K res own m s) : endF K res own m (some (.ret, s)) = o1 (finish m own s) ((mapO (ev K s) res).map oneOr) := rfl
theorem runFun_eq (K body res own args blks) : runFun K ⟨body, res, own⟩ args blks = endF K res own blks.length (exec K body (startS args blks)) := by
  unfold runFun endF
  simp only
  cases exec K body (startS args blks) with
  | none => rfl
  | some p =>
    obtain ⟨e, s⟩ := p
    cases e <;> try rfl
    all_goals
      simp only [o1]
      cases mapO (ev K s) res <;> rfl

theorem loopF_unfold (f : S → Option (Ex × S)) (s : S) : loopF f s = match f s with
    | some (.nrm, s') => loopF f s'
    | r => r := by
  have key : ∀ r, loopF f s = some r → (match f s with | some (.nrm, s') => loopF f s' | r => r) = some r := by
    intro r h
    unfold loopF at h
    split at h
    · rename_i hex
      generalize hex.choose = n at h
      cases n with
      | zero => simp [iter] at h
      | succ n =>
        simp only [iter] at h
        cases hf : f s with
        | none => simp [hf] at h
        | some p =>
          obtain ⟨e, s'⟩ := p
          cases e with
          | nrm => simp only [hf] at h ⊢; exact loopF_of h
          | _ => simpa [hf] using h
    · cases h
  have back : ∀ r, (match f s with | some (.nrm, s') => loopF f s' | r => r) = some r → loopF f s = some r := by
    intro r h
    cases hf : f s with
    | none => simp [hf] at h
    | some p =>
      obtain ⟨e, s'⟩ := p
      cases e with
      | nrm =>
        simp only [hf] at h
        have h0 := h
        unfold loopF at h
        split at h
        · rename_i hex
          exact loopF_of (n := hex.choose + 1) (by simp only [iter, hf]; exact h)
        · cases h
      | exit id => exact loopF_of (n := 1) (by simpa [iter, hf] using h)
      | goto id => exact loopF_of (n := 1) (by simpa [iter, hf] using h)
      | ret => exact loopF_of (n := 1) (by simpa [iter, hf] using h)
  cases h1 : loopF f s with
  | some r => exact (key r h1).symm
  | none =>
    cases h2 : (match f s with | some (.nrm, s') => loopF f s' | r => r) with
    | none => rfl
    | some r => rw [back r h2] at h1; cases h1

noncomputable def lp (K : Cx) (m : Nat) (sl : List Nat) (body : C) (s : S) : Option (Ex × S) := match exec K body s with
  | some (.nrm, s') => exec K (.loop (.seq (.tidy m sl) body)) s'
  | r => r
noncomputable def lpT (K : Cx) (m : Nat) (sl : List Nat) (body : C) (x : Option (Ex × S)) : Option (Ex × S) := match x with
  | some (.nrm, s') => o1 (lp K m sl body) (tidyS m sl s')
  | r => r
theorem lpT_nrm (K m sl body s) : lpT K m sl body (some (.nrm, s)) = o1 (lp K m sl body) (tidyS m sl s) := rfl
theorem lpT_exit (K m sl body n s) : lpT K m sl body (some (.exit n, s)) = some (.exit n, s) := rfl
theorem lpT_ret (K m sl body s) : lpT K m sl body (some (.ret, s)) = some (.ret, s) := rfl
theorem lpT_goto (K m sl body n s) : lpT K m sl body (some (.goto n, s)) = some (.goto n, s) := rfl

theorem exec_loop (K m sl body s) : exec K (.loop (.seq (.tidy m sl) body)) s = o1 (lp K m sl body) (tidyS m sl s) := by
  show loopF (exec K (.seq (.tidy m sl) body)) s = _
  rw [loopF_unfold, exec_seq, exec_tidy]
  cases tidyS m sl s with
  | none => rfl
  | some s' =>
    rw [nrm_some, thn_nrm, o1_some]
    rfl
theorem lp_eq0 (K m sl body s) : lp K m sl body s = lpT K m sl body (exec K body s) := by
  unfold lp lpT
  cases exec K body s with
  | none => rfl
  | some p =>
    obtain ⟨e, s'⟩ := p
    cases e <;> try rfl
    exact exec_loop K m sl body s'
theorem lp_un {K m sl body body' s} (h : body = body') : lp K m sl body s = lpT K m sl body (exec K body' s) := by
  subst h; exact lp_eq0 K m sl body s

end Go.Vm
end

section
namespace Go.Vm

def nth {α : Type} [Inhabited α] (l : List α) (n : Int) : α := l.getD n.toNat default

theorem nth_nat {α : Type} [Inhabited α] (l : List α) (i : Nat) : nth l (i : Int) = l.getD i default := by simp [nth]
theorem nth_get? {α : Type} [Inhabited α] {l : List α} {n : Int} (h : n.toNat < l.length) : l[n.toNat]? = some (nth l n) := by
  unfold nth; rw [List.getD_eq_getElem?_getD, List.getElem?_eq_getElem h]; rfl
theorem nth_getElem {α : Type} [Inhabited α] {l : List α} {n : Int} (h : n.toNat < l.length) : l[n.toNat] = nth l n := by
  have := nth_get? h
  rw [List.getElem?_eq_getElem h] at this
  exact Option.some.inj this
theorem drop_nth {α : Type} [Inhabited α] {l : List α} {i : Nat} (h : i < l.length) : l.drop i = nth l (i : Int) :: l.drop (i + 1) := by
  rw [List.drop_eq_getElem_cons h, ← nth_getElem (n := (i : Int)) (by simpa using h)]
  simp

def tidyB (m : Nat) (H : List (Nat × Blk)) (mv : List Nat) (ρ : List (Nat × V)) (bs : List Nat) : Option S :=
  if decide bs.Nodup && decide (bs.take m = List.range m) && ρ.all (fun p => p.2.within bs.contains) && closedB H bs then
    some ⟨ρ.map fun p => (p.1, p.2.ren bs.idxOf), bs.zipIdx.filterMap fun p => (look H p.1).map fun k => (p.2, k.ren bs.idxOf), bs.length, (List.range m).filter mv.contains⟩
  else none
def tidyA (m : Nat) (H : List (Nat × Blk)) (mv : List Nat) (ρ : List (Nat × V)) : Option S := tidyB m H mv ρ (reachB H (refN H + 64) [] (List.range m ++ refsL (ρ.map (·.2))))
theorem tidyS_a (m slots ρ H nx mv) : tidyS m slots ⟨ρ, H, nx, mv⟩ = tidyA m H mv (restrict ρ slots) := rfl
theorem tidyA_eq (m H mv ρ) : tidyA m H mv ρ = tidyB m H mv ρ (reachB H (refN H + 64) [] (List.range m ++ refsL (ρ.map (·.2)))) := rfl
theorem tidyB_eq (m H mv ρ bs) : tidyB m H mv ρ bs = if decide bs.Nodup && decide (bs.take m = List.range m) && ρ.all (fun p => p.2.within bs.contains) && closedB H bs then
    some ⟨ρ.map fun p => (p.1, p.2.ren bs.idxOf), bs.zipIdx.filterMap fun p => (look H p.1).map fun k => (p.2, k.ren bs.idxOf), bs.length, (List.range m).filter mv.contains⟩
  else none := rfl
theorem reachB_nil (H n done) : reachB H n done [] = done := by cases n <;> rfl
def reachC (H : List (Nat × Blk)) (n : Nat) (done : List Nat) (b : Nat) (todo : List Nat) : Bool → List Nat
  | true => reachB H n done todo
  | false => reachB H n (done ++ [b]) (todo ++ (match look H b with | some k => k.refs | none => []))
def refsO : Option Blk → List Nat
  | some k => k.refs
  | none => []
theorem refsO_some (k) : refsO (some k) = k.refs := rfl
theorem reachB_cons (H n done b todo) : reachB H (n + 1) done (b :: todo) = reachC H n done b todo (done.contains b) := by
  simp only [reachB]; cases done.contains b <;> rfl
theorem reachC_true (H n done b todo) : reachC H n done b todo true = reachB H n done todo := rfl
theorem reachC_false (H n done b todo) : reachC H n done b todo false = reachB H n (done ++ [b]) (todo ++ refsO (look H b)) := by
  simp only [reachC, refsO]

theorem evIa_d (H k c rows c' kd) (n : Int) : evIa H k (.d c (.sl k rows)) (.d c' (.int kd n)) = if 0 ≤ n then (rows[n.toNat]?).map (fun row => .d c (.ptr row)) else none := by
  simp only [evIa]
  by_cases h : 0 ≤ n <;> simp [h]
  cases rows[n.toNat]? <;> rfl
theorem evIa_dm {α : Type} [Inhabited α] (H k c) (l : List α) (e : α → List D) (c' kd) (n : Int) (h0 : 0 ≤ n) (h : n < l.length) : evIa H k (.d c (.sl k (l.map e))) (.d c' (.int kd n)) = some (.d c (.ptr (e (nth l n)))) := by
  rw [evIa_d, if_pos h0, List.getElem?_map, nth_get? (by omega)]; rfl
def iaB (k b i len : Nat) (n : Int) (blk : Blk) : Option V := if blk.k = k ∧ 0 ≤ n ∧ n < len then some (.ptr b (i + n.toNat) 0) else none
theorem evIa_bsl (H k b i len c kd) (n : Int) : evIa H k (.bsl b i len) (.d c (.int kd n)) = o1 (iaB k b i len n) (look H b) := by
  simp only [evIa, o1, iaB]; cases look H b <;> rfl
theorem iaB_dat (k b i) (len : Nat) (n : Int) (c rows) (h0 : 0 ≤ n) (h : n < len) : iaB k b i len n (.dat c k rows) = some (.ptr b (i + n.toNat) 0) := if_pos ⟨rfl, h0, h⟩
def ldR (n : Nat) (g : Bool) (j : Nat) (row : List V) : Option V := part g n (row.drop j)
theorem ldR_eq (n g j row) : ldR n g j row = part g n (row.drop j) := rfl
def ldB (n : Nat) (g : Bool) (i j : Nat) (blk : Blk) : Option V := o1 (ldR n g j) (blk.row? i)
theorem ldB_eq (n g i j blk) : ldB n g i j blk = o1 (ldR n g j) (blk.row? i) := rfl
theorem evLd_ptr (H n g b i j) : evLd H n g (.ptr b i j) = o1 (ldB n g i j) (look H b) := by
  simp only [evLd, o1, ldB, ldR]
  cases look H b with
  | none => rfl
  | some blk =>
    show _ = o1 (ldR n g j) (blk.row? i)
    cases h : blk.row? i <;> simp [h, o1, ldR]
theorem evLd_d (H n g c cells) : evLd H n g (.d c (.ptr cells)) = part g n (cells.map (mkd c)) := rfl
theorem part_true (n cs) : part true n cs = if n ≤ cs.length then some (.agg (cs.take n)) else none := rfl
theorem part_one (v cs) : part false 1 (v :: cs) = some v := rfl
theorem row_mix (k rows i) : (Blk.mix k rows).row? i = rows[i]? := rfl
theorem row_dat (c k rows i) : (Blk.dat c k rows).row? i = (rows[i]?).map (·.map (mkd c)) := rfl
theorem row_datm {α : Type} [Inhabited α] (c k) (l : List α) (e : α → List D) (i : Nat) (h : i < l.length) : (Blk.dat c k (l.map e)).row? i = some ((e (nth l i)).map (mkd c)) := by
  rw [row_dat, List.getElem?_map, List.getElem?_eq_getElem h, nth_nat, List.getD_eq_getElem?_getD, List.getElem?_eq_getElem h]; rfl

theorem set_mix0 (k row rows j cells) : (Blk.mix k (row :: rows)).set 0 j cells = if j + cells.length ≤ row.length then some (.mix k (splice j cells row :: rows)) else none := by
  simp [Blk.set]
def setD (c : Bool) (k : Nat) (rows : List (List D)) (row : List D) (i j : Nat) (cells : List V) (x : Option (List D)) : Option Blk := match x with
  | some ds => some (.dat (c && cells.all V.new1) k (rows.set i (splice j ds row)))
  | none => some (.mix k ((rows.map (·.map (mkd c))).set i (splice j cells (row.map (mkd c)))))
theorem setD_some (c k rows row i j cells ds) : setD c k rows row i j cells (some ds) = some (.dat (c && cells.all V.new1) k (rows.set i (splice j ds row))) := rfl
theorem set_datm {α : Type} [Inhabited α] (c k) (l : List α) (e : α → List D) (i j cells) (hi : i < l.length) : (Blk.dat c k (l.map e)).set i j cells = if j + cells.length ≤ (e (nth l i)).length then setD c k (l.map e) (e (nth l i)) i j cells (mapO asD cells) else none := by
  have : (l.map e)[i]? = some (e (nth l i)) := by
    rw [List.getElem?_map, List.getElem?_eq_getElem hi, nth_nat, List.getD_eq_getElem?_getD, List.getElem?_eq_getElem hi]; rfl
  simp only [Blk.set, this, setD]
  split
  · cases mapO asD cells <;> rfl
  · rfl
theorem wrap64 {x : Int} (h1 : -9223372036854775808 ≤ x) (h2 : x ≤ 9223372036854775807) : IntKind.i64.wrap x = x := by
  unfold IntKind.wrap
  have e1 : (2 : Int) ^ IntKind.i64.bits = 18446744073709551616 := by decide
  have e2 : (2 : Int) ^ (IntKind.i64.bits - 1) = 9223372036854775808 := by decide
  simp only [e1, e2]
  have : IntKind.i64.signed = true := rfl
  simp only [this, Bool.true_and, decide_eq_true_eq]
  split <;> omega

end Go.Vm
namespace Go.Vm
theorem eq_t {a b : Int} (h : a = b) : (a == b) = true := by simpa using h
theorem eq_f {a b : Int} (h : ¬ a = b) : (a == b) = false := by simpa using h
theorem ne_t {a b : Int} (h : ¬ a = b) : (a != b) = true := by simpa using h
theorem ne_f {a b : Int} (h : a = b) : (a != b) = false := by simp [h]
theorem rows_d {α : Type} (H k c) (l : List α) (e : α → List D) : rowsOf H k (.d c (.sl k (l.map e))) = some (.dat (c || flatRows (l.map e)) (l.map e)) := by simp [rowsOf]
theorem flatRows_nil : flatRows [] = true := rfl
theorem flatRows_cons (r rows) : flatRows (r :: rows) = (r.all D.flat && flatRows rows) := rfl
theorem apA_dat (s H k id len rs c rows) (h : rows.length = len) (h2 : len + rs.n ≤ most) : apA s H k id 0 len rs (.dat c k rows) = some (put H id ((Blk.dat c k rows).app rs), .bsl id 0 (len + rs.n), .some id, s.nx) := if_pos ⟨rfl, h, rfl, h2⟩
theorem ile_T {a b : Int} (h : a ≤ b) : (a ≤ b) = True := by simpa using h
theorem ile_F {a b : Int} (h : ¬ a ≤ b) : (a ≤ b) = False := by simpa using h
theorem ilt_T {a b : Int} (h : a < b) : (a < b) = True := by simpa using h
theorem ilt_F {a b : Int} (h : ¬ a < b) : (a < b) = False := by simpa using h
theorem nle_T {a b : Nat} (h : a ≤ b) : (a ≤ b) = True := by simpa using h
theorem nlt_T {a b : Nat} (h : a < b) : (a < b) = True := by simpa using h
theorem take_all {α : Type} {l : List α} {n : Nat} (h : l.length ≤ n) : l.take n = l := List.take_of_length_le h
theorem toNat_add1 (n : Nat) : ((n : Int) + 1).toNat = n + 1 := by omega
theorem evIx_str (c c' k) (s : List UInt8) (n : Int) (h0 : 0 ≤ n) (h : n < s.length) : evIx (.d c (.str s)) (.d c' (.int k n)) = some (.int .u8 (nth s n).toNat) := by
  simp only [evIx, h0, if_true]
  rw [nth_get? (by omega)]
theorem nth_toNat {α : Type} [Inhabited α] (l : List α) (n : Int) : nth l ((n.toNat : Nat) : Int) = nth l n := by
  unfold nth; rw [Int.toNat_natCast]
theorem most_eq : most = 1099511627776 := rfl
theorem range0 : List.range 0 = [] := rfl
theorem range1 : List.range 1 = [0] := rfl
end Go.Vm
end

section
namespace Go.Vm
theorem evMk_mkm (K s) : evMk K s .mkm = some (.map s.nx, [.map []]) := rfl
theorem e_lkp (K s ok kk z m k) : ev K s (.lkp ok kk z m k) = o3 (evLkp s.heap ok kk) (ev K s z) (ev K s m) (ev K s k) := by
  simp only [ev, o3]; cases ev K s z <;> cases ev K s m <;> cases ev K s k <;> rfl
def lkO (ok : Bool) (z : V) : Option (Option V) → Option V
  | some (some v) => some (if ok then .tup [v, .bool true] else v)
  | some none => some (if ok then .tup [z, .bool false] else z)
  | none => none
theorem lkO_some (z v) : lkO false z (some (some v)) = some v := rfl
theorem lkO_none (z) : lkO false z (some none) = some z := rfl
def lkB (ok : Bool) (kk : Nat) (z : V) (k : D) : Blk → Option V
  | .map es => lkO ok z (findE kk k es)
  | _ => none
theorem lkB_map (ok kk z k es) : lkB ok kk z k (.map es) = lkO ok z (findE kk k es) := rfl
theorem evLkp_map (H ok kk z b c k) : evLkp H ok kk z (.map b) (.d c k) = o1 (lkB ok kk z k) (look H b) := by
  simp only [evLkp, o1]
  cases look H b with
  | none => rfl
  | some blk =>
    cases blk with
    | map es =>
      simp only [Blk.entries, Option.bind_some, lkB, lkO]
      cases findE kk k es with
      | none => rfl
      | some r => cases r <;> rfl
    | _ => rfl
def stM (H : List (Nat × Blk)) (nx b : Nat) (x : Option (List (D × V))) : Option (List (Nat × Blk) × V × Lost × Nat) := x.bind fun es => some (put H b (.map es), .junk, .none, nx)
theorem stM_some (H nx b es) : stM H nx b (some es) = some (put H b (.map es), .junk, .none, nx) := rfl
def msB (H : List (Nat × Blk)) (nx b kk : Nat) (d : D) (x : V) : Blk → Option (List (Nat × Blk) × V × Lost × Nat)
  | .map es => stM H nx b (setE kk d x es)
  | _ => none
theorem msB_map (H nx b kk d x es) : msB H nx b kk d x (.map es) = stM H nx b (setE kk d x es) := rfl
def wrMset (H : List (Nat × Blk)) (nx kk : Nat) (m k x : V) : Option (List (Nat × Blk) × V × Lost × Nat) := match m, k with
  | .map b, .d _ d => if x.laid then o1 (msB H nx b kk d x) (look H b) else none
  | _, _ => none
theorem wrMset_map (H nx kk b c d x) : wrMset H nx kk (.map b) (.d c d) x = if x.laid then o1 (msB H nx b kk d x) (look H b) else none := rfl
theorem evWr_mset (K s H kk m k v) : evWr K s H (.mset kk m k v) = o3 (wrMset H s.nx kk) (ev K s m) (ev K s k) (ev K s v) := by
  simp only [evWr, o3]
  cases ev K s m with
  | none => rfl
  | some a => cases ev K s k with
    | none => cases a <;> rfl
    | some b => cases ev K s v with
      | none => cases a <;> cases b <;> rfl
      | some c =>
        cases a <;> try rfl
        cases b <;> try rfl
        simp only [Option.bind_some, wrMset]
        split
        · rename_i b c' d _
          cases look H b with
          | none => rfl
          | some blk =>
            cases blk with
            | map es => simp only [Blk.entries, o1, Option.bind_some, msB, stM]; cases setE kk d c es <;> rfl
            | _ => rfl
        · rfl
def mcB (H : List (Nat × Blk)) (nx b : Nat) : Blk → Option (List (Nat × Blk) × V × Lost × Nat)
  | .map es => if tagged es then none else some (put H b (.map []), .junk, .none, nx)
  | _ => none
theorem mcB_map (H nx b es) (h : tagged es = false) : mcB H nx b (.map es) = some (put H b (.map []), .junk, .none, nx) := by simp [mcB, h]
def wrMclr (H : List (Nat × Blk)) (nx : Nat) : V → Option (List (Nat × Blk) × V × Lost × Nat)
  | .map b => o1 (mcB H nx b) (look H b)
  | _ => none
theorem wrMclr_map (H nx b) : wrMclr H nx (.map b) = o1 (mcB H nx b) (look H b) := rfl
theorem evWr_mclr (K s H m) : evWr K s H (.mclr m) = o1 (wrMclr H s.nx) (ev K s m) := by
  simp only [evWr, o1]
  cases ev K s m with
  | none => rfl
  | some a =>
    cases a <;> try rfl
    rename_i b
    simp only [Option.bind_some, wrMclr, o1]
    cases look H b with
    | none => rfl
    | some blk => cases blk <;> rfl

def seenE (l : List (List UInt8)) : List (D × V) := l.map fun m => (.str m, .d false (.int .i64 1))
theorem findE_seen (n : List UInt8) (l : List (List UInt8)) : findE 2 (.str n) (seenE l) = some (if l.contains n then some (.d false (.int .i64 1)) else none) := by
  induction l with
  | nil => rfl
  | cons m l ih =>
    simp only [seenE, List.map_cons, findE, keyEq, List.contains_cons] at ih ⊢
    by_cases h : n = m
    · simp [h]
    · have : (n == m) = false := by simpa using h
      simp only [this, Bool.false_or]
      have hd : decide (n = m) = false := by simpa using h
      simp only [hd]
      exact ih
theorem setE_seen (n : List UInt8) (l : List (List UInt8)) (h : l.contains n = false) : setE 2 (.str n) (.d false (.int .i64 1)) (seenE l) = some (seenE (l ++ [n])) := by
  induction l with
  | nil => simp [seenE, setE, keyEq]
  | cons m l ih =>
    simp only [List.contains_cons, Bool.or_eq_false_iff] at h
    have hd : decide (n = m) = false := by simpa using h.1
    have ih := ih h.2
    simp only [seenE, List.map_cons, setE, keyEq, hd, List.cons_append] at ih ⊢
    rw [ih]
theorem seenE_nil : seenE [] = [] := rfl
theorem seen_refs (l : List (List UInt8)) : (seenE l).flatMap (fun q => q.2.refs) = [] := by
  induction l with
  | nil => rfl
  | cons m l ih => simp [seenE, V.refs]
theorem seen_within (l : List (List UInt8)) (p : Nat → Bool) : (seenE l).all (fun q => q.2.within p) = true := by
  simp [seenE, V.within]
theorem seen_ren (l : List (List UInt8)) (g : Nat → Nat) : (seenE l).map (fun q => (q.1, q.2.ren g)) = seenE l := by
  simp [seenE, V.ren]
theorem cast7 : ((7 : Nat) : Int) = 7 := rfl
theorem wonV_t (c x) : wonV true (some (.d c (.bool x))) = some x := by cases x <;> rfl
end Go.Vm
end

section
namespace Go.Vm

def rwB (k i len : Nat) : Blk → Option Rows
  | .dat c k' rows => if k' = k ∧ i + len ≤ rows.length then some (.dat (c || flatRows rows) ((rows.drop i).take len)) else none
  | .mix k' rows => if k' = k ∧ i + len ≤ rows.length then some (.mix ((rows.drop i).take len)) else none
  | .map _ => none
theorem rows_bsl (H k b i len) : rowsOf H k (.bsl b i len) = o1 (rwB k i len) (look H b) := by
  simp only [rowsOf, o1]
  cases look H b with
  | none => rfl
  | some blk => cases blk <;> rfl
theorem rwB_dat (k i len c rows) : rwB k i len (.dat c k rows) = if i + len ≤ rows.length then some (.dat (c || flatRows rows) ((rows.drop i).take len)) else none := by simp [rwB]
end Go.Vm
end

section
namespace Go.Vm

def LN0 := PLift.up (And.intro (And.intro (And.intro @List.length_map.{0,0} (And.intro @List.length_append.{0} @List.length_take.{0})) (And.intro @List.length_drop.{0} (And.intro @List.length_replicate.{0} @List.length_set.{0}))) (And.intro (And.intro @List.length_cons.{0} (And.intro @List.length_nil.{0} @Rows.n.eq_1)) (And.intro (And.intro @Rows.n.eq_2 @most_eq) (And.intro @Int.toNat_natCast @Nat.zero_add))))
theorem LN : type_of% LN0.down := LN0.down

def SX0 := PLift.up (And.intro (And.intro (And.intro (And.intro (And.intro (And.intro (And.intro (And.intro @e_sl @look_cons) (And.intro @lookB_true @o2_some)) (And.intro (And.intro @lookB_false @o1_some) (And.intro @List.length_nil.{0} (And.intro @List.map_nil.{0,0} @evMks_nil)))) (And.intro (And.intro (And.intro @List.nil_append.{0} @List.append_nil.{0}) (And.intro @segL_eq @wonB_nil)) (And.intro (And.intro @evChk_nil @evLets_cons) (And.intro @evLets_nil (And.intro @letC_eq @restrict_cons))))) (And.intro (And.intro (And.intro (And.intro @resC_some @restrict_nil) (And.intro @addBlks.eq_1 @addBlks.eq_2)) (And.intro (And.intro @List.map_cons.{0,0} @exec_seq) (And.intro @evSeg_eq (And.intro @segW_none @List.cons_append.{0})))) (And.intro (And.intro (And.intro @segs_nil @nrm_some) (And.intro @thn_nrm (And.intro @List.zipIdx_nil.{0} @exec_reg))) (And.intro (And.intro @evSegs_cons @tidyS_a) (And.intro @tidyA_eq (And.intro @refsL.eq_1 @refsL.eq_2)))))) (And.intro (And.intro (And.intro (And.intro (And.intro @reachB_nil @tidyB_eq) (And.intro @List.nodup_nil.{0} @List.all_nil.{0})) (And.intro (And.intro @closedB.eq_1 @Blk.ren.eq_1) (And.intro @Blk.ren.eq_2 (And.intro @Blk.ren.eq_3 @List.filterMap_nil.{0,0})))) (And.intro (And.intro (And.intro @List.filter_nil.{0} @range0) (And.intro @List.all_cons.{0} (And.intro @V.within.eq_1 @V.within.eq_2))) (And.intro (And.intro @V.within.eq_3 @V.within.eq_4) (And.intro @V.within.eq_5 (And.intro @V.within.eq_6 @V.within.eq_7))))) (And.intro (And.intro (And.intro (And.intro @V.within.eq_8 @V.within.eq_9) (And.intro @V.within.eq_10 @V.ren.eq_1)) (And.intro (And.intro @V.ren.eq_2 @V.ren.eq_3) (And.intro @V.ren.eq_4 (And.intro @V.ren.eq_5 @V.ren.eq_6)))) (And.intro (And.intro (And.intro @V.ren.eq_7 @V.ren.eq_8) (And.intro @V.ren.eq_9 (And.intro @V.ren.eq_10 @take_all))) (And.intro (And.intro @e_bin @List.length_cons.{0}) (And.intro @Blk.within.eq_1 (And.intro @Blk.within.eq_2 @Blk.within.eq_3))))))) (And.intro (And.intro (And.intro (And.intro (And.intro (And.intro @exec_cond @Option.map_some.{0,0}) (And.intro @e_int @exec_tidy)) (And.intro (And.intro @mapO_cons @mapO_nil) (And.intro @mapC_eq (And.intro @e_ld @exec_block)))) (And.intro (And.intro (And.intro @List.drop_zero.{0} @put_cons) (And.intro @List.zipIdx_cons.{0} (And.intro @evLd_ptr @ldB_eq))) (And.intro (And.intro @ldR_eq @row_mix) (And.intro @part_one (And.intro @evMks_cons @mksA_eq))))) (And.intro (And.intro (And.intro (And.intro @put_nil @mksB_eq) (And.intro @e_fa @putB_false)) (And.intro (And.intro @List.drop_succ_cons.{0} @brn_false) (And.intro @exec_ret (And.intro @brn_true @evMk_box)))) (And.intro (And.intro (And.intro @mkBox.eq_1 @List.take_zero.{0}) (And.intro @endF_ret (And.intro @finish.eq_1 @exec_skip))) (And.intro (And.intro @runFun_eq @startS.eq_1) (And.intro @indexed.eq_1 (And.intro @evChk_cons @Option.isSome_some.{0})))))) (And.intro (And.intro (And.intro (And.intro (And.intro @e_bool @e_nil) (And.intro @loseH.eq_1 @loseH.eq_2)) (And.intro (And.intro @loseH.eq_3 @Lost.ids.eq_1) (And.intro @Lost.ids.eq_2 (And.intro @Lost.ids.eq_3 @segW_some)))) (And.intro (And.intro (And.intro @putB_true @segO_none) (And.intro @e_cons (And.intro @consV_tup @splice.eq_1))) (And.intro (And.intro @evWr_store @wrStore_ptr) (And.intro @stA_eq (And.intro @stB_some @set_mix0))))) (And.intro (And.intro (And.intro (And.intro @part_true @blk_nrm) (And.intro @e_ia @ilt_T)) (And.intro (And.intro @mkd.eq_1 @eq_f) (And.intro @viewDepth.eq_1 (And.intro @evIa_dm @thn_ret)))) (And.intro (And.intro (And.intro @evLd_d @List.any_cons.{0}) (And.intro @List.any_nil.{0} (And.intro @evCall_eq @passes_eq))) (And.intro (And.intro @callA_eq @e_agg) (And.intro @aggV_tup (And.intro @List.length_map.{0,0} @e_call)))))))) (And.intro (And.intro (And.intro (And.intro (And.intro (And.intro (And.intro @callV_tup @e_len) (And.intro @e_and @andV_some)) (And.intro (And.intro @reachB_cons @List.contains_nil.{0}) (And.intro @reachC_false (And.intro @refsO_some @Blk.refs.eq_1)))) (And.intro (And.intro (And.intro @Blk.refs.eq_2 @Blk.refs.eq_3) (And.intro @List.nodup_cons.{0} @List.not_mem_nil.{0})) (And.intro (And.intro @List.idxOf_cons.{0} @List.contains_cons.{0}) (And.intro @callR_some (And.intro @wrap64 @List.filterMap_cons.{0,0}))))) (And.intro (And.intro (And.intro (And.intro @e_nilsl @List.flatMap_cons.{0,0}) (And.intro @List.flatMap_nil.{0,0} @withinL.eq_1)) (And.intro (And.intro @withinL.eq_2 @renL.eq_1) (And.intro @renL.eq_2 (And.intro @e_or @orV_some)))) (And.intro (And.intro (And.intro @blk_ret @segs_cons) (And.intro @e_un (And.intro @List.mem_cons.{0} @ilt_F))) (And.intro (And.intro @ile_T @e_ext) (And.intro @lpT_nrm (And.intro @e_str @evIa_bsl)))))) (And.intro (And.intro (And.intro (And.intro (And.intro @iaB_dat @lpT_ret) (And.intro @nlt_T @exec_loop)) (And.intro (And.intro @row_datm @look_nil) (And.intro @blk_exit (And.intro @evMk_lits @mkLits_tup)))) (And.intro (And.intro (And.intro @nle_T @Option.map_none.{0,0}) (And.intro @List.take_succ_cons.{0} (And.intro @ile_F @exec_exit))) (And.intro (And.intro @thn_exit @segO_some) (And.intro @e_set (And.intro @Option.some.injEq.{0} @lpT_exit))))) (And.intro (And.intro (And.intro (And.intro @callR_pass @e_eqs) (And.intro @set_datm @setD_some)) (And.intro (And.intro @evWr_app @Rows.n.eq_1) (And.intro @Rows.n.eq_2 (And.intro @e_lkp @evLkp_map)))) (And.intro (And.intro (And.intro @lkB_map @findE_seen) (And.intro @wonB_one (And.intro @ne_t @seen_refs))) (And.intro (And.intro @seen_within @seen_ren) (And.intro @rows_bsl (And.intro @rwB_dat @flatRows_cons))))))) (And.intro (And.intro (And.intro (And.intro (And.intro (And.intro @flatRows_nil @forgetR.eq_1) (And.intro @List.filter_cons.{0} @evWr_calle)) (And.intro (And.intro @wrEff_tup @evEff_eq) (And.intro @handed.eq_1 (And.intro @Blk.dim.eq_1 @Blk.dim.eq_2)))) (And.intro (And.intro (And.intro @Blk.dim.eq_3 @effA_eq) (And.intro @V.dim.eq_1 (And.intro @V.dim.eq_2 @V.dim.eq_3))) (And.intro (And.intro @V.dim.eq_4 @V.dim.eq_5) (And.intro @V.dim.eq_6 (And.intro @V.dim.eq_7 @V.dim.eq_8))))) (And.intro (And.intro (And.intro (And.intro @V.dim.eq_9 @V.dim.eq_10) (And.intro @effR_eq @putAll.eq_1)) (And.intro (And.intro @putAll.eq_2 @backB_eq) (And.intro @Option.getD_some.{0} (And.intro @lkO_none @wrApp_bsl)))) (And.intro (And.intro (And.intro @apA_dat @Blk.app.eq_1) (And.intro @Blk.app.eq_2 (And.intro @Blk.app.eq_3 @Blk.app.eq_4))) (And.intro (And.intro @restH.eq_1 @nth_toNat) (And.intro @evMk_mkm (And.intro @evMk_callo @mkO_tup)))))) (And.intro (And.intro (And.intro (And.intro (And.intro @mkOA_eq @mkOR_some) (And.intro @Blk.plain.eq_1 @Blk.plain.eq_2)) (And.intro (And.intro @Blk.plain.eq_3 @Blk.new.eq_1) (And.intro @Blk.new.eq_2 (And.intro @Blk.new.eq_3 @wrApp_fs)))) (And.intro (And.intro (And.intro @Rows.blk.eq_1 @Rows.blk.eq_2) (And.intro @segW_off (And.intro @andV_false @evMk_mks))) (And.intro (And.intro @most_eq @reachC_true) (And.intro @blk_goto (And.intro @thn_goto @cast7))))) (And.intro (And.intro (And.intro (And.intro @ne_f @lkO_some) (And.intro @evWr_mclr @wrMclr_map)) (And.intro (And.intro @mcB_map @List.set_cons_succ.{0}) (And.intro @List.set_cons_zero.{0} (And.intro @e_cond @condV_some)))) (And.intro (And.intro (And.intro @List.length_drop.{0} @List.length_take.{0}) (And.intro @e_ix (And.intro @evIx_str @toNat_add1))) (And.intro (And.intro @e_callv @callvV_tup) (And.intro @rows_d (And.intro @exec_goto @lpT_goto)))))))))
theorem SX : type_of% SX0.down := SX0.down
def SV0 := PLift.up (And.intro SX (And.intro (And.intro @mkBlk.eq_1 (And.intro @o3_some @forgetH.eq_1)) (And.intro (And.intro @Blk.forget.eq_1 @Blk.forget.eq_2) (And.intro @Blk.forget.eq_3 @finB.eq_1))))
theorem SV : type_of% SV0.down := SV0.down

end Go.Vm
end

section
namespace Go.Vm

theorem zrefs_d   (c x) : (V.d c x).refs = [] := rfl
theorem zrefs_fs   (c k r) : (V.fs c k r).refs = [] := rfl
theorem zrefs_junk   : (V.junk).refs = [] := rfl
theorem znew1_ptr   (b i j) : (V.ptr b i j).new1 = false := rfl
theorem znew1_bsl   (b i n) : (V.bsl b i n).new1 = false := rfl
theorem znew1_map   (b) : (V.map b).new1 = false := rfl
theorem znew1_agg   (cs) : (V.agg cs).new1 = false := rfl
theorem znew1_tup   (vs) : (V.tup vs).new1 = false := rfl
theorem znew1_fn   (f cs) : (V.fn f cs).new1 = false := rfl
theorem znew1_iface   (t v) : (V.iface t v).new1 = false := rfl
theorem znew1_junk   : (V.junk).new1 = false := rfl
theorem znew_d   (c x) : (V.d c x).new = (V.d c x).new1 := rfl
theorem znew_fs   (c k r) : (V.fs c k r).new = (V.fs c k r).new1 := rfl
theorem znew_ptr   (b i j) : (V.ptr b i j).new = (V.ptr b i j).new1 := rfl
theorem znew_bsl   (b i n) : (V.bsl b i n).new = (V.bsl b i n).new1 := rfl
theorem znew_map   (b) : (V.map b).new = (V.map b).new1 := rfl
theorem znew_fn   (f cs) : (V.fn f cs).new = (V.fn f cs).new1 := rfl
theorem znew_iface   (t v) : (V.iface t v).new = (V.iface t v).new1 := rfl
theorem znew_junk   : (V.junk).new = (V.junk).new1 := rfl
theorem zown1_ptr   (b i j) : (V.ptr b i j).own1 = true := rfl
theorem zown1_bsl   (b i n) : (V.bsl b i n).own1 = true := rfl
theorem zown1_map   (b) : (V.map b).own1 = true := rfl
theorem zown1_agg   (cs) : (V.agg cs).own1 = true := rfl
theorem zown1_tup   (vs) : (V.tup vs).own1 = true := rfl
theorem zown1_fn   (f cs) : (V.fn f cs).own1 = true := rfl
theorem zown1_iface   (t v) : (V.iface t v).own1 = true := rfl
theorem zown1_junk   : (V.junk).own1 = true := rfl
theorem zown_d   (c x) : (V.d c x).own = (V.d c x).own1 := rfl
theorem zown_fs   (c k r) : (V.fs c k r).own = (V.fs c k r).own1 := rfl
theorem zown_ptr   (b i j) : (V.ptr b i j).own = (V.ptr b i j).own1 := rfl
theorem zown_bsl   (b i n) : (V.bsl b i n).own = (V.bsl b i n).own1 := rfl
theorem zown_map   (b) : (V.map b).own = (V.map b).own1 := rfl
theorem zown_tup   (vs) : (V.tup vs).own = (V.tup vs).own1 := rfl
theorem zown_iface   (t v) : (V.iface t v).own = (V.iface t v).own1 := rfl
theorem zown_junk   : (V.junk).own = (V.junk).own1 := rfl
theorem zflat1_fs   (c k r) : (V.fs c k r).flat1 = false := rfl
theorem zflat1_ptr   (b i j) : (V.ptr b i j).flat1 = false := rfl
theorem zflat1_bsl   (b i n) : (V.bsl b i n).flat1 = false := rfl
theorem zflat1_map   (b) : (V.map b).flat1 = false := rfl
theorem zflat1_agg   (cs) : (V.agg cs).flat1 = false := rfl
theorem zflat1_tup   (vs) : (V.tup vs).flat1 = false := rfl
theorem zflat1_fn   (f cs) : (V.fn f cs).flat1 = false := rfl
theorem zflat1_iface   (t v) : (V.iface t v).flat1 = false := rfl
theorem zflat1_junk   : (V.junk).flat1 = false := rfl
theorem zflatV_d   (c x) : (V.d c x).flatV = (V.d c x).flat1 := rfl
theorem zflatV_fs   (c k r) : (V.fs c k r).flatV = (V.fs c k r).flat1 := rfl
theorem zflatV_ptr   (b i j) : (V.ptr b i j).flatV = (V.ptr b i j).flat1 := rfl
theorem zflatV_bsl   (b i n) : (V.bsl b i n).flatV = (V.bsl b i n).flat1 := rfl
theorem zflatV_map   (b) : (V.map b).flatV = (V.map b).flat1 := rfl
theorem zflatV_tup   (vs) : (V.tup vs).flatV = (V.tup vs).flat1 := rfl
theorem zflatV_fn   (f cs) : (V.fn f cs).flatV = (V.fn f cs).flat1 := rfl
theorem zflatV_iface   (t v) : (V.iface t v).flatV = (V.iface t v).flat1 := rfl
theorem zflatV_junk   : (V.junk).flatV = (V.junk).flat1 := rfl
theorem zview_d (H)  (c x) : view H (V.d c x) = (viewD viewDepth H (V.d c x)).map (.d false) := rfl
theorem zview_fs (H)  (c k r) : view H (V.fs c k r) = (viewD viewDepth H (V.fs c k r)).map (.d false) := rfl
theorem zview_ptr (H)  (b i j) : view H (V.ptr b i j) = (viewD viewDepth H (V.ptr b i j)).map (.d false) := rfl
theorem zview_bsl (H)  (b i n) : view H (V.bsl b i n) = (viewD viewDepth H (V.bsl b i n)).map (.d false) := rfl
theorem zview_map (H)  (b) : view H (V.map b) = (viewD viewDepth H (V.map b)).map (.d false) := rfl
theorem zview_tup (H)  (vs) : view H (V.tup vs) = (viewD viewDepth H (V.tup vs)).map (.d false) := rfl
theorem zview_iface (H)  (t v) : view H (V.iface t v) = (viewD viewDepth H (V.iface t v)).map (.d false) := rfl
theorem zview_junk (H)  : view H (V.junk) = (viewD viewDepth H (V.junk)).map (.d false) := rfl
theorem zlaid_d   (c x) : (V.d c x).laid = (V.d c x).cell := rfl
theorem zlaid_fs   (c k r) : (V.fs c k r).laid = (V.fs c k r).cell := rfl
theorem zlaid_ptr   (b i j) : (V.ptr b i j).laid = (V.ptr b i j).cell := rfl
theorem zlaid_bsl   (b i n) : (V.bsl b i n).laid = (V.bsl b i n).cell := rfl
theorem zlaid_map   (b) : (V.map b).laid = (V.map b).cell := rfl
theorem zlaid_tup   (vs) : (V.tup vs).laid = (V.tup vs).cell := rfl
theorem zlaid_fn   (f cs) : (V.fn f cs).laid = (V.fn f cs).cell := rfl
theorem zlaid_iface   (t v) : (V.iface t v).laid = (V.iface t v).cell := rfl
theorem zlaid_junk   : (V.junk).laid = (V.junk).cell := rfl
theorem zcells_d   (c x) : (V.d c x).cells = [(V.d c x)] := rfl
theorem zcells_fs   (c k r) : (V.fs c k r).cells = [(V.fs c k r)] := rfl
theorem zcells_ptr   (b i j) : (V.ptr b i j).cells = [(V.ptr b i j)] := rfl
theorem zcells_bsl   (b i n) : (V.bsl b i n).cells = [(V.bsl b i n)] := rfl
theorem zcells_map   (b) : (V.map b).cells = [(V.map b)] := rfl
theorem zcells_tup   (vs) : (V.tup vs).cells = [(V.tup vs)] := rfl
theorem zcells_fn   (f cs) : (V.fn f cs).cells = [(V.fn f cs)] := rfl
theorem zcells_iface   (t v) : (V.iface t v).cells = [(V.iface t v)] := rfl
theorem zcells_junk   : (V.junk).cells = [(V.junk)] := rfl
theorem zfinV_d (z) (bs) (H)  (c x) : finV z bs H (V.d c x) = finA z bs H (V.d c x) := rfl
theorem zfinV_fs (z) (bs) (H)  (c k r) : finV z bs H (V.fs c k r) = finA z bs H (V.fs c k r) := rfl
theorem zfinV_ptr (z) (bs) (H)  (b i j) : finV z bs H (V.ptr b i j) = finA z bs H (V.ptr b i j) := rfl
theorem zfinV_bsl (z) (bs) (H)  (b i n) : finV z bs H (V.bsl b i n) = finA z bs H (V.bsl b i n) := rfl
theorem zfinV_map (z) (bs) (H)  (b) : finV z bs H (V.map b) = finA z bs H (V.map b) := rfl
theorem zfinV_agg (z) (bs) (H)  (cs) : finV z bs H (V.agg cs) = finA z bs H (V.agg cs) := rfl
theorem zfinV_fn (z) (bs) (H)  (f cs) : finV z bs H (V.fn f cs) = finA z bs H (V.fn f cs) := rfl
theorem zfinV_iface (z) (bs) (H)  (t v) : finV z bs H (V.iface t v) = finA z bs H (V.iface t v) := rfl
theorem zfinV_junk (z) (bs) (H)  : finV z bs H (V.junk) = finA z bs H (V.junk) := rfl
theorem zfinA_d (z) (bs) (H)  (c x) : finA z bs H (V.d c x) = finC z bs H (V.d c x) := rfl
theorem zfinA_fs (z) (bs) (H)  (c k r) : finA z bs H (V.fs c k r) = finC z bs H (V.fs c k r) := rfl
theorem zfinA_ptr (z) (bs) (H)  (b i j) : finA z bs H (V.ptr b i j) = finC z bs H (V.ptr b i j) := rfl
theorem zfinA_bsl (z) (bs) (H)  (b i n) : finA z bs H (V.bsl b i n) = finC z bs H (V.bsl b i n) := rfl
theorem zfinA_map (z) (bs) (H)  (b) : finA z bs H (V.map b) = finC z bs H (V.map b) := rfl
theorem zfinA_tup (z) (bs) (H)  (vs) : finA z bs H (V.tup vs) = finC z bs H (V.tup vs) := rfl
theorem zfinA_iface (z) (bs) (H)  (t v) : finA z bs H (V.iface t v) = finC z bs H (V.iface t v) := rfl
theorem zfinA_junk (z) (bs) (H)  : finA z bs H (V.junk) = finC z bs H (V.junk) := rfl
theorem zcell_agg   (cs) : (V.agg cs).cell = false := rfl
theorem zcell_tup   (vs) : (V.tup vs).cell = false := rfl
theorem zcell_junk   : (V.junk).cell = false := rfl
theorem zcell_d   (c x) : (V.d c x).cell = true := rfl
theorem zcell_fs   (c k r) : (V.fs c k r).cell = true := rfl
theorem zcell_ptr   (b i j) : (V.ptr b i j).cell = true := rfl
theorem zcell_bsl   (b i n) : (V.bsl b i n).cell = true := rfl
theorem zcell_map   (b) : (V.map b).cell = true := rfl
theorem zcell_fn   (f cs) : (V.fn f cs).cell = true := rfl
theorem zcell_iface   (t v) : (V.iface t v).cell = true := rfl
theorem zdf_int (k n) : (D.int k n).flat = true := rfl
theorem zdf_bool (b) : (D.bool b).flat = true := rfl
theorem zdf_str (s) : (D.str s).flat = true := rfl
theorem zdf_sl (k r) : (D.sl k r).flat = false := rfl
theorem zdf_ptr (c) : (D.ptr c).flat = false := rfl
theorem zdf_nilp : (D.nilp).flat = true := rfl
theorem zdf_nilif : (D.nilif).flat = true := rfl
theorem zdf_nilfn : (D.nilfn).flat = true := rfl
theorem zdf_iface (t c) : (D.iface t c).flat = false := rfl
theorem zdf_nils (k) : (D.nils k).flat = true := rfl
theorem zdf_emps (k) : (D.emps k).flat = true := rfl
theorem zdf_nilm : (D.nilm).flat = true := rfl

def SW0 := PLift.up (And.intro (And.intro (And.intro (And.intro (And.intro (And.intro (And.intro @beq_self_eq_true.{0} (And.intro @if_true.{1} @Bool.and_self)) (And.intro (And.intro @decide_true @Nat.zero_add) (And.intro @if_false.{1} @Bool.false_eq_true))) (And.intro (And.intro @Bool.or_true (And.intro @Bool.or_self @Bool.and_false)) (And.intro (And.intro @Bool.not_true @List.getElem?_cons_zero.{0}) (And.intro @Bool.false_and @Bool.or_false)))) (And.intro (And.intro (And.intro @Nat.le_refl (And.intro @decide_false @and_self)) (And.intro (And.intro @not_false_eq_true @cond_true.{1}) (And.intro @Nat.add_zero @Bool.and_true))) (And.intro (And.intro @Bool.not_false (And.intro @List.getElem?_cons_succ.{0} @or_self)) (And.intro (And.intro @cond_false.{1} @bne_self_eq_false.{0}) (And.intro @e_cut @o4_some))))) (And.intro (And.intro (And.intro (And.intro @Bool.true_or (And.intro @beq_iff_eq.{0} @or_false)) (And.intro (And.intro @eq_t @or_true) (And.intro @e_nilif @List.length_append.{0}))) (And.intro (And.intro @Int.toNat_natCast (And.intro @and_true @true_or)) (And.intro (And.intro @e_conv @orV_true) (And.intro @Bool.true_and @Prod.mk.injEq.{0,0})))) (And.intro (And.intro (And.intro @evBin.eq_1 (And.intro @evBin.eq_2 @intBin.eq_1)) (And.intro (And.intro @intBin.eq_2 @intBin.eq_3) (And.intro @intBin.eq_4 @intBin.eq_5))) (And.intro (And.intro @intBin.eq_6 (And.intro @intBin.eq_7 @intBin.eq_8)) (And.intro (And.intro @intBin.eq_9 @intBin.eq_10) (And.intro @intBin.eq_11 @intBin.eq_12)))))) (And.intro (And.intro (And.intro (And.intro (And.intro @intBin.eq_13 (And.intro @intBin.eq_14 @intBin.eq_15)) (And.intro (And.intro @evLen.eq_1 @evLen.eq_2) (And.intro @evLen.eq_3 @evLen.eq_4))) (And.intro (And.intro @evFa.eq_1 (And.intro @evFa.eq_2 @strBin.eq_1)) (And.intro (And.intro @strBin.eq_2 @strBin.eq_3) (And.intro @strBin.eq_4 @strBin.eq_5)))) (And.intro (And.intro (And.intro @strBin.eq_6 (And.intro @strBin.eq_7 @evUn.eq_1)) (And.intro (And.intro @evUn.eq_2 @evExt.eq_1) (And.intro @evSet.eq_1 @asD.eq_1))) (And.intro (And.intro @asD.eq_2 (And.intro @V.refs.eq_1 @V.refs.eq_2)) (And.intro (And.intro @V.refs.eq_3 @V.refs.eq_4) (And.intro @V.refs.eq_5 @V.refs.eq_6))))) (And.intro (And.intro (And.intro (And.intro @V.refs.eq_7 (And.intro @V.new1.eq_1 @V.new1.eq_2)) (And.intro (And.intro @V.new.eq_1 @V.new.eq_2) (And.intro @V.own.eq_1 @V.own.eq_2))) (And.intro (And.intro @V.own1.eq_1 (And.intro @V.own1.eq_2 @V.flat1.eq_1)) (And.intro (And.intro @V.flatV.eq_1 @view.eq_1) (And.intro @view.eq_2 @V.laid.eq_1)))) (And.intro (And.intro (And.intro @V.cells.eq_1 (And.intro @finC.eq_1 @finC.eq_2)) (And.intro (And.intro @finC.eq_3 @finC.eq_4) (And.intro @finC.eq_5 @finC.eq_6))) (And.intro (And.intro (And.intro @finA.eq_1 @finA.eq_2) (And.intro @finV.eq_1 @zrefs_d)) (And.intro (And.intro @zrefs_fs @zrefs_junk) (And.intro @znew1_ptr @znew1_bsl))))))) (And.intro (And.intro (And.intro (And.intro (And.intro (And.intro @znew1_map (And.intro @znew1_agg @znew1_tup)) (And.intro (And.intro @znew1_fn @znew1_iface) (And.intro @znew1_junk @znew_d))) (And.intro (And.intro @znew_fs (And.intro @znew_ptr @znew_bsl)) (And.intro (And.intro @znew_map @znew_fn) (And.intro @znew_iface @znew_junk)))) (And.intro (And.intro (And.intro @zown1_ptr (And.intro @zown1_bsl @zown1_map)) (And.intro (And.intro @zown1_agg @zown1_tup) (And.intro @zown1_fn @zown1_iface))) (And.intro (And.intro @zown1_junk (And.intro @zown_d @zown_fs)) (And.intro (And.intro @zown_ptr @zown_bsl) (And.intro @zown_map @zown_tup))))) (And.intro (And.intro (And.intro (And.intro @zown_iface (And.intro @zown_junk @zflat1_fs)) (And.intro (And.intro @zflat1_ptr @zflat1_bsl) (And.intro @zflat1_map @zflat1_agg))) (And.intro (And.intro @zflat1_tup (And.intro @zflat1_fn @zflat1_iface)) (And.intro (And.intro @zflat1_junk @zflatV_d) (And.intro @zflatV_fs @zflatV_ptr)))) (And.intro (And.intro (And.intro @zflatV_bsl (And.intro @zflatV_map @zflatV_tup)) (And.intro (And.intro @zflatV_fn @zflatV_iface) (And.intro @zflatV_junk @zview_d))) (And.intro (And.intro @zview_fs (And.intro @zview_ptr @zview_bsl)) (And.intro (And.intro @zview_map @zview_tup) (And.intro @zview_iface @zview_junk)))))) (And.intro (And.intro (And.intro (And.intro (And.intro @zlaid_d (And.intro @zlaid_fs @zlaid_ptr)) (And.intro (And.intro @zlaid_bsl @zlaid_map) (And.intro @zlaid_tup @zlaid_fn))) (And.intro (And.intro @zlaid_iface (And.intro @zlaid_junk @zcells_d)) (And.intro (And.intro @zcells_fs @zcells_ptr) (And.intro @zcells_bsl @zcells_map)))) (And.intro (And.intro (And.intro @zcells_tup (And.intro @zcells_fn @zcells_iface)) (And.intro (And.intro @zcells_junk @zfinV_d) (And.intro @zfinV_fs @zfinV_ptr))) (And.intro (And.intro @zfinV_bsl (And.intro @zfinV_map @zfinV_agg)) (And.intro (And.intro @zfinV_fn @zfinV_iface) (And.intro @zfinV_junk @zfinA_d))))) (And.intro (And.intro (And.intro (And.intro @zfinA_fs (And.intro @zfinA_ptr @zfinA_bsl)) (And.intro (And.intro @zfinA_map @zfinA_tup) (And.intro @zfinA_iface @zfinA_junk))) (And.intro (And.intro @zcell_agg (And.intro @zcell_tup @zcell_junk)) (And.intro (And.intro @zcell_d @zcell_fs) (And.intro @zcell_ptr @zcell_bsl)))) (And.intro (And.intro (And.intro @zcell_map (And.intro @zcell_fn @zcell_iface)) (And.intro (And.intro @zdf_int @zdf_bool) (And.intro @zdf_str @zdf_sl))) (And.intro (And.intro (And.intro @zdf_ptr @zdf_nilp) (And.intro @zdf_nilif @zdf_nilfn)) (And.intro (And.intro @zdf_iface @zdf_nils) (And.intro @zdf_emps @zdf_nilm))))))))
theorem SW : type_of% SW0.down := SW0.down

end Go.Vm
end

section
namespace Go.Vm

structure Instr where
  op : Int
  a : Int
  b : Int
  deriving DecidableEq, Inhabited
structure Shape where
  name : List UInt8
  fields : Int
  deriving DecidableEq, Inhabited
structure Glob where
  name : List UInt8
  arity : Int
  code : List Instr
  deriving DecidableEq, Inhabited
structure Table where
  shapes : List Shape
  globals : List Glob
  deriving DecidableEq, Inhabited

def eInt (n : Int) : List D := [.int .i64 n]
def eBool (b : Bool) : List D := [.bool b]
def eInstr (x : Instr) : List D := [.int .i64 x.op, .int .i64 x.a, .int .i64 x.b]
def eShape (s : Shape) : List D := [.str s.name, .int .i64 s.fields]
def eGlob (g : Glob) : List D := [.str g.name, .int .i64 g.arity, .sl 3 (g.code.map eInstr)]
theorem eInt_eq (n) : eInt n = [.int .i64 n] := rfl
theorem eBool_eq (n) : eBool n = [.bool n] := rfl
theorem eInstr_eq (x) : eInstr x = [.int .i64 x.op, .int .i64 x.a, .int .i64 x.b] := rfl
theorem eShape_eq (s) : eShape s = [.str s.name, .int .i64 s.fields] := rfl
theorem eGlob_eq (g) : eGlob g = [.str g.name, .int .i64 g.arity, .sl 3 (g.code.map eInstr)] := rfl
theorem fIntS (l : List Int) (i b) : (l.map eInt).set i [D.int .i64 b] = (l.set i b).map eInt := by rw [List.map_set]; rfl
theorem fIntR (n b) : List.replicate n [D.int .i64 b] = (List.replicate n b).map eInt := by rw [List.map_replicate]; rfl
end Go.Vm
end

section
namespace Go.Vm

theorem nth_mem {α : Type} [Inhabited α] {l : List α} {i : Int} (h0 : 0 ≤ i) (h : i < l.length) : nth l i ∈ l := by
  rw [← nth_getElem (n := i) (by omega)]; exact List.getElem_mem _

def goodB (b : UInt8) : Bool := decide (32 ≤ (b.toNat : Int)) && decide ((b.toNat : Int) ≤ 126)
def isNameS (s : List UInt8) : Bool := s.all goodB && (decide (1 ≤ (s.length : Int)) && decide ((s.length : Int) ≤ 4096))

def givenS : List Shape := [⟨[70, 97, 108, 115, 101], 0⟩, ⟨[84, 114, 117, 101], 0⟩, ⟨[85, 110, 105, 116], 0⟩, ⟨[78, 105, 108], 0⟩, ⟨[67, 111, 110, 115], 2⟩, ⟨[80, 97, 105, 114], 2⟩, ⟨[84, 114, 105, 112, 108, 101], 3⟩]

def greatL : List Glob → Int → Option Int
  | [], n => some n
  | g :: r, n => if 8000 < (g.code.length : Int) then none else greatL r (n + g.code.length)
def greatS (t : Table) : Bool := match greatL t.globals 0 with
  | none => true
  | some n => decide (2000 < (t.shapes.length : Int)) || decide (2000 < (t.globals.length : Int)) || decide (200000 < n)

theorem greatL_le : ∀ (l : List Glob) (n m : Int), greatL l n = some m → n ≤ m ∧ m ≤ n + 8000 * l.length := by
  intro l
  induction l with
  | nil => intro n m h; simp only [greatL, Option.some.injEq] at h; subst h; simp
  | cons g l ih =>
    intro n m h
    simp only [greatL] at h
    split at h
    · cases h
    · have := ih _ _ h
      simp only [List.length_cons]
      omega

def numberS (ng ns nc at_ n kind : Int) : Int :=
  if kind = 8 then (if n ≤ at_ ∨ nc ≤ n then 174 else 0) else
  if (if kind = 0 then decide (n = 0) else if kind = 1 then decide (0 ≤ n) else if kind = 2 then decide (1 ≤ n)
    else if kind = 3 then decide (-4611686018427387904 ≤ n ∧ n ≤ 4611686018427387903) else if kind = 4 then decide (0 ≤ n ∧ n < ng)
    else if kind = 5 then decide (0 ≤ n ∧ n < ns) else if kind = 6 then decide (1 ≤ n ∧ n ≤ 11) else if kind = 7 then decide (1 ≤ n ∧ n ≤ 4) else true) then 0 else 172

def reachS (Dp : List Int) (at_ d : Int) : List Int := if nth Dp at_ = 0 then Dp.set at_.toNat d else Dp
def reachB' (Dp : List Int) (at_ d : Int) : Bool := if nth Dp at_ = 0 then true else nth Dp at_ == d

theorem nth_set_self {α : Type} [Inhabited α] (l : List α) (i : Int) (x : α) (h0 : 0 ≤ i) (h : i < l.length) : nth (l.set i.toNat x) i = x := by
  unfold nth
  rw [List.getD_eq_getElem?_getD, List.getElem?_set_self (by omega)]
  rfl

def fieldsS (sh : List Shape) (a : Int) : Int := (nth sh a).fields
def stackedS (sh : List Shape) (x : Instr) (d : Int) : Int × Bool :=
  let r : Int × Bool :=
    if x.op = 1 then (d + 1, decide (x.a < d)) else if x.op = 2 ∨ x.op = 3 then (d + 1, true)
    else if x.op = 4 then (d - x.a, decide (x.a < d)) else if x.op = 5 then (d - x.a, decide (x.a < d - 1))
    else if x.op = 6 ∨ x.op = 12 then (d - 1, decide (2 < d)) else if x.op = 7 then (d - 1, decide (x.a < d))
    else if x.op = 8 then (d + (if 8000 < x.a then 8000 else x.a), decide (x.a ≤ 8000))
    else if x.op = 9 then (d - fieldsS sh x.a + 1, decide (fieldsS sh x.a < d)) else if x.op = 10 then (d - 1 + fieldsS sh x.a, decide (1 < d))
    else if x.op = 11 ∨ x.op = 14 ∨ x.op = 15 then (d, decide (1 < d)) else if x.op = 17 then (d, decide (d = 1)) else (d, true)
  (r.1, r.2 && decide (r.1 ≤ 8000))

def formT : List (List UInt8 × Int × Int) := [([], 0, 0), ([112, 117, 115, 104], 1, 0), ([103, 108, 111, 98], 4, 0), ([105, 110, 116], 3, 0), ([112, 111, 112], 1, 0), ([115, 108, 105, 100, 101], 1, 0), ([97, 112, 112, 108, 121], 0, 0), ([117, 112, 100, 97, 116, 101], 2, 0),
  ([97, 108, 108, 111, 99], 1, 0), ([112, 97, 99, 107], 5, 0), ([115, 112, 108, 105, 116], 5, 0), ([101, 118, 97, 108], 0, 0), ([97, 114, 105, 116, 104], 6, 0), ([106, 117, 109, 112], 8, 0), ([116, 101, 115, 116, 99, 111, 110], 5, 8), ([116, 101, 115, 116, 105, 110, 116], 3, 8), ([102, 97, 105, 108], 7, 0), ([117, 110, 119, 105, 110, 100], 0, 0)]
def formS (op : Int) : List UInt8 × Int × Int := if 1 ≤ op ∧ op < 18 then nth formT op else ([], 0, 0)
def vForm (f : List UInt8 × Int × Int) (ok : Bool) : V := .tup [.agg [.d false (.str f.1), .d false (.int .i64 f.2.1), .d false (.int .i64 f.2.2)], .d false (.bool ok)]

def numsS (ng ns nc i : Int) (x : Instr) : Int :=
  if 1 ≤ x.op ∧ x.op < 18 then
    let a := numberS ng ns nc i x.a (formS x.op).2.1
    let b := numberS ng ns nc i x.b (formS x.op).2.2
    if a = 172 ∨ b = 172 then 172 else if a ≠ 0 ∨ b ≠ 0 then 174 else 0
  else 172
def numsL (ng ns nc : Int) (l : List Instr) : Nat → Nat → Int
  | 0, _ => 0
  | k + 1, i => if numsS ng ns nc i (nth l i) = 0 then numsL ng ns nc l k (i + 1) else numsS ng ns nc i (nth l i)

theorem formS_kind (op : Int) : (0 ≤ (formS op).2.1 ∧ (formS op).2.1 ≤ 8) ∧ (0 ≤ (formS op).2.2 ∧ (formS op).2.2 ≤ 8) := by
  unfold formS
  by_cases h : 1 ≤ op ∧ op < 18
  · rw [if_pos h]
    have : op = 1 ∨ op = 2 ∨ op = 3 ∨ op = 4 ∨ op = 5 ∨ op = 6 ∨ op = 7 ∨ op = 8 ∨ op = 9 ∨ op = 10 ∨ op = 11 ∨ op = 12 ∨ op = 13 ∨ op = 14 ∨ op = 15 ∨ op = 16 ∨ op = 17 := by omega
    clear h
    rcases this with rfl | rfl | rfl | rfl | rfl | rfl | rfl | rfl | rfl | rfl | rfl | rfl | rfl | rfl | rfl | rfl | rfl <;> decide
  · rw [if_neg h]; decide

theorem numberS_val (ng ns nc at_ n kind : Int) : numberS ng ns nc at_ n kind = 0 ∨ numberS ng ns nc at_ n kind = 172 ∨ numberS ng ns nc at_ n kind = 174 := by
  have key : ∀ b : Bool, (if b = true then (0 : Int) else 172) = 0 ∨ (if b = true then (0 : Int) else 172) = 172 ∨ (if b = true then (0 : Int) else 172) = 174 := by
    intro b; cases b <;> simp
  unfold numberS
  split
  · split <;> simp
  · exact key _

def targI (x : Instr) : Int := if x.op = 13 then x.a else if x.op = 14 ∨ x.op = 15 then x.b else 0
def goesOn (x : Instr) : Bool := x.op != 13 && x.op != 16 && x.op != 17

def depL (sh : List Shape) (cd : List Instr) : Nat → Nat → List Int → Int
  | 0, _, _ => 0
  | k + 1, i, Dp =>
    let x := nth cd i
    let d := nth Dp i
    if d = 0 then 174 else
    if (stackedS sh x d).2 = false then 173 else
    if goesOn x = true then
      if (i : Int) + 1 = cd.length then 174 else
      if reachB' Dp (i + 1) (stackedS sh x d).1 = false then 173 else
      if 0 < targI x then
        if reachB' (reachS Dp (i + 1) (stackedS sh x d).1) (targI x) (stackedS sh x d).1 = false then 173 else depL sh cd k (i + 1) (reachS (reachS Dp (i + 1) (stackedS sh x d).1) (targI x) (stackedS sh x d).1)
      else depL sh cd k (i + 1) (reachS Dp (i + 1) (stackedS sh x d).1)
    else if 0 < targI x then
        if reachB' Dp (targI x) (stackedS sh x d).1 = false then 173 else depL sh cd k (i + 1) (reachS Dp (targI x) (stackedS sh x d).1)
      else depL sh cd k (i + 1) Dp

structure NumOk (ns nc i : Int) (x : Instr) : Prop where
  op : 1 ≤ x.op ∧ x.op < 18
  cnt : x.op = 1 ∨ x.op = 4 ∨ x.op = 5 ∨ x.op = 8 → 0 ≤ x.a
  upd : x.op = 7 → 1 ≤ x.a
  con : x.op = 9 ∨ x.op = 10 → 0 ≤ x.a ∧ x.a < ns
  jmp : x.op = 13 → i < x.a ∧ x.a < nc
  tst : x.op = 14 ∨ x.op = 15 → i < x.b ∧ x.b < nc

theorem numsS_ok {ng ns nc i : Int} {x : Instr} (h : numsS ng ns nc i x = 0) : NumOk ns nc i x := by
  unfold numsS at h
  by_cases g : 1 ≤ x.op ∧ x.op < 18
  · rw [if_pos g] at h
    have key : ∀ a b : Int, (if a = 172 ∨ b = 172 then (172 : Int) else if a ≠ 0 ∨ b ≠ 0 then 174 else 0) = 0 → a = 0 ∧ b = 0 := by
      intro a b h
      split at h
      · omega
      · split at h <;> omega
    obtain ⟨ha, hb⟩ := key _ _ h
    clear h
    have : x.op = 1 ∨ x.op = 2 ∨ x.op = 3 ∨ x.op = 4 ∨ x.op = 5 ∨ x.op = 6 ∨ x.op = 7 ∨ x.op = 8 ∨ x.op = 9 ∨ x.op = 10 ∨ x.op = 11 ∨ x.op = 12 ∨ x.op = 13 ∨ x.op = 14 ∨ x.op = 15 ∨ x.op = 16 ∨ x.op = 17 := by omega
    obtain ⟨op, a, b⟩ := x
    simp only at this ha hb g
    rcases this with rfl | rfl | rfl | rfl | rfl | rfl | rfl | rfl | rfl | rfl | rfl | rfl | rfl | rfl | rfl | rfl | rfl <;>
      simp [formS, formT, nth, numberS] at ha hb <;> exact ⟨by simp, by simp; try omega, by simp; try omega, by simp; try omega, by simp; try omega, by simp; try omega⟩
  · rw [if_neg g] at h; cases h

def ShOk (sh : List Shape) : Prop := ∀ s ∈ sh, 0 ≤ s.fields ∧ s.fields ≤ 8

theorem stacked_range {sh : List Shape} {nc i d : Int} {x : Instr} (hs : ShOk sh) (hx : NumOk sh.length nc i x) (hd : 1 ≤ d ∧ d ≤ 8000) (h : (stackedS sh x d).2 = true) : 1 ≤ (stackedS sh x d).1 ∧ (stackedS sh x d).1 ≤ 8000 := by
  obtain ⟨op, a, b⟩ := x
  have hf : (op = 9 ∨ op = 10) → 0 ≤ fieldsS sh a := fun ho => (hs _ (nth_mem (hx.con ho).1 (hx.con ho).2)).1
  have h1 := hx.op
  have h2 := hx.cnt
  have h3 := hx.upd
  simp only at h1 h2 h3
  have : op = 1 ∨ op = 2 ∨ op = 3 ∨ op = 4 ∨ op = 5 ∨ op = 6 ∨ op = 7 ∨ op = 8 ∨ op = 9 ∨ op = 10 ∨ op = 11 ∨ op = 12 ∨ op = 13 ∨ op = 14 ∨ op = 15 ∨ op = 16 ∨ op = 17 := by omega
  unfold stackedS at h ⊢
  rcases this with rfl | rfl | rfl | rfl | rfl | rfl | rfl | rfl | rfl | rfl | rfl | rfl | rfl | rfl | rfl | rfl | rfl <;> simp at h h2 h3 hf ⊢ <;> (try split at h) <;> (try split) <;> omega

theorem reachS_len (Dp : List Int) (at_ d : Int) : (reachS Dp at_ d).length = Dp.length := by
  unfold reachS; split <;> simp

def DpOk (Dp : List Int) : Prop := ∀ v ∈ Dp, 0 ≤ v ∧ v ≤ 8000
theorem reachS_ok {Dp : List Int} {at_ d : Int} (h : DpOk Dp) (hd : 0 ≤ d ∧ d ≤ 8000) : DpOk (reachS Dp at_ d) := by
  unfold reachS
  split
  · intro v hv
    rcases List.mem_or_eq_of_mem_set hv with h1 | h1
    · exact h v h1
    · subst h1; exact hd
  · exact h

end Go.Vm
end

section
namespace Go.Vm
/- 'sloth/slothref17.Numbers' -/
def f28 : Fun := ⟨
 (.seq
  (.reg [⟨[(2, .box (.sl 0)), (3, .box (.sl 1))], [], [(.bool false)], none, [2, 3], 3, [], [], []⟩])
  (.seq
   (.reg [⟨[], [(5, (.and (.bin .geq (.ld 1 false (.fa 1 (.sl 3))) (.int .i64 0)) (.bin .lss (.ld 1 false (.fa 1 (.sl 3))) (.len false (.ld 1 false (.fa 0 (.sl 2)))))))], [], none, [2, 3], 12, [], [], []⟩])
   (.seq
    (.reg [⟨[], [(6, (.and (.bin .geq (.ld 1 false (.fa 1 (.sl 3))) (.int .i64 (-4611686018427387904))) (.bin .leq (.ld 1 false (.fa 1 (.sl 3))) (.int .i64 4611686018427387903))))], [], none, [2, 3, 5], 9, [], [], []⟩])
    (.seq
     (.seq
      (.reg [⟨[], [(27, (.ld 1 false (.fa 0 (.sl 3))))], [], none, [2, 3, 5, 6], 2, [], [], []⟩])
      (.block 0
       (.seq
        (.seq
         (.reg [⟨[], [(28, (.bin .eql (.sl 27) (.int .i64 1)))], [], none, [2, 3, 5, 6, 27], 2, [], [], []⟩])
         (.cond (.sl 28)
          .skip
          (.seq
           (.reg [⟨[], [(28, (.bin .eql (.sl 27) (.int .i64 4)))], [], none, [2, 3, 5, 6, 27], 2, [], [], []⟩])
           (.cond (.sl 28)
            .skip
            (.seq
             (.reg [⟨[], [(28, (.bin .eql (.sl 27) (.int .i64 5)))], [], none, [2, 3, 5, 6, 27], 2, [], [], []⟩])
             (.cond (.sl 28)
              .skip
              (.reg [⟨[], [(28, (.bin .eql (.sl 27) (.int .i64 8)))], [], none, [2, 3, 5, 6, 27], 2, [], [], []⟩])))))))
        (.cond (.sl 28)
         (.seq
          (.reg [⟨[], [(4, (.and (.bin .geq (.ld 1 false (.fa 1 (.sl 3))) (.int .i64 0)) (.bin .eql (.ld 1 false (.fa 2 (.sl 3))) (.int .i64 0))))], [], none, [], 9, [], [], []⟩])
          (.seq
           (.tidy 0 [4])
           .ret))
         (.seq
          (.reg [⟨[], [(41, (.bin .eql (.sl 27) (.int .i64 2)))], [], none, [2, 3, 5, 6, 27], 2, [], [], []⟩])
          (.cond (.sl 41)
           (.seq
            (.reg [⟨[], [(4, (.and (.and (.bin .geq (.ld 1 false (.fa 1 (.sl 3))) (.int .i64 0)) (.bin .lss (.ld 1 false (.fa 1 (.sl 3))) (.len false (.ld 1 false (.fa 1 (.sl 2)))))) (.bin .eql (.ld 1 false (.fa 2 (.sl 3))) (.int .i64 0))))], [], none, [], 17, [], [], []⟩])
            (.seq
             (.tidy 0 [4])
             .ret))
           (.seq
            (.reg [⟨[], [(59, (.bin .eql (.sl 27) (.int .i64 3)))], [], none, [3, 5, 6, 27], 2, [], [], []⟩])
            (.cond (.sl 59)
             (.seq
              (.reg [⟨[], [(4, (.and (.sl 6) (.bin .eql (.ld 1 false (.fa 2 (.sl 3))) (.int .i64 0))))], [], none, [], 7, [], [], []⟩])
              (.seq
               (.tidy 0 [4])
               .ret))
             (.seq
              (.seq
               (.reg [⟨[], [(67, (.bin .eql (.sl 27) (.int .i64 6)))], [], none, [3, 5, 6, 27], 2, [], [], []⟩])
               (.cond (.sl 67)
                .skip
                (.seq
                 (.reg [⟨[], [(67, (.bin .eql (.sl 27) (.int .i64 11)))], [], none, [3, 5, 6, 27], 2, [], [], []⟩])
                 (.cond (.sl 67)
                  .skip
                  (.reg [⟨[], [(67, (.bin .eql (.sl 27) (.int .i64 17)))], [], none, [3, 5, 6, 27], 2, [], [], []⟩])))))
              (.cond (.sl 67)
               (.seq
                (.reg [⟨[], [(4, (.and (.bin .eql (.ld 1 false (.fa 1 (.sl 3))) (.int .i64 0)) (.bin .eql (.ld 1 false (.fa 2 (.sl 3))) (.int .i64 0))))], [], none, [], 9, [], [], []⟩])
                (.seq
                 (.tidy 0 [4])
                 .ret))
               (.seq
                (.reg [⟨[], [(79, (.bin .eql (.sl 27) (.int .i64 7)))], [], none, [3, 5, 6, 27], 2, [], [], []⟩])
                (.cond (.sl 79)
                 (.seq
                  (.reg [⟨[], [(4, (.and (.bin .geq (.ld 1 false (.fa 1 (.sl 3))) (.int .i64 1)) (.bin .eql (.ld 1 false (.fa 2 (.sl 3))) (.int .i64 0))))], [], none, [], 9, [], [], []⟩])
                  (.seq
                   (.tidy 0 [4])
                   .ret))
                 (.seq
                  (.seq
                   (.reg [⟨[], [(89, (.bin .eql (.sl 27) (.int .i64 9)))], [], none, [3, 5, 6, 27], 2, [], [], []⟩])
                   (.cond (.sl 89)
                    .skip
                    (.reg [⟨[], [(89, (.bin .eql (.sl 27) (.int .i64 10)))], [], none, [3, 5, 6, 27], 2, [], [], []⟩])))
                  (.cond (.sl 89)
                   (.seq
                    (.reg [⟨[], [(4, (.and (.sl 5) (.bin .eql (.ld 1 false (.fa 2 (.sl 3))) (.int .i64 0))))], [], none, [], 7, [], [], []⟩])
                    (.seq
                     (.tidy 0 [4])
                     .ret))
                   (.seq
                    (.reg [⟨[], [(98, (.bin .eql (.sl 27) (.int .i64 12)))], [], none, [3, 5, 6, 27], 2, [], [], []⟩])
                    (.cond (.sl 98)
                     (.seq
                      (.reg [⟨[], [(4, (.and (.and (.bin .geq (.ld 1 false (.fa 1 (.sl 3))) (.int .i64 1)) (.bin .leq (.ld 1 false (.fa 1 (.sl 3))) (.int .i64 11))) (.bin .eql (.ld 1 false (.fa 2 (.sl 3))) (.int .i64 0))))], [], none, [], 14, [], [], []⟩])
                      (.seq
                       (.tidy 0 [4])
                       .ret))
                     (.seq
                      (.reg [⟨[], [(113, (.bin .eql (.sl 27) (.int .i64 13)))], [], none, [3, 5, 6, 27], 2, [], [], []⟩])
                      (.cond (.sl 113)
                       (.seq
                        (.reg [⟨[], [(4, (.bin .eql (.ld 1 false (.fa 2 (.sl 3))) (.int .i64 0)))], [], none, [], 4, [], [], []⟩])
                        (.seq
                         (.tidy 0 [4])
                         .ret))
                       (.seq
                        (.reg [⟨[], [(118, (.bin .eql (.sl 27) (.int .i64 14)))], [], none, [3, 5, 6, 27], 2, [], [], []⟩])
                        (.cond (.sl 118)
                         (.seq
                          (.reg [⟨[], [(4, (.sl 5))], [], none, [], 2, [], [], []⟩])
                          (.seq
                           (.tidy 0 [4])
                           .ret))
                         (.seq
                          (.reg [⟨[], [(121, (.bin .eql (.sl 27) (.int .i64 15)))], [], none, [3, 6, 27], 2, [], [], []⟩])
                          (.cond (.sl 121)
                           (.seq
                            (.reg [⟨[], [(4, (.sl 6))], [], none, [], 2, [], [], []⟩])
                            (.seq
                             (.tidy 0 [4])
                             .ret))
                           (.seq
                            (.reg [⟨[], [(124, (.bin .eql (.sl 27) (.int .i64 16)))], [], none, [3], 2, [], [], []⟩])
                            (.cond (.sl 124)
                             (.seq
                              (.reg [⟨[], [(4, (.and (.and (.bin .geq (.ld 1 false (.fa 1 (.sl 3))) (.int .i64 1)) (.bin .leq (.ld 1 false (.fa 1 (.sl 3))) (.int .i64 4))) (.bin .eql (.ld 1 false (.fa 2 (.sl 3))) (.int .i64 0))))], [], none, [], 14, [], [], []⟩])
                              (.seq
                               (.tidy 0 [4])
                               .ret))
                             .skip))))))))))))))))))))))))
     (.seq
      (.reg [⟨[], [(4, (.bool false))], [], none, [], 1, [], [], []⟩])
      (.seq
       (.tidy 0 [4])
       .ret)))))),
 [(.sl 4)], false⟩
theorem f28_ok : funOk Go.Proofs.Tryz.prog 28 0 2 f28 = true := by kernel_rfl

/- 'sloth/slothref17.Needs' -/
def f29 : Fun := ⟨
 (.seq
  (.reg [⟨[(3, .box (.sl 0)), (4, .box (.sl 1))], [], [(.bool false)], none, [2, 3, 4], 3, [], [], []⟩])
  (.seq
   (.seq
    (.reg [⟨[], [(8, (.ld 1 false (.fa 0 (.sl 4))))], [], none, [2, 3, 4], 2, [], [], []⟩])
    (.block 0
     (.seq
      (.seq
       (.reg [⟨[], [(9, (.bin .eql (.sl 8) (.int .i64 1)))], [], none, [2, 3, 4, 8], 2, [], [], []⟩])
       (.cond (.sl 9)
        .skip
        (.seq
         (.reg [⟨[], [(9, (.bin .eql (.sl 8) (.int .i64 4)))], [], none, [2, 3, 4, 8], 2, [], [], []⟩])
         (.cond (.sl 9)
          .skip
          (.reg [⟨[], [(9, (.bin .eql (.sl 8) (.int .i64 7)))], [], none, [2, 3, 4, 8], 2, [], [], []⟩])))))
      (.cond (.sl 9)
       (.seq
        (.reg [⟨[], [(6, (.bin .lss (.ld 1 false (.fa 1 (.sl 4))) (.sl 2)))], [], none, [], 5, [], [], []⟩])
        (.seq
         (.tidy 0 [6])
         .ret))
       (.seq
        (.reg [⟨[], [(17, (.bin .eql (.sl 8) (.int .i64 5)))], [], none, [2, 3, 4, 8], 2, [], [], []⟩])
        (.cond (.sl 17)
         (.seq
          (.reg [⟨[], [(6, (.bin .lss (.ld 1 false (.fa 1 (.sl 4))) (.bin .sub (.sl 2) (.int .i64 1))))], [], none, [], 6, [], [], []⟩])
          (.seq
           (.tidy 0 [6])
           .ret))
         (.seq
          (.seq
           (.reg [⟨[], [(24, (.bin .eql (.sl 8) (.int .i64 6)))], [], none, [2, 3, 4, 8], 2, [], [], []⟩])
           (.cond (.sl 24)
            .skip
            (.reg [⟨[], [(24, (.bin .eql (.sl 8) (.int .i64 12)))], [], none, [2, 3, 4, 8], 2, [], [], []⟩])))
          (.cond (.sl 24)
           (.seq
            (.reg [⟨[], [(6, (.bin .gtr (.sl 2) (.int .i64 2)))], [], none, [], 3, [], [], []⟩])
            (.seq
             (.tidy 0 [6])
             .ret))
           (.seq
            (.reg [⟨[], [(29, (.bin .eql (.sl 8) (.int .i64 9)))], [], none, [2, 3, 4, 8], 2, [], [], []⟩])
            (.cond (.sl 29)
             (.seq
              (.reg [⟨[], [(6, (.bin .lss (.ld 1 false (.fa 1 (.ia 2 (.ld 1 false (.fa 0 (.sl 3))) (.ld 1 false (.fa 1 (.sl 4)))))) (.sl 2)))], [], none, [], 10, [], [], []⟩])
              (.seq
               (.tidy 0 [6])
               .ret))
             (.seq
              (.seq
               (.reg [⟨[], [(40, (.bin .eql (.sl 8) (.int .i64 10)))], [], none, [2, 8], 2, [], [], []⟩])
               (.cond (.sl 40)
                .skip
                (.seq
                 (.reg [⟨[], [(40, (.bin .eql (.sl 8) (.int .i64 11)))], [], none, [2, 8], 2, [], [], []⟩])
                 (.cond (.sl 40)
                  .skip
                  (.seq
                   (.reg [⟨[], [(40, (.bin .eql (.sl 8) (.int .i64 14)))], [], none, [2, 8], 2, [], [], []⟩])
                   (.cond (.sl 40)
                    .skip
                    (.reg [⟨[], [(40, (.bin .eql (.sl 8) (.int .i64 15)))], [], none, [2, 8], 2, [], [], []⟩])))))))
              (.cond (.sl 40)
               (.seq
                (.reg [⟨[], [(6, (.bin .gtr (.sl 2) (.int .i64 1)))], [], none, [], 3, [], [], []⟩])
                (.seq
                 (.tidy 0 [6])
                 .ret))
               (.seq
                (.reg [⟨[], [(47, (.bin .eql (.sl 8) (.int .i64 17)))], [], none, [2], 2, [], [], []⟩])
                (.cond (.sl 47)
                 (.seq
                  (.reg [⟨[], [(6, (.bin .eql (.sl 2) (.int .i64 1)))], [], none, [], 3, [], [], []⟩])
                  (.seq
                   (.tidy 0 [6])
                   .ret))
                 .skip))))))))))))))
   (.seq
    (.reg [⟨[], [(6, (.bool true))], [], none, [], 1, [], [], []⟩])
    (.seq
     (.tidy 0 [6])
     .ret)))),
 [(.sl 6)], false⟩
theorem f29_ok : funOk Go.Proofs.Tryz.prog 29 0 3 f29 = true := by kernel_rfl

/- 'sloth/slothref17.Ends' -/
def f30 : Fun := ⟨
 (.seq
  (.reg [⟨[(1, .box (.sl 0))], [], [(.bool false)], none, [1], 2, [], [], []⟩])
  (.seq
   (.reg [⟨[], [(2, (.or (.bin .eql (.ld 1 false (.fa 0 (.sl 1))) (.int .i64 16)) (.bin .eql (.ld 1 false (.fa 0 (.sl 1))) (.int .i64 17))))], [], none, [], 9, [], [], []⟩])
   (.seq
    (.tidy 0 [2])
    .ret))),
 [(.sl 2)], false⟩
theorem f30_ok : funOk Go.Proofs.Tryz.prog 30 0 1 f30 = true := by kernel_rfl

/- 'sloth/slothref17.Behind' -/
def f31 : Fun := ⟨
 (.seq
  (.reg [⟨[(3, .box (.sl 0)), (4, .box (.sl 1))], [], [(.int .i64 0)], none, [2, 3, 4], 3, [], [], []⟩])
  (.seq
   (.seq
    (.reg [⟨[], [(8, (.ld 1 false (.fa 0 (.sl 4))))], [], none, [2, 3, 4], 2, [], [], []⟩])
    (.block 0
     (.seq
      (.seq
       (.reg [⟨[], [(9, (.bin .eql (.sl 8) (.int .i64 1)))], [], none, [2, 3, 4, 8], 2, [], [], []⟩])
       (.cond (.sl 9)
        .skip
        (.seq
         (.reg [⟨[], [(9, (.bin .eql (.sl 8) (.int .i64 2)))], [], none, [2, 3, 4, 8], 2, [], [], []⟩])
         (.cond (.sl 9)
          .skip
          (.reg [⟨[], [(9, (.bin .eql (.sl 8) (.int .i64 3)))], [], none, [2, 3, 4, 8], 2, [], [], []⟩])))))
      (.cond (.sl 9)
       (.seq
        (.reg [⟨[], [(6, (.bin .add (.sl 2) (.int .i64 1)))], [], none, [], 3, [], [], []⟩])
        (.seq
         (.tidy 0 [6])
         .ret))
       (.seq
        (.seq
         (.reg [⟨[], [(15, (.bin .eql (.sl 8) (.int .i64 4)))], [], none, [2, 3, 4, 8], 2, [], [], []⟩])
         (.cond (.sl 15)
          .skip
          (.reg [⟨[], [(15, (.bin .eql (.sl 8) (.int .i64 5)))], [], none, [2, 3, 4, 8], 2, [], [], []⟩])))
        (.cond (.sl 15)
         (.seq
          (.reg [⟨[], [(6, (.bin .sub (.sl 2) (.ld 1 false (.fa 1 (.sl 4)))))], [], none, [], 5, [], [], []⟩])
          (.seq
           (.tidy 0 [6])
           .ret))
         (.seq
          (.seq
           (.reg [⟨[], [(22, (.bin .eql (.sl 8) (.int .i64 6)))], [], none, [2, 3, 4, 8], 2, [], [], []⟩])
           (.cond (.sl 22)
            .skip
            (.seq
             (.reg [⟨[], [(22, (.bin .eql (.sl 8) (.int .i64 7)))], [], none, [2, 3, 4, 8], 2, [], [], []⟩])
             (.cond (.sl 22)
              .skip
              (.reg [⟨[], [(22, (.bin .eql (.sl 8) (.int .i64 12)))], [], none, [2, 3, 4, 8], 2, [], [], []⟩])))))
          (.cond (.sl 22)
           (.seq
            (.reg [⟨[], [(6, (.bin .sub (.sl 2) (.int .i64 1)))], [], none, [], 3, [], [], []⟩])
            (.seq
             (.tidy 0 [6])
             .ret))
           (.seq
            (.reg [⟨[], [(28, (.bin .eql (.sl 8) (.int .i64 8)))], [], none, [2, 3, 4, 8], 2, [], [], []⟩])
            (.cond (.sl 28)
             (.seq
              (.reg [⟨[], [(6, (.bin .add (.sl 2) (.cond (.and (.bin .eql (.bin .and (.int .i64 8000) (.int .i64 0)) (.bin .and (.int .i64 8000) (.int .i64 0))) (.bin .lss (.int .i64 8000) (.ld 1 false (.fa 1 (.sl 4))))) (.int .i64 8000) (.ld 1 false (.fa 1 (.sl 4))))))], [(.ld 1 false (.fa 1 (.sl 4)))], none, [], 6, [], [], []⟩])
              (.seq
               (.tidy 0 [6])
               .ret))
             (.seq
              (.reg [⟨[], [(35, (.bin .eql (.sl 8) (.int .i64 9)))], [], none, [2, 3, 4, 8], 2, [], [], []⟩])
              (.cond (.sl 35)
               (.seq
                (.reg [⟨[], [(6, (.bin .add (.bin .sub (.sl 2) (.ld 1 false (.fa 1 (.ia 2 (.ld 1 false (.fa 0 (.sl 3))) (.ld 1 false (.fa 1 (.sl 4))))))) (.int .i64 1)))], [], none, [], 11, [], [], []⟩])
                (.seq
                 (.tidy 0 [6])
                 .ret))
               (.seq
                (.reg [⟨[], [(47, (.bin .eql (.sl 8) (.int .i64 10)))], [], none, [2, 3, 4], 2, [], [], []⟩])
                (.cond (.sl 47)
                 (.seq
                  (.reg [⟨[], [(6, (.bin .add (.bin .sub (.sl 2) (.int .i64 1)) (.ld 1 false (.fa 1 (.ia 2 (.ld 1 false (.fa 0 (.sl 3))) (.ld 1 false (.fa 1 (.sl 4))))))))], [], none, [], 11, [], [], []⟩])
                  (.seq
                   (.tidy 0 [6])
                   .ret))
                 .skip))))))))))))))
   (.seq
    (.reg [⟨[], [(6, (.sl 2))], [], none, [], 2, [], [], []⟩])
    (.seq
     (.tidy 0 [6])
     .ret)))),
 [(.sl 6)], false⟩
theorem f31_ok : funOk Go.Proofs.Tryz.prog 31 0 3 f31 = true := by kernel_rfl

/- 'sloth/slothref17.Target' -/
def f32 : Fun := ⟨
 (.seq
  (.reg [⟨[(1, .box (.sl 0))], [], [(.int .i64 0)], none, [1], 2, [], [], []⟩])
  (.seq
   (.seq
    (.reg [⟨[], [(4, (.ld 1 false (.fa 0 (.sl 1))))], [], none, [1], 2, [], [], []⟩])
    (.block 0
     (.seq
      (.reg [⟨[], [(5, (.bin .eql (.sl 4) (.int .i64 13)))], [], none, [1, 4], 2, [], [], []⟩])
      (.cond (.sl 5)
       (.seq
        (.reg [⟨[], [(2, (.ld 1 false (.fa 1 (.sl 1))))], [], none, [], 3, [], [], []⟩])
        (.seq
         (.tidy 0 [2])
         .ret))
       (.seq
        (.seq
         (.reg [⟨[], [(9, (.bin .eql (.sl 4) (.int .i64 14)))], [], none, [1, 4], 2, [], [], []⟩])
         (.cond (.sl 9)
          .skip
          (.reg [⟨[], [(9, (.bin .eql (.sl 4) (.int .i64 15)))], [], none, [1], 2, [], [], []⟩])))
        (.cond (.sl 9)
         (.seq
          (.reg [⟨[], [(2, (.ld 1 false (.fa 2 (.sl 1))))], [], none, [], 3, [], [], []⟩])
          (.seq
           (.tidy 0 [2])
           .ret))
         .skip))))))
   (.seq
    (.reg [⟨[], [(2, (.int .i64 (-1)))], [], none, [], 1, [], [], []⟩])
    (.seq
     (.tidy 0 [2])
     .ret)))),
 [(.sl 2)], false⟩
theorem f32_ok : funOk Go.Proofs.Tryz.prog 32 0 1 f32 = true := by kernel_rfl

/- 'sloth/slothref17.jumps' -/
def numbersR (ng ns : Int) (x : Instr) : Bool :=
  if x.op = 1 ∨ x.op = 4 ∨ x.op = 5 ∨ x.op = 8 then decide (0 ≤ x.a) && x.b == 0
  else if x.op = 2 then decide (0 ≤ x.a) && decide (x.a < ng) && x.b == 0
  else if x.op = 3 then decide (-4611686018427387904 ≤ x.a) && decide (x.a ≤ 4611686018427387903) && x.b == 0
  else if x.op = 6 ∨ x.op = 11 ∨ x.op = 17 then x.a == 0 && x.b == 0
  else if x.op = 7 then decide (1 ≤ x.a) && x.b == 0
  else if x.op = 9 ∨ x.op = 10 then decide (0 ≤ x.a) && decide (x.a < ns) && x.b == 0
  else if x.op = 12 then decide (1 ≤ x.a) && decide (x.a ≤ 11) && x.b == 0
  else if x.op = 13 then x.b == 0
  else if x.op = 14 then decide (0 ≤ x.a) && decide (x.a < ns)
  else if x.op = 15 then decide (-4611686018427387904 ≤ x.a) && decide (x.a ≤ 4611686018427387903)
  else if x.op = 16 then decide (1 ≤ x.a) && decide (x.a ≤ 4) && x.b == 0
  else false

def tabA' (sh : List Shape) (gl : List Glob) : V := .agg [.d false (.sl 2 (sh.map eShape)), .d false (.sl 3 (gl.map eGlob))]
def insA (x : Instr) : V := .agg [.d false (.int .i64 x.op), .d false (.int .i64 x.a), .d false (.int .i64 x.b)]

theorem ops17 {op : Int} (g : 1 ≤ op ∧ op < 18) : op = 1 ∨ op = 2 ∨ op = 3 ∨ op = 4 ∨ op = 5 ∨ op = 6 ∨ op = 7 ∨ op = 8 ∨ op = 9 ∨ op = 10 ∨ op = 11 ∨ op = 12 ∨ op = 13 ∨ op = 14 ∨ op = 15 ∨ op = 16 ∨ op = 17 := by omega
theorem opx {op : Int} (g : ¬ (1 ≤ op ∧ op < 18)) : (op == 1) = false ∧ (op == 2) = false ∧ (op == 3) = false ∧ (op == 4) = false ∧ (op == 5) = false ∧ (op == 6) = false ∧ (op == 7) = false ∧ (op == 8) = false ∧ (op == 9) = false ∧ (op == 10) = false ∧ (op == 11) = false ∧ (op == 12) = false ∧ (op == 13) = false ∧ (op == 14) = false ∧ (op == 15) = false ∧ (op == 16) = false ∧ (op == 17) = false := by
  simp only [beq_eq_false_iff_ne, ne_eq]
  omega
theorem opn {op : Int} (g : ¬ (1 ≤ op ∧ op < 18)) : op ≠ 1 ∧ op ≠ 2 ∧ op ≠ 3 ∧ op ≠ 4 ∧ op ≠ 5 ∧ op ≠ 6 ∧ op ≠ 7 ∧ op ≠ 8 ∧ op ≠ 9 ∧ op ≠ 10 ∧ op ≠ 11 ∧ op ≠ 12 ∧ op ≠ 13 ∧ op ≠ 14 ∧ op ≠ 15 ∧ op ≠ 16 ∧ op ≠ 17 := by omega

set_option maxHeartbeats 4000000 in
theorem ev_Numbers (K : Cx) (sh : List Shape) (gl : List Glob) (x : Instr) : runFun K f28 [tabA' sh gl, insA x] [] = some (.d false (.bool (numbersR gl.length sh.length x)), [], []) := by
  obtain ⟨op, a, b⟩ := x
  unfold tabA' insA
  by_cases g : 1 ≤ op ∧ op < 18
  · have := ops17 g
    clear g
    rcases this with rfl | rfl | rfl | rfl | rfl | rfl | rfl | rfl | rfl | rfl | rfl | rfl | rfl | rfl | rfl | rfl | rfl
    all_goals
      simp (disch := first|decide|omega|(simp only [LN];first|done|omega)) only [SV, SW, f28, Int.reduceNeg, Nat.reduceAdd, Nat.reduceBEq, oneOr]
      simp [numbersR]
  · obtain ⟨e1, e2, e3, e4, e5, e6, e7, e8, e9, e10, e11, e12, e13, e14, e15, e16, e17⟩ := opx g
    have hn := opn g
    have hr : numbersR gl.length sh.length ⟨op, a, b⟩ = false := by
      simp [numbersR, hn]
    rw [hr]
    clear g hn hr
    simp (disch := first|decide|omega|(simp only [LN];first|done|omega)) only [SV, SW, f28, Int.reduceNeg, Nat.reduceAdd, Nat.reduceBEq, e1, e4, e5, e8, e2, e3, e6, e11, e17, e7, e9, e10, e12, e13, e14, e15, e16, oneOr]

def jumpsR (x : Instr) : Bool := x.op == 13 || x.op == 14 || x.op == 15
def targetR (x : Instr) : Int := if x.op = 13 then x.a else if x.op = 14 ∨ x.op = 15 then x.b else -1
theorem ev_Target (K : Cx) (x : Instr) : runFun K f32 [insA x] [] = some (.d false (.int .i64 (targetR x)), [], []) := by
  obtain ⟨op, a, b⟩ := x
  unfold insA targetR
  by_cases h1 : op = 13
  · subst h1; simp (disch := first|decide|omega|(simp only [LN];first|done|omega)) only [SV, SW, f32, Int.reduceNeg, Nat.reduceAdd, Nat.reduceBEq, oneOr, Int.reduceEq]
  · have e1 : (op == 13) = false := by simpa using h1
    by_cases h2 : op = 14
    · subst h2; simp (disch := first|decide|omega|(simp only [LN];first|done|omega)) only [SV, SW, f32, Int.reduceNeg, Nat.reduceAdd, Nat.reduceBEq, oneOr, Int.reduceEq]
    · have e2 : (op == 14) = false := by simpa using h2
      by_cases h3 : op = 15
      · subst h3; simp (disch := first|decide|omega|(simp only [LN];first|done|omega)) only [SV, SW, f32, Int.reduceNeg, Nat.reduceAdd, Nat.reduceBEq, oneOr, Int.reduceEq]
      · have e3 : (op == 15) = false := by simpa using h3
        have hr : (if op = 13 then a else if op = 14 ∨ op = 15 then b else -1) = -1 := by simp [h1, h2, h3]
        simp only [hr]
        clear h1 h2 h3 hr
        simp (disch := first|decide|omega|(simp only [LN];first|done|omega)) only [SV, SW, f32, Int.reduceNeg, Nat.reduceAdd, Nat.reduceBEq, e1, e2, e3, oneOr]

def endsR (x : Instr) : Bool := x.op == 16 || x.op == 17
theorem ev_Ends (K : Cx) (x : Instr) : runFun K f30 [insA x] [] = some (.d false (.bool (endsR x)), [], []) := by
  unfold insA endsR
  simp (disch := first|decide|omega|(simp only [LN];first|done|omega)) only [SV, SW, f30, Nat.reduceAdd, Nat.reduceBEq, oneOr]

def needsR (sh : List Shape) (x : Instr) (d : Int) : Bool :=
  if x.op = 1 ∨ x.op = 4 ∨ x.op = 7 then decide (x.a < d)
  else if x.op = 5 then decide (x.a < d - 1)
  else if x.op = 6 ∨ x.op = 12 then decide (2 < d)
  else if x.op = 9 then decide (fieldsS sh x.a < d)
  else if x.op = 10 ∨ x.op = 11 ∨ x.op = 14 ∨ x.op = 15 then decide (1 < d)
  else if x.op = 17 then d == 1
  else true
set_option maxHeartbeats 4000000 in
theorem ev_Needs (K : Cx) (sh : List Shape) (gl : List Glob) (x : Instr) (d : Int) (hd : 1 ≤ d ∧ d ≤ 8000) (hx : x.op = 9 → 0 ≤ x.a ∧ x.a < sh.length) : runFun K f29 [tabA' sh gl, insA x, .d false (.int .i64 d)] [] = some (.d false (.bool (needsR sh x d)), [], []) := by
  obtain ⟨op, a, b⟩ := x
  obtain ⟨d1, d2⟩ := hd
  unfold tabA' insA
  by_cases g : 1 ≤ op ∧ op < 18
  · have := ops17 g
    clear g
    by_cases g9 : op = 9
    · subst g9
      obtain ⟨a1, a2⟩ := hx rfl
      simp only at a1 a2
      clear this hx
      simp (disch := first|decide|omega|(simp only [LN];first|done|omega)) only [SV, SW, f29, Nat.reduceAdd, Nat.reduceBEq, eShape_eq, oneOr]
      simp [needsR, fieldsS]
      congr
    · clear hx
      rcases this with rfl | rfl | rfl | rfl | rfl | rfl | rfl | rfl | rfl | rfl | rfl | rfl | rfl | rfl | rfl | rfl | rfl
      all_goals first | exact absurd rfl g9 | clear g9
      all_goals
        simp (disch := first|decide|omega|(simp only [LN];first|done|omega)) only [SV, SW, f29, Nat.reduceAdd, Nat.reduceBEq, oneOr]
        try simp [needsR]
  · obtain ⟨e1, e2, e3, e4, e5, e6, e7, e8, e9, e10, e11, e12, e13, e14, e15, e16, e17⟩ := opx g
    have hn := opn g
    have hr : needsR sh ⟨op, a, b⟩ d = true := by
      simp [needsR, hn]
    rw [hr]
    clear g hn hr hx
    simp (disch := first|decide|omega|(simp only [LN];first|done|omega)) only [SV, SW, f29, Nat.reduceAdd, Nat.reduceBEq, e1, e4, e7, e5, e6, e12, e9, e10, e11, e14, e15, e17, oneOr]

def behindR (sh : List Shape) (x : Instr) (d : Int) : Int :=
  if x.op = 1 ∨ x.op = 2 ∨ x.op = 3 then d + 1
  else if x.op = 4 ∨ x.op = 5 then d - x.a
  else if x.op = 6 ∨ x.op = 7 ∨ x.op = 12 then d - 1
  else if x.op = 8 then d + (if 8000 < x.a then 8000 else x.a)
  else if x.op = 9 then d - fieldsS sh x.a + 1
  else if x.op = 10 then d - 1 + fieldsS sh x.a
  else d
set_option maxHeartbeats 4000000 in
theorem ev_Behind (K : Cx) (sh : List Shape) (gl : List Glob) (x : Instr) (d : Int) (hd : 1 ≤ d ∧ d ≤ 8000) (ha : x.op = 4 ∨ x.op = 5 ∨ x.op = 8 → 0 ≤ x.a ∧ x.a ≤ 9223372036854775807) (hx : x.op = 9 ∨ x.op = 10 → 0 ≤ x.a ∧ x.a < sh.length ∧ 0 ≤ fieldsS sh x.a ∧ fieldsS sh x.a ≤ 8) :
    runFun K f31 [tabA' sh gl, insA x, .d false (.int .i64 d)] [] = some (.d false (.int .i64 (behindR sh x d)), [], []) := by
  obtain ⟨op, a, b⟩ := x
  obtain ⟨d1, d2⟩ := hd
  unfold tabA' insA
  by_cases g : 1 ≤ op ∧ op < 18
  · have := ops17 g
    clear g
    simp only at ha hx
    by_cases g9 : op = 9 ∨ op = 10
    · obtain ⟨a1, a2, a3, a4⟩ := hx g9
      clear this hx ha
      unfold fieldsS at a3 a4
      generalize hf : (nth sh a).fields = fl at a3 a4
      rcases g9 with rfl | rfl
      · simp (disch := first|decide|omega|(simp only [LN];first|done|omega)) only [SV, SW, f31, Nat.reduceAdd, Nat.reduceBEq, eShape_eq, hf, oneOr]
        simp [behindR, fieldsS, hf]
      · simp (disch := first|decide|omega|(simp only [LN];first|done|omega)) only [SV, SW, f31, Nat.reduceAdd, Nat.reduceBEq, eShape_eq, hf, oneOr]
        simp [behindR, fieldsS, hf]
    · clear hx
      by_cases g4 : op = 4 ∨ op = 5 ∨ op = 8
      · obtain ⟨a1, a2⟩ := ha g4
        clear this ha g9
        rcases g4 with rfl | rfl | rfl
        · simp (disch := first|decide|omega|(simp only [LN];first|done|omega)) only [SV, SW, f31, Nat.reduceAdd, Nat.reduceBEq, oneOr]
          simp [behindR]
        · simp (disch := first|decide|omega|(simp only [LN];first|done|omega)) only [SV, SW, f31, Nat.reduceAdd, Nat.reduceBEq, oneOr]
          simp [behindR]
        · by_cases k : 8000 < a
          · simp (disch := first|decide|omega|(simp only [LN];first|done|omega)) only [SV, SW, f31, Nat.reduceAdd, Nat.reduceBEq, oneOr]
            simp [behindR, k]
          · simp (disch := first|decide|omega|(simp only [LN];first|done|omega)) only [SV, SW, f31, Nat.reduceAdd, Nat.reduceBEq, oneOr]
            simp [behindR, k]
      · clear ha
        rcases this with rfl | rfl | rfl | rfl | rfl | rfl | rfl | rfl | rfl | rfl | rfl | rfl | rfl | rfl | rfl | rfl | rfl
        all_goals first | (exact absurd (by decide) g9) | (exact absurd (by decide) g4) | clear g9 g4
        all_goals
          simp (disch := first|decide|omega|(simp only [LN];first|done|omega)) only [SV, SW, f31, Nat.reduceAdd, Nat.reduceBEq, oneOr]
          try simp [behindR]
  · obtain ⟨e1, e2, e3, e4, e5, e6, e7, e8, e9, e10, e11, e12, e13, e14, e15, e16, e17⟩ := opx g
    have hn := opn g
    have hr : behindR sh ⟨op, a, b⟩ d = d := by
      simp [behindR, hn]
    rw [hr]
    clear g hn hr hx ha
    simp (disch := first|decide|omega|(simp only [LN];first|done|omega)) only [SV, SW, f31, Nat.reduceAdd, Nat.reduceBEq, e1, e2, e3, e4, e5, e6, e7, e12, e8, e9, e10, oneOr]

end Go.Vm
end
