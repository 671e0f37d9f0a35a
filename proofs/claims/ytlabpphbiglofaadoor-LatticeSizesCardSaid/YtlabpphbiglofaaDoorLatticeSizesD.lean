/-
  LatticeSizes comes to true.
  Conditions: the listed package-level tables read as the program's text lays them (tied by the card).
-/
import Derived.Test.YtlabpphbiglofaaDoorLatticeSizesC
import Derived.Test.YtlabpphbiglofaaDoorChecked
import Derived.Shelf.Abstract
import Derived.Lib.SliceRun
import Derived.Laws.AppendOwn
import Derived.KernelRfl
import Derived.Test.YtlabpphbiglofaaDoorRows
import Derived.Test.YtlabpphbiglofaaDoorCards
import Derived.Test.YtlabpphbiglofaaDoorTie
import Derived.ProofKit
import Derived.OpenShut
import Derived.Deep.DeepHandedRow
import Derived.Lib.LaidTab
import Derived.Lib.LaidIn
import Derived.ChangeMaps5
set_option linter.unusedVariables false
set_option linter.unusedSimpArgs false

section
set_option linter.unusedVariables false
namespace Go.Vm
open Go.RowKit Go.Shelf Go.Proofs

set_option maxHeartbeats 2000000 in
set_option maxRecDepth 100000 in
theorem tB_used (b : Nat) (w : World) (h0 : w.cell? ⟨b, 0, none⟩ = some (.pointer (some ⟨b, 0, none⟩))) :
    Calls Tryd.prog 47 #[.pointer (some ⟨b, 0, none⟩)] w fun e w' => e = .returned (.tuple #[]) ∧ w' = w := by
  obtain ⟨j, hj, _⟩ := Option.map_eq_some_iff.1 Tryd.Builder_Extra_169.sizeBuilder
  have mixed : Tryd.prog.follows .mixedOrders = true := by kernel_rfl
  have t72 := Tryd.underlying68; have a72 := Tryd.isAgg68; have z72 := Tryd.sizeOf68; have v72 := Tryd.zeroValue68; have u72 := Tryd.runUnderlying68
  have t70 := Tryd.underlying65; have a70 := Tryd.isAgg65; have z70 := Tryd.sizeOf65; have v70 := Tryd.zeroValue65; have u70 := Tryd.runUnderlying65
  have t9 := Tryd.underlying9; have a9 := Tryd.isAgg9; have z9 := Tryd.sizeOf9; have v9 := Tryd.zeroValue9; have u9 := Tryd.runUnderlying9
  have t4 := Tryd.underlying4; have a4 := Tryd.isAgg4; have z4 := Tryd.sizeOf4; have v4 := Tryd.zeroValue4; have u4 := Tryd.runUnderlying4
  have t164 := Tryd.underlying94; have a164 := Tryd.isAgg94; have z164 := Tryd.sizeOf94; have v164 := Tryd.zeroValue94; have u164 := Tryd.runUnderlying94
  go_enter Tryd.func47, Tryd.ntmps47
  go_wp2
  rw [Lib.run_neq_ptr_same w _ Tryd.underlying65 hj]
  go_wp2
  go_end0
  exact ⟨rfl, rfl⟩

set_option maxHeartbeats 2000000 in
set_option maxRecDepth 100000 in
theorem tB_fresh (b : Nat) (w : World) (h0 : w.cell? ⟨b, 0, none⟩ = some (.pointer none)) (hsh : w.shape? b = some (68, 2)) (hfz : w.frozen? ⟨b, 0, none⟩ = false) :
    Calls Tryd.prog 47 #[.pointer (some ⟨b, 0, none⟩)] w fun e w' => e = .returned (.tuple #[]) ∧ w' = w.setCell ⟨b, 0, none⟩ (.pointer (some ⟨b, 0, none⟩)) := by
  obtain ⟨j, hj, hjs⟩ := Option.map_eq_some_iff.1 Tryd.Builder_Extra_169.sizeBuilder
  have mixed : Tryd.prog.follows .mixedOrders = true := by kernel_rfl
  have t72 := Tryd.underlying68; have a72 := Tryd.isAgg68; have z72 := Tryd.sizeOf68; have v72 := Tryd.zeroValue68; have u72 := Tryd.runUnderlying68
  have t70 := Tryd.underlying65; have a70 := Tryd.isAgg65; have z70 := Tryd.sizeOf65; have v70 := Tryd.zeroValue65; have u70 := Tryd.runUnderlying65
  have t9 := Tryd.underlying9; have a9 := Tryd.isAgg9; have z9 := Tryd.sizeOf9; have v9 := Tryd.zeroValue9; have u9 := Tryd.runUnderlying9
  have t4 := Tryd.underlying4; have a4 := Tryd.isAgg4; have z4 := Tryd.sizeOf4; have v4 := Tryd.zeroValue4; have u4 := Tryd.runUnderlying4
  have t164 := Tryd.underlying94; have a164 := Tryd.isAgg94; have z164 := Tryd.sizeOf94; have v164 := Tryd.zeroValue94; have u164 := Tryd.runUnderlying94
  go_enter Tryd.func47, Tryd.ntmps47
  go_wp2
  rw [Lib.run_to_unsafe w ⟨b, 0, none⟩ Tryd.underlying65 Tryd.underlying94 hj (by rw [hjs]; decide) hsh (Nat.zero_lt_succ 1)]
  simp only [Result.andThen]
  rw [Oper.upon_value]
  go_wp2
  rw [run_callFunc_extern Tryd.func54 (by kernel_rfl) (by kernel_rfl) (by kernel_rfl) (e := Extern.AbiNoEscape.same) (by kernel_rfl)]
  rw [Lib.run_noEscape]
  simp only [Result.andThen]
  rw [Oper.upon_value]
  go_wp2
  rw [Lib.run_from_unsafe w ⟨b, 0, none⟩ Tryd.underlying94 Tryd.underlying65 hj hsh Tryd.Builder_Extra_169.liesBuilder]
  simp only [Result.andThen]
  rw [Oper.upon_value]
  go_wp2
  go_end0
  exact ⟨rfl, rfl⟩

theorem tB_copyCheck {w : World} {b : Nat} {p v : Value} {bs : List Value} (h : BAt 68 5 w b p v bs) :
    Calls Tryd.prog 47 #[.pointer (some ⟨b, 0, none⟩)] w fun e w' => e = .returned (.tuple #[]) ∧ BAt 68 5 w' b (.pointer (some ⟨b, 0, none⟩)) v bs ∧ w'.os = w.os ∧ w'.tape = w.tape ∧ w'.output = w.output ∧ SizeEq w' w ∧ ∀ k, k ≠ b → w'.heap[k]? = w.heap[k]? := by
  rcases h.hp with rfl | rfl
  · have hA : Lib.BuilderAtF 68 5 0 b (.pointer none) bs w := ⟨Nat.zero_le _, v, h.hb, h.own, h.ne⟩
    refine (tB_fresh b w hA.cell0 hA.shape hA.frozen0).mono ?_
    rintro e w' ⟨rfl, rfl⟩
    refine ⟨rfl, ⟨.inr rfl, ?_, ?_, h.ne⟩, rfl, rfl, rfl, by simp [SizeEq], fun k hk => Below.heap_setCell _ _ _ _ hk⟩
    · have := h.hb
      simp [World.setCell, Array.getElem?_modify, this]
    · exact h.own.kept (row := some b) ⟨rfl, rfl, rfl, by simp [World.setCell], fun k _ hk => Below.heap_setCell _ _ _ _ (fun e => hk (by simp [e]))⟩ (Or.inr h.ne)
  · have hA : Lib.BuilderAtF 68 5 0 b (.pointer (some ⟨b, 0, none⟩)) bs w := ⟨Nat.zero_le _, v, h.hb, h.own, h.ne⟩
    refine (tB_used b w hA.cell0).mono ?_
    rintro e w' ⟨rfl, rfl⟩
    exact ⟨rfl, h, rfl, rfl, rfl, rfl, fun _ _ => rfl⟩

set_option maxHeartbeats 2000000 in
set_option maxRecDepth 100000 in
theorem tB_WriteByte {w : World} {b : Nat} {p v : Value} {bs : List Value} (h : BAt 68 5 w b p v bs) (c : Int) (hlen : bs.length + 1 ≤ 140737488355328) :
    Calls Tryd.prog 39 #[.pointer (some ⟨b, 0, none⟩), .int .u8 c] w fun e w' => e = .returned .nilIface ∧ ∃ v', BAt 68 5 w' b (.pointer (some ⟨b, 0, none⟩)) v' (bs ++ [.int .u8 c]) ∧ Kept w w' b v v' := by
  obtain ⟨i0, hi, hz0, hz1, hz2⟩ := info_parts (show (Tryd.prog.info? 5).map (fun i => (i.zero, i.size, i.bytes)) = some (some (.int .u8 0), 1, 1) from Tryd.Builder_Extra_169.infoByte)
  have mixed : Tryd.prog.follows .mixedOrders = true := by kernel_rfl
  have t72 := Tryd.underlying68; have a72 := Tryd.isAgg68; have z72 := Tryd.sizeOf68; have v72 := Tryd.zeroValue68; have u72 := Tryd.runUnderlying68
  have t70 := Tryd.underlying65; have a70 := Tryd.isAgg65; have z70 := Tryd.sizeOf65; have v70 := Tryd.zeroValue65; have u70 := Tryd.runUnderlying65
  have t5 := Tryd.underlying5; have a5 := Tryd.isAgg5; have z5 := Tryd.sizeOf5; have v5 := Tryd.zeroValue5; have u5 := Tryd.runUnderlying5
  have t37 := Tryd.underlying66; have a37 := Tryd.isAgg66; have z37 := Tryd.sizeOf66; have v37 := Tryd.zeroValue66; have u37 := Tryd.runUnderlying66
  have t9 := Tryd.underlying9; have a9 := Tryd.isAgg9; have z9 := Tryd.sizeOf9; have v9 := Tryd.zeroValue9; have u9 := Tryd.runUnderlying9
  have t4 := Tryd.underlying4; have a4 := Tryd.isAgg4; have z4 := Tryd.sizeOf4; have v4 := Tryd.zeroValue4; have u4 := Tryd.runUnderlying4
  have t164 := Tryd.underlying94; have a164 := Tryd.isAgg94; have z164 := Tryd.sizeOf94; have v164 := Tryd.zeroValue94; have u164 := Tryd.runUnderlying94
  have e240 : ∀ args w, (callFunc 47 args).run Tryd.prog w = .ok (.enter 47 args) w := enters_of Tryd.func47 (by kernel_rfl) rfl
  go_enter Tryd.func39, Tryd.ntmps39
  go_wp2_with (go_at_fn 47; refine (tB_copyCheck h).mono ?_)
  rintro e w1 ⟨rfl, h1, o1, o2, o3, hsz1, hold1⟩
  obtain ⟨_, hbk, hown, hne⟩ := h1
  have c0 : w1.cell? ⟨b, 0, none⟩ = some (.pointer (some ⟨b, 0, none⟩)) := by rw [Lib.cell_of_heap hbk]; rfl
  have c1 : w1.cell? ⟨b, 1, none⟩ = some v := by rw [Lib.cell_of_heap hbk]; rfl
  go_wp2_with (at_builtin; refine wp_append_ownX rfl _ _ 66 rfl 5 i0 Tryd.underlying66 hi hz0 hz1 hz2 _ _ _ rfl (hown.alloc _) ⟨w1.heap.size, 0, none⟩ 1 1 [.int .u8 c] rfl rfl ?c1 ?c2 ?c3 ?c4 ?_)
  case c1 =>
    intro j u hj
    match j, hj with
    | 0, hj => simp at hj; subst hj; simp [Addr.add]
  case c2 => intro u hu; simp at hu; subst hu; rfl
  case c3 => unfold maxLen; omega
  case c4 => omega
  intro v' w2 hown' hgrow _ hsame
  have hlt : b < w1.heap.size := by
    rcases Nat.lt_or_ge b w1.heap.size with h' | h'
    · exact h'
    · simp [Array.getElem?_eq_none h'] at hbk
  have hb2 : w2.heap[b]? = some (.cells #[.pointer (some ⟨b, 0, none⟩), v] 68 (0, 0)) := by
    rw [hgrow.block b (by simp; omega) (fun e => hne e.symm), Lib.alloc_old w1 _ b hlt]
    exact hbk
  have d0 : w2.cell? ⟨b, 0, none⟩ = some (.pointer (some ⟨b, 0, none⟩)) := by rw [Lib.cell_of_heap hb2]; rfl
  have d1 : w2.cell? ⟨b, 1, none⟩ = some v := by rw [Lib.cell_of_heap hb2]; rfl
  have f1 : w2.frozen? ⟨b, 1, none⟩ = false := Lib.frozen_of_heap hb2 1
  obtain ⟨g, cap, rfl⟩ : ∃ g cap, v' = .slice (some ⟨g, 0, none⟩) (bs.length + 1) cap := by
    rcases hown'.2 with ⟨_, h0⟩ | ⟨g, cap, cur, fz, hv, _⟩
    · omega
    · exact ⟨g, cap, hv⟩
  go_wp2
  go_ret
  refine ⟨rfl, _, bld_put (by decide : (68 : TypeId) ≠ 5) (w := w) (w1 := w1.alloc (.cells #[.int .u8 c] 5)) (.inr (by simp [hsz1.eq])) ⟨o1, o2, o3⟩ (fun k hk hkb => by rw [Lib.alloc_old w1 _ k (by rw [hsz1.eq]; exact hk)]; exact hold1 k hkb) hb2 hgrow (by simpa using hown') hsame (fun g hg => (h.own.lt g hg).2)⟩

set_option maxHeartbeats 2000000 in
set_option maxRecDepth 100000 in
theorem tB_WriteString {w : World} {b : Nat} {p v : Value} {bs : List Value} (h : BAt 68 5 w b p v bs) (s : ByteArray) (hlen : bs.length + s.size ≤ 140737488355328) :
    Calls Tryd.prog 38 #[.pointer (some ⟨b, 0, none⟩), .string s] w fun e w' => e = .returned (.tuple #[.int .i64 s.size, .nilIface]) ∧ ∃ v', BAt 68 5 w' b (.pointer (some ⟨b, 0, none⟩)) v' (bs ++ Lib.strCells s) ∧ Kept w w' b v v' ∧ (v = .slice none 0 0 → s.size = 0 → v' = .slice none 0 0) := by
  obtain ⟨i0, hi, hz0, hz1, hz2⟩ := info_parts (show (Tryd.prog.info? 5).map (fun i => (i.zero, i.size, i.bytes)) = some (some (.int .u8 0), 1, 1) from Tryd.Builder_Extra_169.infoByte)
  have mixed : Tryd.prog.follows .mixedOrders = true := by kernel_rfl
  have t72 := Tryd.underlying68; have a72 := Tryd.isAgg68; have z72 := Tryd.sizeOf68; have v72 := Tryd.zeroValue68; have u72 := Tryd.runUnderlying68
  have t70 := Tryd.underlying65; have a70 := Tryd.isAgg65; have z70 := Tryd.sizeOf65; have v70 := Tryd.zeroValue65; have u70 := Tryd.runUnderlying65
  have t37 := Tryd.underlying66; have a37 := Tryd.isAgg66; have z37 := Tryd.sizeOf66; have v37 := Tryd.zeroValue66; have u37 := Tryd.runUnderlying66
  have t3 := Tryd.underlying3; have a3 := Tryd.isAgg3; have z3 := Tryd.sizeOf3; have v3 := Tryd.zeroValue3; have u3 := Tryd.runUnderlying3
  have t9 := Tryd.underlying9; have a9 := Tryd.isAgg9; have z9 := Tryd.sizeOf9; have v9 := Tryd.zeroValue9; have u9 := Tryd.runUnderlying9
  have t4 := Tryd.underlying4; have a4 := Tryd.isAgg4; have z4 := Tryd.sizeOf4; have v4 := Tryd.zeroValue4; have u4 := Tryd.runUnderlying4
  have t164 := Tryd.underlying94; have a164 := Tryd.isAgg94; have z164 := Tryd.sizeOf94; have v164 := Tryd.zeroValue94; have u164 := Tryd.runUnderlying94
  have t5 := Tryd.underlying5; have a5 := Tryd.isAgg5; have z5 := Tryd.sizeOf5; have v5 := Tryd.zeroValue5; have u5 := Tryd.runUnderlying5
  have e240 : ∀ args w, (callFunc 47 args).run Tryd.prog w = .ok (.enter 47 args) w := enters_of Tryd.func47 (by kernel_rfl) rfl
  go_enter Tryd.func38, Tryd.ntmps38
  go_wp2_with (go_at_fn 47; refine (tB_copyCheck h).mono ?_)
  rintro e w1 ⟨rfl, h1, o1, o2, o3, hsz1, hold1⟩
  obtain ⟨_, hbk, hown, hne⟩ := h1
  have c0 : w1.cell? ⟨b, 0, none⟩ = some (.pointer (some ⟨b, 0, none⟩)) := by rw [Lib.cell_of_heap hbk]; rfl
  have c1 : w1.cell? ⟨b, 1, none⟩ = some v := by rw [Lib.cell_of_heap hbk]; rfl
  go_wp2_with (at_builtin; refine wp_append_own_strX rfl _ _ 66 9 rfl 5 i0 Tryd.underlying66 Tryd.underlying9 hi hz0 hz1 hz2 _ _ _ rfl hown s rfl ?c3 ?c4 ?_)
  case c3 => unfold maxLen; omega
  case c4 => omega
  intro v' w2 hown' hgrow hnil hsame
  have hlt : b < w1.heap.size := by
    rcases Nat.lt_or_ge b w1.heap.size with h' | h'
    · exact h'
    · simp [Array.getElem?_eq_none h'] at hbk
  have hb2 : w2.heap[b]? = some (.cells #[.pointer (some ⟨b, 0, none⟩), v] 68 (0, 0)) := by
    rw [hgrow.block b hlt (fun e => hne e.symm)]
    exact hbk
  have d0 : w2.cell? ⟨b, 0, none⟩ = some (.pointer (some ⟨b, 0, none⟩)) := by rw [Lib.cell_of_heap hb2]; rfl
  have d1 : w2.cell? ⟨b, 1, none⟩ = some v := by rw [Lib.cell_of_heap hb2]; rfl
  have f1 : w2.frozen? ⟨b, 1, none⟩ = false := Lib.frozen_of_heap hb2 1
  obtain ⟨ao, n', cap, rfl⟩ : ∃ ao n' cap, v' = .slice ao n' cap := by
    rcases hown'.2 with ⟨hv, _⟩ | ⟨g, cap, cur, fz, hv, _⟩
    · exact ⟨_, _, _, hv⟩
    · exact ⟨_, _, _, hv⟩
  go_wp2
  go_ret2
  have hp := bld_put (bs' := bs ++ Lib.strCells s) (by decide : (68 : TypeId) ≠ 5) (w := w) (.inl hsz1.eq) ⟨o1, o2, o3⟩ (fun k hk hkb => hold1 k hkb) hb2 hgrow (by simpa [Lib.strCells_length] using hown') hsame (fun g hg => (h.own.lt g hg).2)
  exact ⟨rfl, _, hp.1, hp.2, fun h1 h2 => hnil.2 ⟨h1, by
    obtain ⟨⟨l⟩⟩ := s
    cases l with
    | nil => rfl
    | cons a r => simp [ByteArray.size] at h2⟩⟩

theorem tB_wb : WbOk Tryd.prog 39 68 5 := fun h c hl => tB_WriteByte h c hl
theorem tB_ws : WsOk Tryd.prog 38 68 5 := fun h s hl => tB_WriteString h s hl
end Go.Vm
end

section
namespace Go.Vm
open Go.RowKit
set_option maxRecDepth 100000

/- 'sloth/slothlaw14.LatticeSizes' -/
def f3_L0 : C :=
 (.seq
  (.seq
   (.reg [⟨[], [(50, (.bin .lss (.sl 6) (.len false (.sl 4))))], [], none, [4, 5, 6], 4, [], [], []⟩])
   (.cond (.sl 50)
    .skip
    (.seq
     (.tidy 0 [])
     (.exit 0))))
  (.seq
   (.block 1
    (.seq
     (.reg [⟨[], [(7, (.ext 0 (.call 7 (.cons (.ld 3 true (.ia 3 (.sl 4) (.sl 6))) .nil)))), (8, (.ext 1 (.call 7 (.cons (.ld 3 true (.ia 3 (.sl 4) (.sl 6))) .nil))))], [], none, [4, 5, 6], 10, [], [], []⟩])
     (.seq
      (.reg [⟨[], [(81, (.or (.or (.bin .neq (.sl 7) (.ld 1 false (.ia 1 (.sl 5) (.sl 6)))) (.eqs true false [1] (.bin .eql (.sl 8) (.int .i64 0)) (.bin .gtr (.sl 7) (.int .i64 0)))) (.and (.bin .neq (.sl 8) (.int .i64 0)) (.bin .neq (.sl 8) (.int .i64 140)))))], [], none, [4, 5, 6], 21, [], [], []⟩])
      (.cond (.sl 81)
       (.seq
        (.reg [⟨[], [(0, (.bool false))], [], none, [], 1, [], [], []⟩])
        (.seq
         (.tidy 0 [0])
         .ret))
       .skip))))
   (.reg [⟨[], [(6, (.bin .add (.sl 6) (.int .i64 1)))], [], none, [4, 5], 3, [], [], []⟩])))
def f3 : Fun := ⟨
 (.seq
  (.reg [⟨[], [], [(.bool false)], none, [], 1, [], [], []⟩])
  (.seq
   (.reg [⟨[(1, .box (.agg (.cons (.int .i64 0) (.cons (.str []) (.cons (.nilsl 3) .nil)))))], [], [], some (none, .store 3 (.sl 1) (.call 4 .nil)), [1], 3, [], [], []⟩])
   (.seq
    (.reg [⟨[(2, .box (.agg (.cons (.int .i64 0) (.cons (.str []) (.cons (.nilsl 3) .nil)))))], [], [], some (none, .store 3 (.sl 2) (.call 5 (.cons (.ld 3 true (.sl 1)) .nil))), [1, 2], 4, [], [], []⟩])
    (.seq
     (.reg [⟨[(3, .box (.agg (.cons (.int .i64 0) (.cons (.str []) (.cons (.nilsl 3) .nil)))))], [], [], some (none, .store 3 (.sl 3) (.call 6 (.cons (.ld 3 true (.sl 1)) (.cons (.ld 3 true (.sl 1)) .nil)))), [1, 2, 3], 5, [], [], []⟩])
     (.seq
      (.reg [⟨[(45, .lits 3 (.cons (.ld 3 true (.sl 1)) (.cons (.ld 3 true (.sl 2)) (.cons (.ld 3 true (.sl 3)) (.cons (.call 6 (.cons (.ld 3 true (.sl 1)) (.cons (.ld 3 true (.sl 3)) .nil))) (.cons (.call 6 (.cons (.ld 3 true (.sl 3)) (.cons (.ld 3 true (.sl 1)) .nil))) (.cons (.call 6 (.cons (.ld 3 true (.sl 1)) (.cons (.call 6 (.cons (.ld 3 true (.sl 1)) (.cons (.ld 3 true (.sl 3)) .nil))) .nil))) (.cons (.call 6 (.cons (.ld 3 true (.sl 2)) (.cons (.ld 3 true (.sl 1)) .nil))) (.cons (.call 6 (.cons (.ld 3 true (.sl 1)) (.cons (.ld 3 true (.sl 2)) .nil))) (.cons (.call 6 (.cons (.ld 3 true (.sl 2)) (.cons (.ld 3 true (.sl 2)) .nil))) (.cons (.call 6 (.cons (.ld 3 true (.sl 1)) (.cons (.call 6 (.cons (.ld 3 true (.sl 2)) (.cons (.ld 3 true (.sl 2)) .nil))) .nil))) (.cons (.call 5 (.cons (.ld 3 true (.sl 3)) .nil)) .nil))))))))))))], [(4, (.sl 45))], [], none, [], 32, [[], [], [], [], [], [4, 3], [], [], [3, 4, 5, 7, 6], [], [], [], [6, 7, 5, 4, 3, 8, 11, 10], [10, 11, 8, 3, 4, 5, 7, 6, 12, 9], [], [], [9, 12, 6, 7, 5, 4, 3, 8, 11, 10, 13, 15, 14], [], [], [14, 15, 13, 10, 11, 8, 3, 4, 5, 7, 6, 12, 9, 16, 18, 17], [], [], [17, 18, 16, 9, 12, 6, 7, 5, 4, 3, 8, 11, 10, 13, 15, 14, 19, 21, 20], [], [], [], [20, 21, 19, 14, 15, 13, 10, 11, 8, 3, 4, 5, 7, 6, 12, 9, 16, 18, 17, 22, 25, 24], [24, 25, 22, 17, 18, 16, 9, 12, 6, 7, 5, 4, 3, 8, 11, 10, 13, 15, 14, 19, 21, 20, 26, 23], [], [23, 26, 20, 21, 19, 14, 15, 13, 10, 11, 8, 3, 4, 5, 7, 6, 12, 9, 16, 18, 17, 22, 25, 24, 27, 28], [28, 29, 23, 26, 25, 24, 27, 20, 21, 22, 17, 18, 19, 14, 15, 16, 9, 12, 11, 10, 13, 6, 7, 8, 3, 4, 5, 2, 1, 0], [0, 1, 2, 5, 4, 3, 8, 7, 6, 13, 10, 11, 12, 9, 16, 15, 14, 19, 18, 17, 22, 21, 20, 27, 24, 25, 26, 23, 29, 28, 30]], [], []⟩])
      (.seq
       (.reg [⟨[(46, .lits 1 (.cons (.int .i64 2) (.cons (.int .i64 4) (.cons (.int .i64 3) (.cons (.int .i64 6) (.cons (.int .i64 4) (.cons (.int .i64 20) (.cons (.int .i64 5) (.cons (.int .i64 10) (.cons (.int .i64 35) (.cons (.int .i64 0) (.cons (.int .i64 4) .nil))))))))))))], [(5, (.sl 46))], [], none, [4], 2, [], [], []⟩])
       (.seq
        (.seq
         (.reg [⟨[], [(6, (.int .i64 0))], [], none, [4, 5], 1, [], [], []⟩])
         (.block 0
          (.seq (.tidy 0 [4, 5, 6]) (.loop (.seq (.tidy 0 [4, 5, 6]) f3_L0)))))
        (.seq
         (.reg [⟨[], [(0, (.bool true))], [], none, [], 1, [], [], []⟩])
         (.seq
          (.tidy 0 [0])
          .ret))))))))),
 [(.sl 0)], false⟩
theorem f3_ok : funOk Go.Proofs.Tryd.prog 3 0 0 f3 = true := by kernel_rfl

/- 'sloth/slothlaw14.integer' -/
def f4 : Fun := ⟨
 (.seq
  (.reg [⟨[(0, .box (.agg (.cons (.int .i64 0) (.cons (.str []) (.cons (.nilsl 3) .nil)))))], [], [], none, [0], 1, [], [], []⟩])
  (.seq
   (.reg [⟨[], [], [], some (none, .store 3 (.sl 0) (.set 0 1 (.int .i64 1) (.agg (.cons (.int .i64 0) (.cons (.str []) (.cons (.nilsl 3) .nil)))))), [0], 2, [], [], []⟩])
   (.seq
    (.tidy 0 [0])
    .ret))),
 [(.ld 3 true (.sl 0))], false⟩
theorem f4_ok : funOk Go.Proofs.Tryd.prog 4 0 0 f4 = true := by kernel_rfl

/- 'sloth/slothlaw14.list' -/
def f5 : Fun := ⟨
 (.seq
  (.reg [⟨[(1, .box (.sl 0)), (2, .box (.agg (.cons (.int .i64 0) (.cons (.str []) (.cons (.nilsl 3) .nil)))))], [], [], none, [1, 2], 2, [], [], []⟩])
  (.seq
   (.reg [⟨[(4, .lits 3 (.cons (.ld 3 true (.sl 1)) .nil))], [], [], some (none, .store 3 (.sl 2) (.set 2 1 (.sl 4) (.set 1 1 (.str [76, 105, 115, 116]) (.set 0 1 (.int .i64 4) (.agg (.cons (.int .i64 0) (.cons (.str []) (.cons (.nilsl 3) .nil)))))))), [2], 4, [], [], []⟩])
   (.seq
    (.tidy 0 [2])
    .ret))),
 [(.ld 3 true (.sl 2))], false⟩
theorem f5_ok : funOk Go.Proofs.Tryd.prog 5 0 1 f5 = true := by kernel_rfl

/- 'sloth/slothlaw14.function' -/
def f6 : Fun := ⟨
 (.seq
  (.reg [⟨[(2, .box (.sl 0)), (3, .box (.sl 1)), (4, .box (.agg (.cons (.int .i64 0) (.cons (.str []) (.cons (.nilsl 3) .nil)))))], [], [], none, [2, 3, 4], 3, [], [], []⟩])
  (.seq
   (.reg [⟨[(7, .lits 3 (.cons (.ld 3 true (.sl 2)) (.cons (.ld 3 true (.sl 3)) .nil)))], [], [], some (none, .store 3 (.sl 4) (.set 2 1 (.sl 7) (.set 0 1 (.int .i64 3) (.agg (.cons (.int .i64 0) (.cons (.str []) (.cons (.nilsl 3) .nil))))))), [4], 5, [], [], []⟩])
   (.seq
    (.tidy 0 [4])
    .ret))),
 [(.ld 3 true (.sl 4))], false⟩
theorem f6_ok : funOk Go.Proofs.Tryd.prog 6 0 2 f6 = true := by kernel_rfl

/- 'sloth/lattice.Size' -/
def f7 : Fun := ⟨
 (.seq
  (.reg [⟨[(1, .box (.sl 0))], [], [(.int .i64 0)], none, [1], 3, [], [], []⟩])
  (.seq
   (.reg [⟨[], [(4, (.call 8 (.cons (.ld 3 true (.sl 1)) .nil)))], [], none, [], 3, [], [], []⟩])
   (.seq
    (.seq
     (.reg [⟨[], [(8, (.eqs false false [4] (.sl 4) .nilp))], [], none, [4], 2, [], [], []⟩])
     (.cond (.sl 8)
      (.seq
       (.reg [⟨[], [(2, (.int .i64 0)), (3, (.int .i64 140))], [], none, [], 2, [], [], []⟩])
       (.seq
        (.tidy 0 [2, 3])
        .ret))
      .skip))
    (.seq
     (.reg [⟨[], [(2, (.ld 1 false (.fa 0 (.fa 0 (.sl 4))))), (3, (.int .i64 0))], [], none, [], 6, [], [], []⟩])
     (.seq
      (.tidy 0 [2, 3])
      .ret))))),
 [(.sl 2), (.sl 3)], false⟩
theorem f7_ok : funOk Go.Proofs.Tryd.prog 7 0 1 f7 = true := by kernel_rfl

/- 'sloth/lattice.of' -/
def f8 : Fun := ⟨
 (.seq
  (.reg [⟨[(1, .box (.sl 0))], [], [.nilp], none, [1], 2, [], [], []⟩])
  (.seq
   (.seq
    (.reg [⟨[(3, .box (.agg (.cons (.int .i64 0) (.cons (.str []) (.cons (.nilsl 3) .nil)))))], [(9, (.ext 1 (.call 9 (.cons (.ld 3 true (.sl 1)) .nil))))], [], some (none, .store 3 (.sl 3) (.ext 0 (.call 9 (.cons (.ld 3 true (.sl 1)) .nil)))), [1], 7, [], [], []⟩, ⟨[], [(4, (.sl 9))], [], none, [1], 1, [], [], []⟩])
    (.seq
     (.reg [⟨[], [(15, (.or (.bin .neq (.sl 4) (.int .i64 0)) (.call 10 (.cons (.ld 3 true (.sl 1)) .nil))))], [], none, [1], 6, [], [], []⟩])
     (.cond (.sl 15)
      (.seq
       (.reg [⟨[], [(2, .nilp)], [], none, [], 1, [], [], []⟩])
       (.seq
        (.tidy 0 [2])
        .ret))
      .skip)))
   (.seq
    (.reg [⟨[(17, .mkm), (19, .box (.set 0 1 (.sl 17) (.agg (.cons .nilm .nil))))], [(16, (.ld 3 true (.sl 1)))], [], none, [19], 4, [], [], []⟩, ⟨[], [], [], some (some 20, .calle 11 (.cons (.sl 16) (.cons (.sl 19) .nil))), [], 1, [], [], []⟩, ⟨[], [(2, (.sl 20))], [], none, [], 1, [], [], []⟩])
    (.seq
     (.tidy 0 [2])
     .ret)))),
 [(.sl 2)], false⟩
theorem f8_ok : funOk Go.Proofs.Tryd.prog 8 0 1 f8 = true := by kernel_rfl

/- 'sloth/lattice.varies' -/
def f10 : Fun := ⟨
 (.seq
  (.reg [⟨[(1, .box (.sl 0))], [], [(.bool false)], none, [1], 2, [], [], []⟩])
  (.seq
   (.reg [⟨[], [(2, (.or (.bin .eql (.ld 1 false (.fa 0 (.sl 1))) (.int .i64 2)) (.call 16 (.cons (.ld 1 false (.fa 2 (.sl 1))) (.cons (.mkf 10 .nil) .nil)))))], [], none, [], 9, [], [], []⟩])
   (.seq
    (.tidy 0 [2])
    .ret))),
 [(.sl 2)], false⟩
theorem f10_ok : funOk Go.Proofs.Tryd.prog 10 0 1 f10 = true := by kernel_rfl

/- 'sloth/lattice.build' -/
def f11 : Fun := ⟨
 (.seq
  (.reg [⟨[(2, .box (.sl 0)), (3, .box (.sl 1))], [], [.nilp], none, [2, 3], 3, [], [], []⟩])
  (.seq
   (.block 0
    (.seq
     (.reg [⟨[], [(7, (.and (.bin .eql (.ld 1 false (.fa 0 (.sl 2))) (.int .i64 4)) (.bin .eql (.ld 1 false (.fa 1 (.sl 2))) (.str [76, 105, 115, 116]))))], [], none, [2, 3], 9, [], [], []⟩])
     (.cond (.sl 7)
      (.seq
       (.seq
        (.reg [⟨[], [(19, (.bin .neq (.len false (.ld 1 false (.fa 2 (.sl 2)))) (.int .i64 1)))], [], none, [], 4, [], [], []⟩])
        (.cond (.sl 19)
         (.seq
          (.reg [⟨[], [(4, .nilp)], [], none, [], 1, [], [], []⟩])
          (.seq
           (.tidy 2 [4])
           .ret))
         .skip))
       (.seq
        (.reg [⟨[(21, .box (.set 0 1 (.int .i64 4) (.agg (.cons (.int .i64 0) (.cons .nilp (.cons .nilp (.cons (.nilsl 1) (.cons (.nilsl 1) .nil))))))))], [(4, (.sl 21))], [], none, [], 3, [], [], []⟩])
        (.seq
         (.tidy 2 [4])
         .ret)))
      (.seq
       (.reg [⟨[], [(22, (.bin .neq (.ld 1 false (.fa 0 (.sl 2))) (.int .i64 3)))], [], none, [2, 3], 4, [], [], []⟩])
       (.cond (.sl 22)
        (.seq
         (.reg [⟨[(27, .box (.set 0 1 (.int .i64 2) (.agg (.cons (.int .i64 0) (.cons .nilp (.cons .nilp (.cons (.nilsl 1) (.cons (.nilsl 1) .nil))))))))], [(4, (.sl 27))], [], none, [], 3, [], [], []⟩])
         (.seq
          (.tidy 2 [4])
          .ret))
        .skip)))))
   (.seq
    (.reg [⟨[], [(5, (.ext 0 (.call 17 (.cons (.ld 3 true (.sl 2)) .nil))))], [(.ext 1 (.call 17 (.cons (.ld 3 true (.sl 2)) .nil)))], none, [2, 3], 7, [], [], []⟩])
    (.seq
     (.seq
      (.reg [⟨[], [(34, (.bin .eql (.sl 5) (.str [])))], [], none, [2, 3, 5], 2, [], [], []⟩])
      (.cond (.sl 34)
       (.seq
        (.reg [⟨[], [], [], some (some 37, .calle 18 (.cons (.ld 3 true (.sl 2)) (.cons (.ld 1 false (.sl 3)) .nil))), [], 3, [], [], []⟩, ⟨[], [(4, (.sl 37))], [], none, [], 1, [], [], []⟩])
        (.seq
         (.tidy 2 [4])
         .ret))
       .skip))
     (.seq
      (.reg [⟨[], [], [], some (some 41, .calle 19 (.cons (.ld 1 false (.sl 3)) (.cons (.sl 5) (.cons (.mkf 20 (.cons (.sl 2) (.cons (.sl 3) .nil))) .nil)))), [], 4, [], [], []⟩, ⟨[], [(4, (.sl 41))], [], none, [], 1, [], [], []⟩])
      (.seq
       (.tidy 2 [4])
       .ret)))))),
 [(.sl 4)], false⟩
theorem f11_ok : funOk Go.Proofs.Tryd.prog 11 2 2 f11 = true := by kernel_rfl

/- 'sloth/types.wrong' -/
def f12 : Fun := ⟨
 (.seq
  (.reg [⟨[(1, .box (.sl 0))], [], [(.int .i64 0)], none, [1], 2, [], [], []⟩])
  (.seq
   (.block 0
    (.seq
     (.reg [⟨[], [(3, (.un .not (.call 21 (.cons (.ld 3 true (.sl 1)) .nil))))], [], none, [1], 4, [], [], []⟩])
     (.cond (.sl 3)
      (.seq
       (.reg [⟨[], [(2, (.int .i64 53))], [], none, [], 1, [], [], []⟩])
       (.seq
        (.tidy 0 [2])
        .ret))
      (.seq
       (.reg [⟨[], [(7, (.bin .gtr (.call 22 (.cons (.ld 3 true (.sl 1)) .nil)) (.int .i64 500)))], [], none, [], 4, [], [], []⟩])
       (.cond (.sl 7)
        (.seq
         (.reg [⟨[], [(2, (.int .i64 4))], [], none, [], 1, [], [], []⟩])
         (.seq
          (.tidy 0 [2])
          .ret))
        .skip)))))
   (.seq
    (.reg [⟨[], [(2, (.int .i64 0))], [], none, [], 1, [], [], []⟩])
    (.seq
     (.tidy 0 [2])
     .ret)))),
 [(.sl 2)], false⟩
theorem f12_ok : funOk Go.Proofs.Tryd.prog 12 0 1 f12 = true := by kernel_rfl

/- 'sloth/types.replaced' -/
def f15_L0 : C :=
 (.seq
  (.reg [⟨[], [(29, (.bin .lss (.sl 28) (.sl 27)))], [], none, [1, 2, 4, 27, 28], 1, [], [], []⟩])
  (.seq
   (.cond (.sl 29)
    .skip
    (.seq
     (.tidy 1 [2, 4])
     (.exit 0)))
   (.seq
    (.block 1
     (.seq
      (.reg [⟨[], [(7, (.sl 28))], [], none, [1, 2, 4, 27, 28], 2, [], [], []⟩])
      (.reg [⟨[], [(32, (.ld 1 false (.fa 2 (.sl 2)))), (33, (.sl 7))], [], some (some 40, .calle 15 (.cons (.ld 3 true (.ia 3 (.ld 1 false (.fa 2 (.sl 2))) (.sl 7))) (.cons (.sl 1) .nil))), [1, 2, 4, 27, 28], 10, [[], [0], [], [], [3], [], [5, 3, 4], [4, 3, 5, 6], [], [8, 6, 5, 3, 4, 7], [9, 8, 7, 6, 5, 4, 3, 2, 0, 1], [1, 0, 2, 3, 4, 5, 6, 7, 8, 9, 10]], [], [(.fa 2 (.sl 2)), (.ld 1 false (.fa 2 (.sl 2))), (.sl 7)]⟩, ⟨[], [], [], some (none, .store 3 (.ia 3 (.sl 32) (.sl 33)) (.sl 40)), [1, 2, 4, 27, 28], 2, [], [], []⟩])))
    (.reg [⟨[], [(28, (.bin .add (.sl 28) (.int .i64 1)))], [], none, [1, 2, 4, 27], 2, [], [], []⟩]))))
def f15 : Fun := ⟨
 (.seq
  (.reg [⟨[(2, .box (.sl 0)), (4, .box (.agg (.cons (.int .i64 0) (.cons (.str []) (.cons (.nilsl 3) .nil)))))], [], [], none, [1, 2, 4], 2, [], [], []⟩])
  (.seq
   (.seq
    (.reg [⟨[], [(10, (.bin .eql (.ld 1 false (.fa 0 (.sl 2))) (.int .i64 2)))], [], none, [1, 2, 4], 3, [], [], []⟩])
    (.cond (.sl 10)
     (.seq
      (.reg [⟨[(5, .box (.agg (.cons (.int .i64 0) (.cons (.str []) (.cons (.nilsl 3) .nil)))))], [(17, (.ext 1 (.lkp true 2 (.agg (.cons (.int .i64 0) (.cons (.str []) (.cons (.nilsl 3) .nil)))) (.sl 1) (.ld 1 false (.fa 1 (.sl 2))))))], [], some (none, .store 3 (.sl 5) (.ext 0 (.lkp true 2 (.agg (.cons (.int .i64 0) (.cons (.str []) (.cons (.nilsl 3) .nil)))) (.sl 1) (.ld 1 false (.fa 1 (.sl 2)))))), [1, 2, 4, 5], 9, [], [], []⟩, ⟨[], [(6, (.sl 17))], [], none, [1, 2, 4, 5], 1, [], [], []⟩])
      (.seq
       (.reg [⟨[], [(18, (.sl 6))], [], none, [1, 2, 4, 5], 1, [], [], []⟩])
       (.cond (.sl 18)
        (.seq
         (.reg [⟨[], [], [], some (none, .store 3 (.sl 4) (.call 26 (.cons (.ld 3 true (.sl 5)) .nil))), [4], 3, [], [], []⟩])
         (.seq
          (.tidy 1 [4])
          .ret))
        .skip)))
     .skip))
   (.seq
    (.reg [⟨[(23, .callo 27 (.cons (.ld 1 false (.fa 2 (.sl 2))) .nil))], [], [], some (none, .store 1 (.fa 2 (.sl 2)) (.sl 23)), [1, 2, 4], 5, [], [], []⟩])
    (.seq
     (.seq
      (.reg [⟨[], [(27, (.len false (.ld 1 false (.fa 2 (.sl 2))))), (28, (.int .i64 0))], [], none, [1, 2, 4], 4, [], [], []⟩])
      (.block 0
       (.seq (.tidy 1 [1, 2, 4, 27, 28]) (.loop (.seq (.tidy 1 [1, 2, 4, 27, 28]) f15_L0)))))
     (.seq
      (.reg [⟨[], [], [], some (none, .store 3 (.sl 4) (.ld 3 true (.sl 2))), [4], 2, [], [], []⟩])
      (.seq
       (.tidy 1 [4])
       .ret)))))),
 [(.ld 3 true (.sl 4))], false⟩
theorem f15_ok : funOk Go.Proofs.Tryd.prog 15 1 2 f15 = true := by kernel_rfl

/- 'slices.ContainsFunc[[]sloth/api.Type,sloth/api.Type]' -/
def f16 : Fun := ⟨
 (.seq
  (.reg [⟨[], [], [(.bool false)], none, [0, 1], 1, [], [], []⟩])
  (.seq
   (.reg [⟨[], [(4, (.bin .geq (.call 28 (.cons (.sl 0) (.cons (.sl 1) .nil))) (.int .i64 0)))], [], none, [], 5, [], [], []⟩])
   (.seq
    (.tidy 0 [4])
    .ret))),
 [(.sl 4)], false⟩
theorem f16_ok : funOk Go.Proofs.Tryd.prog 16 0 2 f16 = true := by kernel_rfl

/- 'sloth/types.Print' -/
def f17 : Fun := ⟨
 (.seq
  (.reg [⟨[(1, .box (.sl 0))], [], [(.int .i64 0), (.str [])], none, [1], 3, [], [], []⟩])
  (.seq
   (.seq
    (.reg [⟨[], [(4, (.call 12 (.cons (.ld 3 true (.sl 1)) .nil)))], [], none, [1], 3, [], [], []⟩])
    (.seq
     (.reg [⟨[], [(9, (.bin .neq (.sl 4) (.int .i64 0)))], [], none, [1, 4], 2, [], [], []⟩])
     (.cond (.sl 9)
      (.seq
       (.reg [⟨[], [(2, (.str [])), (3, (.sl 4))], [], none, [], 3, [], [], []⟩])
       (.seq
        (.tidy 0 [2, 3])
        .ret))
      .skip)))
   (.seq
    (.reg [⟨[(5, .bld 68 5)], [], [], none, [1, 5], 1, [], [], []⟩])
    (.seq
     (.reg [⟨[], [], [], some (some 12, .calle 29 (.cons (.sl 5) (.cons (.ld 3 true (.sl 1)) .nil))), [5], 2, [], [], []⟩])
     (.seq
      (.seq
       (.reg [⟨[], [], [], some (some 13, .calle 30 (.cons (.sl 5) .nil)), [5], 1, [], [], []⟩, ⟨[], [(14, (.bin .gtr (.sl 13) (.int .i64 65536)))], [], none, [5], 1, [], [], []⟩])
       (.cond (.sl 14)
        (.seq
         (.reg [⟨[], [(2, (.str [])), (3, (.int .i64 4))], [], none, [], 2, [], [], []⟩])
         (.seq
          (.tidy 0 [2, 3])
          .ret))
        .skip))
      (.seq
       (.reg [⟨[], [], [], some (some 15, .calle 31 (.cons (.sl 5) .nil)), [], 1, [], [], []⟩, ⟨[], [(2, (.sl 15)), (3, (.int .i64 0))], [], none, [], 2, [], [], []⟩])
       (.seq
        (.tidy 0 [2, 3])
        .ret))))))),
 [(.sl 2), (.sl 3)], false⟩
theorem f17_ok : funOk Go.Proofs.Tryd.prog 17 0 1 f17 = true := by kernel_rfl

/- 'sloth/lattice.functions' -/
def f18_L0 : C :=
 (.seq
  (.reg [⟨[], [(61, (.bin .lss (.sl 60) (.sl 59)))], [], none, [7, 8, 9, 47, 48, 59, 60], 1, [], [], []⟩])
  (.seq
   (.cond (.sl 61)
    .skip
    (.seq
     (.tidy 2 [7, 9, 47, 48])
     (.exit 2)))
   (.seq
    (.block 3
     (.seq
      (.reg [⟨[], [(10, (.sl 60))], [], none, [7, 8, 9, 47, 48, 59, 60], 2, [], [], []⟩])
      (.reg [⟨[], [], [], some (none, .store 1 (.ia 1 (.sl 9) (.sl 10)) (.call 33 (.cons (.sl 7) (.cons (.sl 8) (.cons (.sl 10) .nil))))), [7, 8, 9, 47, 48, 59, 60], 8, [], [], []⟩])))
    (.reg [⟨[], [(60, (.bin .add (.sl 60) (.int .i64 1)))], [], none, [7, 8, 9, 47, 48, 59], 2, [], [], []⟩]))))
def f18_L1 : C :=
 (.seq
  (.reg [⟨[], [(49, (.bin .lss (.sl 48) (.sl 47)))], [], none, [7, 47, 48], 1, [], [], []⟩])
  (.seq
   (.cond (.sl 49)
    .skip
    (.seq
     (.tidy 2 [7])
     (.exit 0)))
   (.seq
    (.block 1
     (.seq
      (.reg [⟨[], [(8, (.sl 48))], [], none, [7, 47, 48], 2, [], [], []⟩])
      (.seq
       (.reg [⟨[(55, .mks 1 (.cons (.bool false) .nil) (.ld 1 false (.fa 0 (.fa 0 (.sl 7)))) (.ld 1 false (.fa 0 (.fa 0 (.sl 7)))))], [(9, (.sl 55))], [], none, [7, 8, 47, 48], 6, [], [], []⟩])
       (.seq
        (.seq
         (.reg [⟨[], [(59, (.ld 1 false (.fa 0 (.fa 0 (.sl 7))))), (60, (.int .i64 0))], [], none, [7, 8, 9, 47, 48], 5, [], [], []⟩])
         (.block 2
          (.seq (.tidy 2 [7, 8, 9, 47, 48, 59, 60]) (.loop (.seq (.tidy 2 [7, 8, 9, 47, 48, 59, 60]) f18_L0)))))
        (.regg 2 [(⟨[9], none⟩, ⟨[(77, .lits 1 (.cons (.sl 9) .nil))], [(71, (.sl 7))], [], some (some 78, .app 1 (.ld 1 false (.fa 4 (.fa 0 (.sl 7)))) (.sl 77)), [7, 47, 48], 8, [], [], []⟩), (⟨[], none⟩, ⟨[], [], [], some (none, .store 1 (.fa 4 (.fa 0 (.sl 71))) (.sl 78)), [7, 47, 48], 3, [], [], []⟩)])))))
    (.reg [⟨[], [(48, (.bin .add (.sl 48) (.int .i64 1)))], [], none, [7, 47], 2, [], [], []⟩]))))
def f18 : Fun := ⟨
 (.seq
  (.reg [⟨[(2, .box (.sl 0))], [], [.nilp], none, [1, 2], 2, [], [], []⟩])
  (.seq
   (.regg 2 [(⟨[2], none⟩, ⟨[], [(20, (.ld 3 true (.ia 3 (.ld 1 false (.fa 2 (.sl 2))) (.int .i64 1)))), (21, (.sl 1))], [], some (some 16, .calle 11 (.cons (.ld 3 true (.ia 3 (.ld 1 false (.fa 2 (.sl 2))) (.int .i64 0))) (.cons (.sl 1) .nil))), [], 11, [[], [0], [0, 1], [1, 0, 2], [], [4, 2, 0, 1, 3], [], [6], [6, 7], [7, 6, 8], [], [3, 1, 0, 2, 4, 5, 10, 8, 6, 7, 9], [9, 7, 6, 8, 10, 11, 3, 1, 0, 2, 4, 5], [12, 9, 7, 6, 8, 10, 5, 4, 2, 0, 1, 3, 11]], [], [(.fa 2 (.sl 2)), (.ld 1 false (.fa 2 (.sl 2))), (.ia 3 (.ld 1 false (.fa 2 (.sl 2))) (.int .i64 1)), (.ld 3 true (.ia 3 (.ld 1 false (.fa 2 (.sl 2))) (.int .i64 1))), (.sl 1)]⟩), (⟨[], none⟩, ⟨[], [], [], some (some 22, .calle 11 (.cons (.sl 20) (.cons (.sl 21) .nil))), [16], 1, [], [], []⟩), (⟨[], none⟩, ⟨[], [(5, (.sl 16)), (6, (.sl 22))], [], none, [], 2, [], [], []⟩)])
   (.seq
    (.seq
     (.reg [⟨[], [(28, (.or (.eqs false false [4] (.sl 5) .nilp) (.eqs false false [4] (.sl 6) .nilp)))], [], none, [5, 6], 6, [], [], []⟩])
     (.cond (.sl 28)
      (.seq
       (.reg [⟨[], [(4, .nilp)], [], none, [], 1, [], [], []⟩])
       (.seq
        (.tidy 2 [4])
        .ret))
      .skip))
    (.seq
     (.reg [⟨[(32, .box (.set 2 1 (.sl 6) (.set 1 1 (.sl 5) (.agg (.cons (.int .i64 0) (.cons .nilp (.cons .nilp (.cons (.nilsl 1) (.cons (.nilsl 1) .nil)))))))))], [(7, (.sl 32))], [], none, [], 5, [], [], []⟩])
     (.seq
      (.seq
       (.seq
        (.ownc 7 3 1)
        (.reg [⟨[], [], [], some (some 34, .calle 32 (.cons (.sl 7) (.cons (.nilsl 1) .nil))), [7], 2, [], [], []⟩, ⟨[], [(35, (.un .not (.sl 34)))], [], none, [7], 1, [], [], []⟩]))
       (.cond (.sl 35)
        (.seq
         (.reg [⟨[], [(4, .nilp)], [], none, [], 1, [], [], []⟩])
         (.seq
          (.tidy 2 [4])
          .ret))
        .skip))
      (.seq
       (.reg [⟨[], [], [], some (none, .store 1 (.fa 0 (.fa 0 (.sl 7))) (.len false (.ld 1 false (.fa 3 (.fa 0 (.sl 7)))))), [7], 9, [], [], []⟩])
       (.seq
        (.seq
         (.reg [⟨[], [(47, (.ld 1 false (.fa 0 (.fa 0 (.sl 7))))), (48, (.int .i64 0))], [], none, [7], 5, [], [], []⟩])
         (.block 0
          (.seq (.tidy 2 [7, 47, 48]) (.loop (.seq (.tidy 2 [7, 47, 48]) f18_L1)))))
        (.seq
         (.reg [⟨[], [(4, (.sl 7))], [], none, [], 2, [], [], []⟩])
         (.seq
          (.tidy 2 [4])
          .ret))))))))),
 [(.sl 4)], false⟩
theorem f18_ok : funOk Go.Proofs.Tryd.prog 18 2 2 f18 = true := by kernel_rfl

/- '(*sloth/lattice.kept[string, *sloth/lattice.order]).get' -/
def f19 : Fun := ⟨
 (.seq
  (.reg [⟨[], [], [.nilp], none, [0, 1, 2], 1, [], [], []⟩])
  (.seq
   (.seq
    (.reg [⟨[], [(7, (.ext 0 (.lkp true 2 .nilp (.ld 1 false (.fa 0 (.fa 0 (.sl 0)))) (.sl 1)))), (8, (.ext 1 (.lkp true 2 .nilp (.ld 1 false (.fa 0 (.fa 0 (.sl 0)))) (.sl 1))))], [], none, [0, 1, 2], 11, [], [], []⟩])
    (.seq
     (.reg [⟨[], [(19, (.sl 8))], [], none, [0, 1, 2, 7], 1, [], [], []⟩])
     (.cond (.sl 19)
      (.seq
       (.reg [⟨[], [(6, (.sl 7))], [], none, [], 2, [], [], []⟩])
       (.seq
        (.tidy 4 [6])
        .ret))
      .skip)))
   (.seq
    (.reg [⟨[], [], [], some (some 22, .calle 4294967295 (.cons (.sl 2) .nil)), [0, 1], 2, [], [], []⟩, ⟨[], [(9, (.sl 22))], [], none, [0, 1], 1, [], [], []⟩])
    (.seq
     (.reg [⟨[], [], [], some (none, .mset 2 (.ld 1 false (.fa 0 (.fa 0 (.sl 0)))) (.sl 1) (.sl 9)), [9], 7, [], [], []⟩])
     (.seq
      (.reg [⟨[], [(6, (.sl 9))], [], none, [], 2, [], [], []⟩])
      (.seq
       (.tidy 4 [6])
       .ret)))))),
 [(.sl 6)], false⟩
theorem f19_ok : funOk Go.Proofs.Tryd.prog 19 4 3 f19 = true := by kernel_rfl

/- 'sloth/lattice.build$1' -/
def f20 : Fun := ⟨
 (.seq
  (.reg [⟨[], [], [.nilp], none, [0, 1], 1, [], [], []⟩])
  (.seq
   (.reg [⟨[], [], [], some (some 5, .calle 18 (.cons (.ld 3 true (.sl 0)) (.cons (.ld 1 false (.sl 1)) .nil))), [], 3, [], [], []⟩, ⟨[], [(2, (.sl 5))], [], none, [], 1, [], [], []⟩])
   (.seq
    (.tidy 4 [2])
    .ret))),
 [(.sl 2)], false⟩
theorem f20_ok : funOk Go.Proofs.Tryd.prog 20 4 2 f20 = true := by kernel_rfl

/- 'sloth/types.may' -/
def f21 : Fun := ⟨
 (.seq
  (.reg [⟨[(1, .box (.sl 0))], [], [(.bool false)], none, [1], 2, [], [], []⟩])
  (.seq
   (.reg [⟨[], [(3, (.int .i64 0))], [], none, [1], 1, [], [], []⟩])
   (.seq
    (.seq
     (.reg [⟨[], [(5, (.ld 1 false (.fa 0 (.sl 1))))], [], none, [1, 3], 2, [], [], []⟩])
     (.block 0
      (.seq
       (.reg [⟨[], [(6, (.bin .eql (.sl 5) (.int .i64 1)))], [], none, [1, 3, 5], 2, [], [], []⟩])
       (.cond (.sl 6)
        (.seq
         (.reg [⟨[], [(10, (.bin .neq (.ld 1 false (.fa 1 (.sl 1))) (.str [])))], [], none, [1, 3], 3, [], [], []⟩])
         (.cond (.sl 10)
          (.seq
           (.reg [⟨[], [(2, (.bool false))], [], none, [], 1, [], [], []⟩])
           (.seq
            (.tidy 0 [2])
            .ret))
          .skip))
        (.seq
         (.reg [⟨[], [(11, (.bin .eql (.sl 5) (.int .i64 2)))], [], none, [1, 3, 5], 2, [], [], []⟩])
         (.cond (.sl 11)
          (.seq
           (.reg [⟨[], [(16, (.un .not (.call 34 (.cons (.ld 1 false (.fa 1 (.sl 1))) .nil))))], [], none, [1, 3], 4, [], [], []⟩])
           (.cond (.sl 16)
            (.seq
             (.reg [⟨[], [(2, (.bool false))], [], none, [], 1, [], [], []⟩])
             (.seq
              (.tidy 0 [2])
              .ret))
            .skip))
          (.seq
           (.reg [⟨[], [(17, (.bin .eql (.sl 5) (.int .i64 3)))], [], none, [1, 5], 2, [], [], []⟩])
           (.cond (.sl 17)
            (.seq
             (.seq
              (.reg [⟨[], [(21, (.bin .neq (.ld 1 false (.fa 1 (.sl 1))) (.str [])))], [], none, [1], 3, [], [], []⟩])
              (.cond (.sl 21)
               (.seq
                (.reg [⟨[], [(2, (.bool false))], [], none, [], 1, [], [], []⟩])
                (.seq
                 (.tidy 0 [2])
                 .ret))
               .skip))
             (.reg [⟨[], [(3, (.int .i64 2))], [], none, [1], 1, [], [], []⟩]))
            (.seq
             (.reg [⟨[], [(22, (.bin .eql (.sl 5) (.int .i64 4)))], [], none, [1], 2, [], [], []⟩])
             (.cond (.sl 22)
              (.seq
               (.seq
                (.reg [⟨[], [(33, (.or (.un .not (.call 35 (.cons (.ld 1 false (.fa 1 (.sl 1))) .nil))) (.bin .gtr (.len false (.ld 1 false (.fa 2 (.sl 1)))) (.int .i64 6))))], [], none, [1], 10, [], [], []⟩])
                (.cond (.sl 33)
                 (.seq
                  (.reg [⟨[], [(2, (.bool false))], [], none, [], 1, [], [], []⟩])
                  (.seq
                   (.tidy 0 [2])
                   .ret))
                 .skip))
               (.reg [⟨[], [(3, (.len false (.ld 1 false (.fa 2 (.sl 1)))))], [], none, [1], 4, [], [], []⟩]))
              (.seq
               (.reg [⟨[], [(2, (.bool false))], [], none, [], 1, [], [], []⟩])
               (.seq
                (.tidy 0 [2])
                .ret))))))))))))
    (.seq
     (.reg [⟨[], [(2, (.and (.bin .eql (.len false (.ld 1 false (.fa 2 (.sl 1)))) (.sl 3)) (.un .not (.call 16 (.cons (.ld 1 false (.fa 2 (.sl 1))) (.cons (.mkf 36 .nil) .nil))))))], [], none, [], 12, [], [], []⟩])
     (.seq
      (.tidy 0 [2])
      .ret))))),
 [(.sl 2)], false⟩
theorem f21_ok : funOk Go.Proofs.Tryd.prog 21 0 1 f21 = true := by kernel_rfl

/- 'sloth/types.nodes' -/
def f22_L0 : C :=
 (.seq
  (.reg [⟨[], [(10, (.bin .lss (.sl 9) (.sl 8)))], [], none, [3, 7, 8, 9], 1, [], [], []⟩])
  (.seq
   (.cond (.sl 10)
    .skip
    (.seq
     (.tidy 0 [3])
     (.exit 0)))
   (.seq
    (.block 1
     (.seq
      (.reg [⟨[(5, .box (.agg (.cons (.int .i64 0) (.cons (.str []) (.cons (.nilsl 3) .nil)))))], [], [], some (none, .store 3 (.sl 5) (.ld 3 true (.ia 3 (.sl 7) (.sl 9)))), [3, 5, 7, 8, 9], 4, [], [], []⟩])
      (.seq
       (.seq
        (.reg [⟨[], [(14, (.bin .gtr (.sl 3) (.int .i64 500)))], [], none, [3, 5, 7, 8, 9], 2, [], [], []⟩])
        (.cond (.sl 14)
         (.seq
          (.tidy 0 [3])
          (.exit 0))
         .skip))
       (.reg [⟨[], [(3, (.bin .add (.sl 3) (.call 22 (.cons (.ld 3 true (.sl 5)) .nil))))], [], none, [7, 8, 9], 5, [], [], []⟩]))))
    (.reg [⟨[], [(9, (.bin .add (.sl 9) (.int .i64 1)))], [], none, [3, 7, 8], 2, [], [], []⟩]))))
def f22 : Fun := ⟨
 (.seq
  (.reg [⟨[(1, .box (.sl 0))], [], [(.int .i64 0)], none, [1], 2, [], [], []⟩])
  (.seq
   (.reg [⟨[], [(3, (.int .i64 1))], [], none, [1], 1, [], [], []⟩])
   (.seq
    (.seq
     (.reg [⟨[], [(7, (.ld 1 false (.fa 2 (.sl 1)))), (8, (.len false (.ld 1 false (.fa 2 (.sl 1))))), (9, (.int .i64 0))], [], none, [3], 4, [], [], []⟩])
     (.block 0
      (.seq (.tidy 0 [3, 7, 8, 9]) (.loop (.seq (.tidy 0 [3, 7, 8, 9]) f22_L0)))))
    (.seq
     (.reg [⟨[], [(2, (.cond (.and (.bin .eql (.bin .and (.int .i64 501) (.int .i64 0)) (.bin .and (.int .i64 501) (.int .i64 0))) (.bin .lss (.int .i64 501) (.sl 3))) (.int .i64 501) (.sl 3)))], [(.sl 3)], none, [], 3, [], [], []⟩])
     (.seq
      (.tidy 0 [2])
      .ret))))),
 [(.sl 2)], false⟩
theorem f22_ok : funOk Go.Proofs.Tryd.prog 22 0 1 f22 = true := by kernel_rfl

/- 'sloth/types.copied' -/
def f26_L0 : C :=
 (.seq
  (.reg [⟨[], [(12, (.bin .lss (.sl 11) (.sl 10)))], [], none, [1, 2, 10, 11], 1, [], [], []⟩])
  (.seq
   (.cond (.sl 12)
    .skip
    (.seq
     (.tidy 0 [1, 2])
     (.exit 0)))
   (.seq
    (.block 1
     (.seq
      (.reg [⟨[], [(3, (.sl 11))], [], none, [1, 2, 10, 11], 2, [], [], []⟩])
      (.reg [⟨[], [], [], some (none, .store 3 (.ia 3 (.ld 1 false (.fa 2 (.sl 1))) (.sl 3)) (.call 26 (.cons (.ld 3 true (.ia 3 (.ld 1 false (.fa 2 (.sl 1))) (.sl 3))) .nil))), [1, 2, 10, 11], 11, [[], [0], [], [], [3], [], [5, 3, 4], [4, 3, 5, 6], [6, 5, 3, 4, 7], [8, 7, 6, 5, 4, 3, 2, 0, 1], [1, 0, 2, 3, 4, 5, 6, 7, 8, 9]], [], []⟩])))
    (.reg [⟨[], [(11, (.bin .add (.sl 11) (.int .i64 1)))], [], none, [1, 2, 10], 2, [], [], []⟩]))))
def f26 : Fun := ⟨
 (.seq
  (.reg [⟨[(1, .box (.sl 0)), (2, .box (.agg (.cons (.int .i64 0) (.cons (.str []) (.cons (.nilsl 3) .nil)))))], [], [], none, [1, 2], 2, [], [], []⟩])
  (.seq
   (.reg [⟨[(6, .callo 27 (.cons (.ld 1 false (.fa 2 (.sl 1))) .nil))], [], [], some (none, .store 1 (.fa 2 (.sl 1)) (.sl 6)), [1, 2], 5, [], [], []⟩])
   (.seq
    (.seq
     (.reg [⟨[], [(10, (.len false (.ld 1 false (.fa 2 (.sl 1))))), (11, (.int .i64 0))], [], none, [1, 2], 4, [], [], []⟩])
     (.block 0
      (.seq (.tidy 0 [1, 2, 10, 11]) (.loop (.seq (.tidy 0 [1, 2, 10, 11]) f26_L0)))))
    (.seq
     (.reg [⟨[], [], [], some (none, .store 3 (.sl 2) (.ld 3 true (.sl 1))), [2], 2, [], [], []⟩])
     (.seq
      (.tidy 0 [2])
      .ret))))),
 [(.ld 3 true (.sl 2))], false⟩
theorem f26_ok : funOk Go.Proofs.Tryd.prog 26 0 1 f26 = true := by kernel_rfl

/- 'slices.Clone[[]sloth/api.Type,sloth/api.Type]' -/
def f27 : Fun := ⟨
 (.seq
  (.reg [⟨[], [], [(.nilsl 3)], none, [0], 1, [], [], []⟩])
  (.seq
   (.seq
    (.reg [⟨[], [(4, (.eqs false false [3] (.sl 0) (.nilsl 3)))], [], none, [0], 2, [], [], []⟩])
    (.cond (.sl 4)
     (.seq
      (.reg [⟨[], [(2, (.nilsl 3))], [], none, [], 1, [], [], []⟩])
      (.seq
       (.tidy 0 [2])
       .ret))
     .skip))
   (.seq
    (.reg [⟨[(5, .lits 3 .nil)], [], [], some (some 7, .app 3 (.sl 5) (.sl 0)), [], 3, [], [], []⟩, ⟨[], [(2, (.sl 7))], [], none, [], 1, [], [], []⟩])
    (.seq
     (.tidy 0 [2])
     .ret)))),
 [(.sl 2)], true⟩
theorem f27_ok : funOk Go.Proofs.Tryd.prog 27 0 1 f27 = true := by kernel_rfl

/- 'slices.IndexFunc[[]sloth/api.Type,sloth/api.Type]' -/
def f28_L0 : C :=
 (.seq
  (.reg [⟨[], [(9, (.bin .lss (.sl 8) (.sl 7)))], [], none, [0, 1, 7, 8], 1, [], [], []⟩])
  (.seq
   (.cond (.sl 9)
    .skip
    (.seq
     (.tidy 0 [])
     (.exit 0)))
   (.seq
    (.block 1
     (.seq
      (.reg [⟨[], [(5, (.sl 8))], [], none, [0, 1, 7, 8], 2, [], [], []⟩])
      (.seq
       (.reg [⟨[], [(16, (.callv (.sl 1) (.cons (.ld 3 true (.ia 3 (.sl 0) (.sl 5))) .nil)))], [], none, [0, 1, 5, 7, 8], 6, [], [], []⟩])
       (.cond (.sl 16)
        (.seq
         (.reg [⟨[], [(4, (.sl 5))], [], none, [], 2, [], [], []⟩])
         (.seq
          (.tidy 0 [4])
          .ret))
        .skip))))
    (.reg [⟨[], [(8, (.bin .add (.sl 8) (.int .i64 1)))], [], none, [0, 1, 7], 2, [], [], []⟩]))))
def f28 : Fun := ⟨
 (.seq
  (.reg [⟨[], [], [(.int .i64 0)], none, [0, 1], 1, [], [], []⟩])
  (.seq
   (.seq
    (.reg [⟨[], [(7, (.len false (.sl 0))), (8, (.int .i64 0))], [], none, [0, 1], 3, [], [], []⟩])
    (.block 0
     (.seq (.tidy 0 [0, 1, 7, 8]) (.loop (.seq (.tidy 0 [0, 1, 7, 8]) f28_L0)))))
   (.seq
    (.reg [⟨[], [(4, (.int .i64 (-1)))], [], none, [], 1, [], [], []⟩])
    (.seq
     (.tidy 0 [4])
     .ret)))),
 [(.sl 4)], false⟩
theorem f28_ok : funOk Go.Proofs.Tryd.prog 28 0 2 f28 = true := by kernel_rfl

/- 'sloth/types.write' -/
def f29_L0 : C :=
 (.seq
  (.reg [⟨[], [(26, (.bin .lss (.sl 25) (.sl 24)))], [], none, [0, 23, 24, 25], 1, [], [], []⟩])
  (.seq
   (.cond (.sl 26)
    .skip
    (.seq
     (.tidy 2 [0])
     (.exit 1)))
   (.seq
    (.block 2
     (.seq
      (.reg [⟨[(5, .box (.agg (.cons (.int .i64 0) (.cons (.str []) (.cons (.nilsl 3) .nil)))))], [], [], some (none, .store 3 (.sl 5) (.ld 3 true (.ia 3 (.sl 23) (.sl 25)))), [0, 5, 23, 24, 25], 4, [], [], []⟩])
      (.seq
       (.reg [⟨[], [], [], some (some 30, .calle 39 (.cons (.sl 0) (.cons (.int .u8 32) .nil))), [0, 5, 23, 24, 25], 2, [], [], []⟩])
       (.reg [⟨[], [], [], some (some 33, .calle 29 (.cons (.sl 0) (.cons (.ld 3 true (.sl 5)) .nil))), [0, 23, 24, 25], 3, [], [], []⟩]))))
    (.reg [⟨[], [(25, (.bin .add (.sl 25) (.int .i64 1)))], [], none, [0, 23, 24], 2, [], [], []⟩]))))
def f29 : Fun := ⟨
 (.seq
  (.reg [⟨[(3, .box (.sl 1))], [], [], none, [0, 3], 1, [], [], []⟩])
  (.seq
   (.reg [⟨[], [(7, (.ld 1 false (.fa 0 (.sl 3))))], [], none, [0, 3], 2, [], [], []⟩])
   (.block 0
    (.seq
     (.reg [⟨[], [(37, (.bin .eql (.sl 7) (.int .i64 1)))], [], none, [0, 3, 7], 2, [], [], []⟩])
     (.cond (.sl 37)
      (.reg [⟨[], [], [], some (some 40, .calle 38 (.cons (.sl 0) (.cons (.str [73, 110, 116]) .nil))), [], 2, [], [], []⟩])
      (.seq
       (.reg [⟨[], [(41, (.bin .eql (.sl 7) (.int .i64 3)))], [], none, [0, 3], 2, [], [], []⟩])
       (.cond (.sl 41)
        (.seq
         (.reg [⟨[], [], [], some (some 44, .calle 39 (.cons (.sl 0) (.cons (.int .u8 40) .nil))), [0, 3], 2, [], [], []⟩])
         (.seq
          (.reg [⟨[], [], [], some (some 50, .calle 29 (.cons (.sl 0) (.cons (.ld 3 true (.ia 3 (.ld 1 false (.fa 2 (.sl 3))) (.int .i64 0))) .nil))), [0, 3], 6, [], [], []⟩])
          (.seq
           (.reg [⟨[], [], [], some (some 52, .calle 38 (.cons (.sl 0) (.cons (.str [32, 45, 62, 32]) .nil))), [0, 3], 2, [], [], []⟩])
           (.seq
            (.reg [⟨[], [], [], some (some 58, .calle 29 (.cons (.sl 0) (.cons (.ld 3 true (.ia 3 (.ld 1 false (.fa 2 (.sl 3))) (.int .i64 1))) .nil))), [0], 6, [], [], []⟩])
            (.reg [⟨[], [], [], some (some 60, .calle 39 (.cons (.sl 0) (.cons (.int .u8 41) .nil))), [], 2, [], [], []⟩])))))
        (.seq
         (.seq
          (.reg [⟨[], [(11, (.bin .eql (.len false (.ld 1 false (.fa 2 (.sl 3)))) (.int .i64 0)))], [], none, [0, 3], 4, [], [], []⟩])
          (.cond (.sl 11)
           (.seq
            (.reg [⟨[], [], [], some (some 15, .calle 38 (.cons (.sl 0) (.cons (.ld 1 false (.fa 1 (.sl 3))) .nil))), [], 4, [], [], []⟩])
            (.seq
             (.tidy 2 [])
             .ret))
           .skip))
         (.seq
          (.reg [⟨[], [], [], some (some 17, .calle 39 (.cons (.sl 0) (.cons (.int .u8 40) .nil))), [0, 3], 2, [], [], []⟩])
          (.seq
           (.reg [⟨[], [], [], some (some 21, .calle 38 (.cons (.sl 0) (.cons (.ld 1 false (.fa 1 (.sl 3))) .nil))), [0, 3], 4, [], [], []⟩])
           (.seq
            (.seq
             (.reg [⟨[], [(23, (.ld 1 false (.fa 2 (.sl 3)))), (24, (.len false (.ld 1 false (.fa 2 (.sl 3))))), (25, (.int .i64 0))], [], none, [0], 4, [], [], []⟩])
             (.block 1
              (.seq (.tidy 2 [0, 23, 24, 25]) (.loop (.seq (.tidy 2 [0, 23, 24, 25]) f29_L0)))))
            (.reg [⟨[], [], [], some (some 36, .calle 39 (.cons (.sl 0) (.cons (.int .u8 41) .nil))), [], 2, [], [], []⟩])))))))))))),
 [], false⟩
theorem f29_ok : funOk Go.Proofs.Tryd.prog 29 2 2 f29 = true := by kernel_rfl

/- '(*sloth/lattice.order).fill' -/
def f32_L0 : C :=
 (.seq
  (.reg [⟨[], [(49, (.bin .lss (.sl 48) (.sl 47)))], [], none, [0, 1, 5, 6, 7, 43, 44, 47, 48], 1, [], [], []⟩])
  (.seq
   (.cond (.sl 49)
    .skip
    (.seq
     (.tidy 2 [0, 1, 5, 6, 7, 43, 44])
     (.exit 2)))
   (.seq
    (.block 3
     (.seq
      (.reg [⟨[], [(8, (.sl 48))], [], none, [0, 1, 5, 6, 7, 43, 44, 47, 48], 2, [], [], []⟩])
      (.reg [⟨[], [(7, (.and (.sl 7) (.or (.un .not (.call 41 (.cons (.ld 1 false (.fa 1 (.fa 0 (.sl 0)))) (.cons (.sl 8) (.cons (.sl 5) .nil))))) (.call 41 (.cons (.ld 1 false (.fa 2 (.fa 0 (.sl 0)))) (.cons (.ld 1 false (.ia 1 (.sl 1) (.sl 8))) (.cons (.sl 6) .nil)))))))], [], none, [0, 1, 5, 6, 43, 44, 47, 48], 24, [[], [0], [0, 1], [1, 0, 2], [2, 0, 1, 3], [3, 1, 0, 2, 4], [0, 1], [0, 1], [7, 6, 4, 2, 0, 1, 3, 5], [5, 3, 1, 0, 2, 4, 6, 7, 8], [8, 7, 6, 4, 2, 0, 1, 3, 5, 9], [9, 5, 3, 1, 0, 2, 4, 6, 7, 8, 10], [10, 8, 7, 6, 4, 2, 0, 1, 3, 5, 9, 11], [11, 9, 5, 3, 1, 0, 2, 4, 6, 7, 8, 10, 12], [12, 10, 8, 7, 6, 4, 2, 0, 1, 3, 5, 9, 11, 13], [9, 5, 3, 1, 0, 2, 4, 6, 7, 8, 10], [9, 5, 3, 1, 0, 2, 4, 6, 7, 8, 10], [16, 10, 8, 7, 6, 4, 2, 0, 1, 3, 5, 9, 15], [15, 9, 5, 3, 1, 0, 2, 4, 6, 7, 8, 10, 16, 17], [9, 5, 3, 1, 0, 2, 4, 6, 7, 8, 10], [19, 17, 16, 15, 18, 13, 11, 9, 5, 3, 1, 0, 2, 4, 6, 7, 8, 10, 12, 14], [14, 12, 11, 13, 18, 15, 16, 17, 19, 20, 9, 5, 3, 1, 0, 2, 4, 6, 7, 8, 10], [10, 8, 7, 6, 4, 2, 3, 5, 9, 20, 19, 17, 16, 15, 18, 13, 11, 12, 14, 21, 0, 1], [1, 0, 21, 14, 12, 11, 13, 18, 15, 16, 17, 19, 20, 9, 5, 3, 2, 4, 6, 7, 8, 10, 22]], [], []⟩])))
    (.reg [⟨[], [(48, (.bin .add (.sl 48) (.int .i64 1)))], [], none, [0, 1, 5, 6, 7, 43, 44, 47], 2, [], [], []⟩]))))
def f32_L1 : C :=
 (.seq
  (.reg [⟨[], [(45, (.bin .lss (.sl 44) (.sl 43)))], [], none, [0, 1, 5, 43, 44], 1, [], [], []⟩])
  (.seq
   (.cond (.sl 45)
    .skip
    (.seq
     (.tidy 2 [])
     (.exit 0)))
   (.seq
    (.block 1
     (.seq
      (.reg [⟨[], [(6, (.sl 44))], [], none, [0, 1, 5, 43, 44], 2, [], [], []⟩])
      (.seq
       (.reg [⟨[], [(7, (.bool true))], [], none, [0, 1, 5, 6, 43, 44], 1, [], [], []⟩])
       (.seq
        (.seq
         (.reg [⟨[], [(47, (.sl 5)), (48, (.int .i64 0))], [], none, [0, 1, 5, 6, 7, 43, 44], 2, [], [], []⟩])
         (.block 2
          (.seq (.tidy 2 [0, 1, 5, 6, 7, 43, 44, 47, 48]) (.loop (.seq (.tidy 2 [0, 1, 5, 6, 7, 43, 44, 47, 48]) f32_L0)))))
        (.seq
         (.regg 2 [(⟨[], none⟩, ⟨[], [(76, (.sl 7))], [], none, [0, 1, 5, 6, 43, 44], 2, [], [], []⟩), (⟨[], some (76, true)⟩, ⟨[(79, .callo 40 (.cons (.sl 1) .nil)), (81, .lits 1 (.cons (.sl 6) .nil))], [(77, (.sl 0))], [], some (some 82, .app 1 (.sl 79) (.sl 81)), [0, 1, 5, 43, 44, 76], 6, [], [], []⟩), (⟨[82], some (76, true)⟩, ⟨[], [], [], some (some 83, .calle 32 (.cons (.sl 77) (.cons (.sl 82) .nil))), [0, 1, 5, 43, 44, 76], 1, [], [], []⟩), (⟨[], some (76, true)⟩, ⟨[], [(84, (.un .not (.sl 83)))], [], none, [0, 1, 5, 43, 44, 76], 1, [], [], []⟩), (⟨[], none⟩, ⟨[], [(85, (.and (.sl 76) (.sl 84)))], [], none, [0, 1, 5, 43, 44], 1, [], [], []⟩)])
         (.cond (.sl 85)
          (.seq
           (.reg [⟨[], [(4, (.bool false))], [], none, [], 1, [], [], []⟩])
           (.seq
            (.tidy 2 [4])
            .ret))
          .skip))))))
    (.reg [⟨[], [(44, (.bin .add (.sl 44) (.int .i64 1)))], [], none, [0, 1, 5, 43], 2, [], [], []⟩]))))
def f32 : Fun := ⟨
 (.seq
  (.reg [⟨[], [], [(.bool false)], none, [0, 1], 1, [], [], []⟩])
  (.seq
   (.reg [⟨[], [(5, (.len false (.sl 1)))], [], none, [0, 1], 3, [], [], []⟩])
   (.seq
    (.seq
     (.reg [⟨[], [(19, (.bin .eql (.sl 5) (.ld 1 false (.fa 0 (.fa 0 (.ld 1 false (.fa 1 (.fa 0 (.sl 0)))))))))], [], none, [0, 1, 5], 9, [], [], []⟩])
     (.cond (.sl 19)
      (.seq
       (.reg [⟨[(27, .lits 1 (.cons (.call 40 (.cons (.sl 1) .nil)) .nil))], [(20, (.sl 0))], [], some (some 28, .app 1 (.ld 1 false (.fa 3 (.fa 0 (.sl 0)))) (.sl 27)), [0], 9, [[], [], [1], [1, 2], [2, 1, 3], [], [5], [5, 6], [6, 5, 7, 3, 1, 2, 4], [8, 7, 6, 5, 4, 3, 2, 1, 0], [0, 1, 2, 3, 4, 5, 6, 7, 8, 9], [9, 8, 7, 6, 5, 4, 3, 2, 1, 0, 10]], [], [(.sl 0)]⟩, ⟨[], [], [], some (none, .store 1 (.fa 3 (.fa 0 (.sl 20))) (.sl 28)), [0], 3, [], [], []⟩])
       (.seq
        (.reg [⟨[], [(4, (.bin .leq (.len false (.ld 1 false (.fa 3 (.fa 0 (.sl 0))))) (.int .i64 40)))], [], none, [], 7, [], [], []⟩])
        (.seq
         (.tidy 2 [4])
         .ret)))
      .skip))
    (.seq
     (.seq
      (.reg [⟨[], [(43, (.ld 1 false (.fa 0 (.fa 0 (.ld 1 false (.fa 2 (.fa 0 (.sl 0)))))))), (44, (.int .i64 0))], [], none, [0, 1, 5], 8, [], [], []⟩])
      (.block 0
       (.seq (.tidy 2 [0, 1, 5, 43, 44]) (.loop (.seq (.tidy 2 [0, 1, 5, 43, 44]) f32_L1)))))
     (.seq
      (.reg [⟨[], [(4, (.bool true))], [], none, [], 1, [], [], []⟩])
      (.seq
       (.tidy 2 [4])
       .ret)))))),
 [(.sl 4)], false⟩
theorem f32_ok : funOk Go.Proofs.Tryd.prog 32 2 2 f32 = true := by kernel_rfl

/- '(*sloth/lattice.order).pointwise' -/
def f33_L0 : C :=
 (.seq
  (.reg [⟨[], [(16, (.bin .lss (.sl 15) (.sl 14)))], [], none, [0, 1, 2, 14, 15], 1, [], [], []⟩])
  (.seq
   (.cond (.sl 16)
    .skip
    (.seq
     (.tidy 0 [])
     (.exit 0)))
   (.seq
    (.block 1
     (.seq
      (.reg [⟨[], [(7, (.sl 15))], [], none, [0, 1, 2, 14, 15], 2, [], [], []⟩])
      (.seq
       (.reg [⟨[], [(43, (.un .not (.call 41 (.cons (.ld 1 false (.fa 2 (.fa 0 (.sl 0)))) (.cons (.ld 1 false (.ia 1 (.ld 1 false (.ia 1 (.ld 1 false (.fa 3 (.fa 0 (.sl 0)))) (.sl 1))) (.sl 7))) (.cons (.ld 1 false (.ia 1 (.ld 1 false (.ia 1 (.ld 1 false (.fa 3 (.fa 0 (.sl 0)))) (.sl 2))) (.sl 7))) .nil))))))], [], none, [0, 1, 2, 14, 15], 26, [[], [0], [0, 1], [1, 0, 2], [], [4], [4, 5], [5, 4, 6], [], [8, 6, 4, 5, 7], [7, 5, 4, 6, 8, 9], [], [11, 9, 8, 6, 4, 5, 7, 10], [10, 7, 5, 4, 6, 8, 9, 11, 12], [], [14], [14, 15], [15, 14, 16], [], [18, 16, 14, 15, 17], [17, 15, 14, 16, 18, 19], [], [21, 19, 18, 16, 14, 15, 17, 20], [20, 17, 15, 14, 16, 18, 19, 21, 22], [22, 21, 19, 18, 16, 14, 15, 17, 20, 23, 12, 11, 9, 8, 6, 4, 5, 7, 10, 13, 2, 0, 1, 3], [3, 1, 0, 2, 13, 10, 7, 5, 4, 6, 8, 9, 11, 12, 23, 20, 17, 15, 14, 16, 18, 19, 21, 22, 24]], [], []⟩])
       (.cond (.sl 43)
        (.seq
         (.reg [⟨[], [(6, (.bool false))], [], none, [], 1, [], [], []⟩])
         (.seq
          (.tidy 0 [6])
          .ret))
        .skip))))
    (.reg [⟨[], [(15, (.bin .add (.sl 15) (.int .i64 1)))], [], none, [0, 1, 2, 14], 2, [], [], []⟩]))))
def f33 : Fun := ⟨
 (.seq
  (.reg [⟨[], [], [(.bool false)], none, [0, 1, 2], 1, [], [], []⟩])
  (.seq
   (.seq
    (.reg [⟨[], [(14, (.ld 1 false (.fa 0 (.fa 0 (.ld 1 false (.fa 1 (.fa 0 (.sl 0)))))))), (15, (.int .i64 0))], [], none, [0, 1, 2], 8, [], [], []⟩])
    (.block 0
     (.seq (.tidy 0 [0, 1, 2, 14, 15]) (.loop (.seq (.tidy 0 [0, 1, 2, 14, 15]) f33_L0)))))
   (.seq
    (.reg [⟨[], [(6, (.bool true))], [], none, [], 1, [], [], []⟩])
    (.seq
     (.tidy 0 [6])
     .ret)))),
 [(.sl 6)], false⟩
theorem f33_ok : funOk Go.Proofs.Tryd.prog 33 0 3 f33 = true := by kernel_rfl

/- 'sloth/types.isVar' -/
def f34 : Fun := ⟨
 (.seq
  (.reg [⟨[], [], [(.bool false)], none, [0], 1, [], [], []⟩])
  (.seq
   (.reg [⟨[], [(2, (.and (.and (.and (.bin .neq (.sl 0) (.str [])) (.bin .leq (.len true (.sl 0)) (.int .i64 4096))) (.call 42 (.cons (.ix (.sl 0) (.int .i64 0)) .nil))) (.call 43 (.cons (.sl 0) .nil))))], [], none, [], 17, [], [], []⟩])
   (.seq
    (.tidy 0 [2])
    .ret))),
 [(.sl 2)], false⟩
theorem f34_ok : funOk Go.Proofs.Tryd.prog 34 0 1 f34 = true := by kernel_rfl

/- 'sloth/types.isData' -/
def f35_L0 : C :=
 (.seq
  (.reg [⟨[], [(18, (.bin .lss (.sl 17) (.sl 16)))], [], none, [3, 15, 16, 17], 1, [], [], []⟩])
  (.seq
   (.cond (.sl 18)
    .skip
    (.seq
     (.tidy 0 [3])
     (.exit 0)))
   (.seq
    (.block 1
     (.seq
      (.reg [⟨[], [(5, (.ld 1 false (.ia 1 (.sl 15) (.sl 17))))], [], none, [3, 15, 16, 17], 3, [], [], []⟩])
      (.seq
       (.reg [⟨[], [(33, (.or (.or (.bin .eql (.sl 5) (.str [])) (.un .not (.call 45 (.cons (.ix (.sl 5) (.int .i64 0)) .nil)))) (.un .not (.call 43 (.cons (.sl 5) .nil)))))], [], none, [3, 15, 16, 17], 13, [], [], []⟩])
       (.cond (.sl 33)
        (.seq
         (.reg [⟨[], [(2, (.bool false))], [], none, [], 1, [], [], []⟩])
         (.seq
          (.tidy 0 [2])
          .ret))
        .skip))))
    (.reg [⟨[], [(17, (.bin .add (.sl 17) (.int .i64 1)))], [], none, [3, 15, 16], 2, [], [], []⟩]))))
def f35 : Fun := ⟨
 (.seq
  (.reg [⟨[], [], [(.bool false)], none, [0], 1, [], [], []⟩])
  (.seq
   (.seq
    (.reg [⟨[], [(12, (.or (.bin .gtr (.len true (.sl 0)) (.int .i64 4096)) (.bin .eql (.sl 0) (.str [73, 110, 116]))))], [], none, [0], 7, [], [], []⟩])
    (.cond (.sl 12)
     (.seq
      (.reg [⟨[], [(2, (.bool false))], [], none, [], 1, [], [], []⟩])
      (.seq
       (.tidy 0 [2])
       .ret))
     .skip))
   (.seq
    (.reg [⟨[], [(3, (.call 44 (.cons (.sl 0) (.cons (.str [46]) .nil))))], [], none, [], 3, [], [], []⟩])
    (.seq
     (.seq
      (.reg [⟨[], [(15, (.sl 3)), (16, (.len false (.sl 3))), (17, (.int .i64 0))], [], none, [3], 3, [], [], []⟩])
      (.block 0
       (.seq (.tidy 0 [3, 15, 16, 17]) (.loop (.seq (.tidy 0 [3, 15, 16, 17]) f35_L0)))))
     (.seq
      (.reg [⟨[], [(2, (.bin .leq (.len false (.sl 3)) (.int .i64 2)))], [], none, [], 4, [], [], []⟩])
      (.seq
       (.tidy 0 [2])
       .ret)))))),
 [(.sl 2)], false⟩
theorem f35_ok : funOk Go.Proofs.Tryd.prog 35 0 1 f35 = true := by kernel_rfl

/- 'sloth/types.may$1' -/
def f36 : Fun := ⟨
 (.seq
  (.reg [⟨[(1, .box (.sl 0))], [], [(.bool false)], none, [1], 2, [], [], []⟩])
  (.seq
   (.reg [⟨[], [(2, (.un .not (.call 21 (.cons (.ld 3 true (.sl 1)) .nil))))], [], none, [], 4, [], [], []⟩])
   (.seq
    (.tidy 0 [2])
    .ret))),
 [(.sl 2)], false⟩
theorem f36_ok : funOk Go.Proofs.Tryd.prog 36 0 1 f36 = true := by kernel_rfl

/- 'slices.Clone[[]int,int]' -/
def f40 : Fun := ⟨
 (.seq
  (.reg [⟨[], [], [(.nilsl 1)], none, [0], 1, [], [], []⟩])
  (.seq
   (.seq
    (.reg [⟨[], [(4, (.eqs false false [3] (.sl 0) (.nilsl 1)))], [], none, [0], 2, [], [], []⟩])
    (.cond (.sl 4)
     (.seq
      (.reg [⟨[], [(2, (.nilsl 1))], [], none, [], 1, [], [], []⟩])
      (.seq
       (.tidy 0 [2])
       .ret))
     .skip))
   (.seq
    (.reg [⟨[(5, .lits 1 .nil)], [], [], some (some 7, .app 1 (.sl 5) (.sl 0)), [], 3, [], [], []⟩, ⟨[], [(2, (.sl 7))], [], none, [], 1, [], [], []⟩])
    (.seq
     (.tidy 0 [2])
     .ret)))),
 [(.sl 2)], true⟩
theorem f40_ok : funOk Go.Proofs.Tryd.prog 40 0 1 f40 = true := by kernel_rfl

/- '(*sloth/lattice.order).below' -/
def f41 : Fun := ⟨
 (.seq
  (.reg [⟨[], [], [(.bool false)], none, [0, 1, 2], 1, [], [], []⟩])
  (.seq
   (.seq
    (.reg [⟨[], [(11, (.eqs false false [4] (.ld 1 false (.fa 1 (.fa 0 (.sl 0)))) .nilp))], [], none, [0, 1, 2], 5, [], [], []⟩])
    (.cond (.sl 11)
     (.seq
      (.reg [⟨[], [(6, (.bin .leq (.sl 1) (.sl 2)))], [], none, [], 4, [], [], []⟩])
      (.seq
       (.tidy 0 [6])
       .ret))
     .skip))
   (.seq
    (.reg [⟨[], [(6, (.ld 1 false (.ia 1 (.ld 1 false (.ia 1 (.ld 1 false (.fa 4 (.fa 0 (.sl 0)))) (.sl 1))) (.sl 2))))], [], none, [], 11, [], [], []⟩])
    (.seq
     (.tidy 0 [6])
     .ret)))),
 [(.sl 6)], false⟩
theorem f41_ok : funOk Go.Proofs.Tryd.prog 41 0 3 f41 = true := by kernel_rfl

/- 'sloth/types.small' -/
def f42 : Fun := ⟨
 (.seq
  (.reg [⟨[], [], [(.bool false)], none, [0], 1, [], [], []⟩])
  (.seq
   (.reg [⟨[], [(2, (.and (.bin .geq (.sl 0) (.int .u8 97)) (.bin .leq (.sl 0) (.int .u8 122))))], [], none, [], 7, [], [], []⟩])
   (.seq
    (.tidy 0 [2])
    .ret))),
 [(.sl 2)], false⟩
theorem f42_ok : funOk Go.Proofs.Tryd.prog 42 0 1 f42 = true := by kernel_rfl

/- 'sloth/types.signs' -/
def f43_L0 : C :=
 (.seq
  (.reg [⟨[], [(7, (.bin .lss (.sl 6) (.sl 5)))], [], none, [0, 5, 6], 1, [], [], []⟩])
  (.seq
   (.cond (.sl 7)
    .skip
    (.seq
     (.tidy 0 [])
     (.exit 0)))
   (.seq
    (.block 1
     (.seq
      (.reg [⟨[], [(3, (.sl 6))], [], none, [0, 5, 6], 2, [], [], []⟩])
      (.seq
       (.reg [⟨[], [(13, (.un .not (.call 48 (.cons (.ix (.sl 0) (.sl 3)) .nil))))], [], none, [0, 5, 6], 5, [], [], []⟩])
       (.cond (.sl 13)
        (.seq
         (.reg [⟨[], [(2, (.bool false))], [], none, [], 1, [], [], []⟩])
         (.seq
          (.tidy 0 [2])
          .ret))
        .skip))))
    (.reg [⟨[], [(6, (.bin .add (.sl 6) (.int .i64 1)))], [], none, [0, 5], 2, [], [], []⟩]))))
def f43 : Fun := ⟨
 (.seq
  (.reg [⟨[], [], [(.bool false)], none, [0], 1, [], [], []⟩])
  (.seq
   (.seq
    (.reg [⟨[], [(5, (.len true (.sl 0))), (6, (.int .i64 0))], [], none, [0], 3, [], [], []⟩])
    (.block 0
     (.seq (.tidy 0 [0, 5, 6]) (.loop (.seq (.tidy 0 [0, 5, 6]) f43_L0)))))
   (.seq
    (.reg [⟨[], [(2, (.bool true))], [], none, [], 1, [], [], []⟩])
    (.seq
     (.tidy 0 [2])
     .ret)))),
 [(.sl 2)], false⟩
theorem f43_ok : funOk Go.Proofs.Tryd.prog 43 0 1 f43 = true := by kernel_rfl

/- 'sloth/types.capital' -/
def f45 : Fun := ⟨
 (.seq
  (.reg [⟨[], [], [(.bool false)], none, [0], 1, [], [], []⟩])
  (.seq
   (.reg [⟨[], [(2, (.and (.bin .geq (.sl 0) (.int .u8 65)) (.bin .leq (.sl 0) (.int .u8 90))))], [], none, [], 7, [], [], []⟩])
   (.seq
    (.tidy 0 [2])
    .ret))),
 [(.sl 2)], false⟩
theorem f45_ok : funOk Go.Proofs.Tryd.prog 45 0 1 f45 = true := by kernel_rfl

/- 'sloth/types.sign' -/
def f48 : Fun := ⟨
 (.seq
  (.reg [⟨[], [], [(.bool false)], none, [0], 1, [], [], []⟩])
  (.seq
   (.reg [⟨[], [(2, (.or (.or (.or (.or (.call 42 (.cons (.sl 0) .nil)) (.call 45 (.cons (.sl 0) .nil))) (.and (.bin .geq (.sl 0) (.int .u8 48)) (.bin .leq (.sl 0) (.int .u8 57)))) (.bin .eql (.sl 0) (.int .u8 95))) (.bin .eql (.sl 0) (.int .u8 39))))], [], none, [], 23, [], [], []⟩])
   (.seq
    (.tidy 0 [2])
    .ret))),
 [(.sl 2)], false⟩
theorem f48_ok : funOk Go.Proofs.Tryd.prog 48 0 1 f48 = true := by kernel_rfl

def TS : List Row := [⟨3, 0, 0, f3⟩, ⟨4, 0, 0, f4⟩, ⟨5, 0, 1, f5⟩, ⟨6, 0, 2, f6⟩, ⟨7, 0, 1, f7⟩, ⟨8, 0, 1, f8⟩, ⟨10, 0, 1, f10⟩, ⟨11, 2, 2, f11⟩, ⟨12, 0, 1, f12⟩, ⟨15, 1, 2, f15⟩, ⟨16, 0, 2, f16⟩, ⟨17, 0, 1, f17⟩, ⟨18, 2, 2, f18⟩, ⟨19, 4, 3, f19⟩, ⟨20, 4, 2, f20⟩, ⟨21, 0, 1, f21⟩, ⟨22, 0, 1, f22⟩, ⟨26, 0, 1, f26⟩, ⟨28, 0, 2, f28⟩, ⟨29, 2, 2, f29⟩, ⟨34, 0, 1, f34⟩, ⟨35, 0, 1, f35⟩, ⟨36, 0, 1, f36⟩, ⟨42, 0, 1, f42⟩, ⟨43, 0, 1, f43⟩, ⟨45, 0, 1, f45⟩, ⟨48, 0, 1, f48⟩]
theorem TS_ok : ∀ r ∈ TS, funOk Go.Proofs.Tryd.prog r.f r.m r.n r.g = true := by
  intro r hr
  simp only [TS, List.mem_cons, List.not_mem_nil, or_false] at hr
  rcases hr with rfl | rfl | rfl | rfl | rfl | rfl | rfl | rfl | rfl | rfl | rfl | rfl | rfl | rfl | rfl | rfl | rfl | rfl | rfl | rfl | rfl | rfl | rfl | rfl | rfl | rfl | rfl
  · exact f3_ok
  · exact f4_ok
  · exact f5_ok
  · exact f6_ok
  · exact f7_ok
  · exact f8_ok
  · exact f10_ok
  · exact f11_ok
  · exact f12_ok
  · exact f15_ok
  · exact f16_ok
  · exact f17_ok
  · exact f18_ok
  · exact f19_ok
  · exact f20_ok
  · exact f21_ok
  · exact f22_ok
  · exact f26_ok
  · exact f28_ok
  · exact f29_ok
  · exact f34_ok
  · exact f35_ok
  · exact f36_ok
  · exact f42_ok
  · exact f43_ok
  · exact f45_ok
  · exact f48_ok

end Go.Vm
end

section
namespace Go.Vm
open Go.Proofs Go.RowKit

attribute [local go_sem] Oper.semAt_some

set_option maxRecDepth 100000 in
set_option maxHeartbeats 1000000 in
theorem clone27 (a : Option Addr) (cap : Nat) (w : World) : Calls Tryd.prog 27 #[.slice a 0 cap] w fun e w' => ∃ a', e = .returned (.slice a' 0 0) ∧ Below w.heap.size w w' := by
  have q : ∀ (w : World) (a : Option Addr) (n c n' c' : Nat), (binOp .eql 22 (.slice a n c) (.slice none n' c')).run Tryd.prog w = .ok (.bool a.isNone) w := fun w a n c n' c' => Lib.run_eql_slice_nil w _ _ a n c n' c' Tryd.underlying22
  cases a with
  | none =>
    go_enter Tryd.func27, Tryd.ntmps27
    go_wp2
    go_ret
    exact ⟨_, rfl, Below.refl _ _⟩
  | some a =>
    obtain ⟨i, hi⟩ : ∃ i, Tryd.prog.info? 24 = some i := ⟨_, rfl⟩
    have hn : (w.alloc (.cells #[] 24)).heap[w.heap.size]? = some (.cells #[] 24 (0, 0)) := by
      show (w.heap.push _)[w.heap.size]? = _
      simp
    have hap := run_append_room (P := Tryd.prog) (w.alloc (.cells #[] 24)) 22 22 24 i Tryd.underlying22 hi w.heap.size 0 0 #[] hn a 0 cap [] (by simp) (by simp) (by simp) (Nat.le_refl 0) (by simp)
    go_enter Tryd.func27, Tryd.ntmps27
    go_wp2
    go_ret
    have hb : Below w.heap.size w (w.alloc (.cells #[] 24)) := (Below.refl _ _).alloc (Nat.le_refl _) _
    exact ⟨⟨_, rfl⟩, hb⟩
set_option maxRecDepth 100000 in
set_option maxHeartbeats 1000000 in
theorem clone40 (a : Option Addr) (cap : Nat) (w : World) : Calls Tryd.prog 40 #[.slice a 0 cap] w fun e w' => ∃ a', e = .returned (.slice a' 0 0) ∧ Below w.heap.size w w' := by
  have q : ∀ (w : World) (a : Option Addr) (n c n' c' : Nat), (binOp .eql 28 (.slice a n c) (.slice none n' c')).run Tryd.prog w = .ok (.bool a.isNone) w := fun w a n c n' c' => Lib.run_eql_slice_nil w _ _ a n c n' c' Tryd.underlying28
  cases a with
  | none =>
    go_enter Tryd.func40, Tryd.ntmps40
    go_wp2
    go_ret
    exact ⟨_, rfl, Below.refl _ _⟩
  | some a =>
    obtain ⟨i, hi⟩ : ∃ i, Tryd.prog.info? 3 = some i := ⟨_, rfl⟩
    have hn : (w.alloc (.cells #[] 3)).heap[w.heap.size]? = some (.cells #[] 3 (0, 0)) := by
      show (w.heap.push _)[w.heap.size]? = _
      simp
    have hap := run_append_room (P := Tryd.prog) (w.alloc (.cells #[] 3)) 28 28 3 i Tryd.underlying28 hi w.heap.size 0 0 #[] hn a 0 cap [] (by simp) (by simp) (by simp) (Nat.le_refl 0) (by simp)
    go_enter Tryd.func40, Tryd.ntmps40
    go_wp2
    go_ret
    have hb : Below w.heap.size w (w.alloc (.cells #[] 3)) := (Below.refl _ _).alloc (Nat.le_refl _) _
    exact ⟨⟨_, rfl⟩, hb⟩

theorem pure_clone27 {G : Nat → Option (List D)} {c : Bool} : PureCall Tryd.prog G 27 [.d c (.sl 3 [])] (.fs true 3 []) [] := by
  intro w F vals hF hG hR
  obtain ⟨l⟩ := vals
  obtain ⟨hsz, hr⟩ := hR
  match l, hsz with
  | [v], _ =>
    have hv := hr 0 v _ rfl rfl
    obtain ⟨a, cap, rfl⟩ : ∃ a cap, v = .slice a 0 cap := by
      cases hv with
      | d _ _ _ h =>
        cases h with
        | sl0 a cap k h => exact ⟨a, cap, rfl⟩
        | sl b o len cap k rows g h1 => exact ⟨_, cap, by rw [← h1]; rfl⟩
    refine (clone27 a cap w).mono ?_
    rintro e w' ⟨a', rfl, hb⟩
    exact ⟨_, F, fun _ => none, rfl, hb, fun b h => .inl h, .fs _ _ _ _ _ (.sl0 _ _ _ (fun _ => rfl)), ⟨fun b blk h => by simp [indexed, look] at h, fun b b' l l' h => (by cases h), fun b l h => (by cases h), fun b h => Nat.lt_of_lt_of_le (hF b h) hb.size⟩⟩

theorem pure_clone40 {G : Nat → Option (List D)} {c : Bool} : PureCall Tryd.prog G 40 [.d c (.sl 1 [])] (.fs true 1 []) [] := by
  intro w F vals hF hG hR
  obtain ⟨l⟩ := vals
  obtain ⟨hsz, hr⟩ := hR
  match l, hsz with
  | [v], _ =>
    have hv := hr 0 v _ rfl rfl
    obtain ⟨a, cap, rfl⟩ : ∃ a cap, v = .slice a 0 cap := by
      cases hv with
      | d _ _ _ h =>
        cases h with
        | sl0 a cap k h => exact ⟨a, cap, rfl⟩
        | sl b o len cap k rows g h1 => exact ⟨_, cap, by rw [← h1]; rfl⟩
    refine (clone40 a cap w).mono ?_
    rintro e w' ⟨a', rfl, hb⟩
    exact ⟨_, F, fun _ => none, rfl, hb, fun b h => .inl h, .fs _ _ _ _ _ (.sl0 _ _ _ (fun _ => rfl)), ⟨fun b blk h => by simp [indexed, look] at h, fun b b' l l' h => (by cases h), fun b l h => (by cases h), fun b h => Nat.lt_of_lt_of_le (hF b h) hb.size⟩⟩

end Go.Vm
end

section
namespace Go.Vm
set_option maxRecDepth 20000

inductive Lat where
  | ch (n : Nat)
  | fn (a b : Lat) (rows : List (List Nat)) (low : List (List Bool))
def Lat.sz : Lat → Nat
  | .ch n => n
  | .fn _ _ rows _ => rows.length
def natD (v : Nat) : List D := [.int .i64 (v : Int)]
def boolD (v : Bool) : List D := [.bool v]
def rowD (r : List Nat) : List D := [.sl 1 (r.map natD)]
def lowD (r : List Bool) : List D := [.sl 1 (r.map boolD)]
def Lat.cells : Lat → List D
  | .ch n => [.int .i64 n, .nilp, .nilp, .sl 1 [], .sl 1 []]
  | .fn a b rows low => [.int .i64 rows.length, .ptr a.cells, .ptr b.cells, .sl 1 (rows.map rowD), .sl 1 (low.map lowD)]
def Lat.le : Lat → Nat → Nat → Bool
  | .ch _, x, y => decide (x ≤ y)
  | .fn _ _ _ low, x, y => nth (nth low (x : Int)) (y : Int)
def Lat.wf : Lat → Prop
  | .ch n => n ≤ 1000
  | .fn a b rows low => a.wf ∧ b.wf ∧ rows.length ≤ 1000 ∧ low.length = rows.length ∧ (∀ r ∈ low, r.length = rows.length) ∧ ∀ r ∈ rows, r.length = a.sz ∧ ∀ v ∈ r, v < b.sz
def pD (l : Lat) : V := .d false (.ptr l.cells)
@[reducible] def iN (n : Nat) : V := .d false (.int .i64 (n : Int))

def K41 (K : Cx) : Prop := ∀ (o : Lat) (x y : Nat), o.wf → x < o.sz → y < o.sz → K.call 41 [pD o, iN x, iN y] = some (.bool (o.le x y), [])

theorem ev_below (K : Cx) (o : Lat) (x y : Nat) (hw : o.wf) (hx : x < o.sz) (hy : y < o.sz) : runFun K f41 [pD o, iN x, iN y] [] = some (.bool (o.le x y), [], []) := by
  cases o with
  | ch n =>
    have e : ((x : Int) ≤ (y : Int)) = (x ≤ y) := by simp
    unfold f41
    simp only [pD, Lat.cells, Lat.le, iN]
    simp (disch := first | decide | omega | (simp only [LN]; omega) | (simp only [LN]; done) | fail) only [runFun_eq, List.length_nil, startS, List.zipIdx_cons, Nat.zero_add, Nat.reduceAdd, List.zipIdx_nil, List.map_cons, List.map_nil, indexed, exec_seq, exec_reg, evSegs_cons, evSeg_eq, evMks_nil, o1_some, segL_eq, wonB_nil, evChk_cons, e_bool, Option.isSome_some, evChk_nil, Bool.and_self, evLets_nil, segW_none, restrict_cons, look_cons, beq_self_eq_true, lookB_true, resC_some, Nat.reduceBEq, lookB_false, restrict_nil, List.nil_append, addBlks, segs_nil, nrm_some, thn_nrm, evLets_cons, e_eqs, e_ld, e_fa, e_sl, evFa, List.drop_zero, List.drop_succ_cons, evLd_d, mkd, D.flat, if_true, Bool.false_eq_true, if_false, part_one, e_nilp, o2_some, evEqs, cellsEq, cellEq, V.isNilP, Bool.not_true, letC_eq, List.cons_append, exec_cond, brn_true, e_bin, evBin, intBin, e, List.append_nil, exec_tidy, tidyS_a, tidyA_eq, range0, refsL, V.refs, reachB_nil, tidyB_eq, List.nodup_nil, decide_true, take_all, List.all_cons, V.within, List.all_nil, closedB, look_nil, V.ren, Blk.ren, Option.map_none, List.filterMap_nil, List.filter_nil, exec_ret, thn_ret, endF_ret, mapO_cons, mapO_nil, mapC_eq, Option.map_some, oneOr, finish, finV, finA, finC]
  | fn a b rows low =>
    obtain ⟨_, _, _, h1, h2, _⟩ := hw
    simp only [Lat.sz] at hx hy
    have hr : nth low (x : Int) ∈ low := by rw [← nth_getElem (n := (x : Int)) (by simpa using (by omega : x < low.length))]; exact List.getElem_mem _
    have hl := h2 _ hr
    unfold f41
    simp only [pD, Lat.cells, Lat.le, iN]
    simp (disch := first | decide | omega | (simp only [LN]; omega) | (simp only [LN]; done) | fail) only [runFun_eq, List.length_nil, startS, List.zipIdx_cons, Nat.zero_add, Nat.reduceAdd, List.zipIdx_nil, List.map_cons, List.map_nil, indexed, exec_seq, exec_reg, evSegs_cons, evSeg_eq, evMks_nil, o1_some, segL_eq, wonB_nil, evChk_cons, e_bool, Option.isSome_some, evChk_nil, Bool.and_self, evLets_nil, segW_none, restrict_cons, look_cons, beq_self_eq_true, lookB_true, resC_some, Nat.reduceBEq, lookB_false, restrict_nil, List.nil_append, addBlks, segs_nil, nrm_some, thn_nrm, evLets_cons, e_eqs, e_ld, e_fa, e_sl, evFa, List.drop_zero, List.drop_succ_cons, evLd_d, mkd, D.flat, Bool.false_eq_true, if_false, part_one, e_nilp, o2_some, evEqs, cellsEq, cellEq, V.isNilP, Bool.and_true, Bool.not_false, letC_eq, List.cons_append, exec_cond, brn_false, exec_skip, e_ia, evIa_dm, lowD, boolD, if_true, List.append_nil, exec_tidy, tidyS_a, tidyA_eq, range0, refsL, V.refs, reachB_nil, tidyB_eq, List.nodup_nil, decide_true, take_all, List.all_cons, V.within, List.all_nil, closedB, look_nil, V.ren, Blk.ren, Option.map_none, List.filterMap_nil, List.filter_nil, exec_ret, endF_ret, mapO_cons, mapO_nil, mapC_eq, Option.map_some, oneOr, finish, finV, finA, finC]
def Lat.tl : Lat → List D
  | .ch _ => [.nilp, .nilp, .sl 1 [], .sl 1 []]
  | .fn a b rows low => [.ptr a.cells, .ptr b.cells, .sl 1 (rows.map rowD), .sl 1 (low.map lowD)]
theorem cells_eq (l : Lat) : l.cells = .int .i64 (l.sz : Int) :: l.tl := by cases l <;> rfl

def ptwR (b : Lat) (f g : List Nat) : Nat → Nat → Bool
  | 0, _ => true
  | m + 1, k => b.le (nth f (k : Int)) (nth g (k : Int)) && ptwR b f g m (k + 1)
def ptw (a b : Lat) (f g : List Nat) : Bool := ptwR b f g a.sz 0
@[reducible] def halfD (s : D) (a b : Lat) (rows : List (List Nat)) (l : D) : D := .ptr [s, .ptr a.cells, .ptr b.cells, .sl 1 (rows.map rowD), l]
def rowsOk (a b : Lat) (rows : List (List Nat)) : Prop := ∀ r ∈ rows, r.length = a.sz ∧ ∀ v ∈ r, v < b.sz
def K33 (K : Cx) : Prop := ∀ (s : D) (a b : Lat) (rows : List (List Nat)) (l : D) (x y : Nat), b.wf → a.sz ≤ 1000 → rowsOk a b rows → x < rows.length → y < rows.length → K.call 33 [.d false (halfD s a b rows l), iN x, iN y] = some (.bool (ptw a b (nth rows (x : Int)) (nth rows (y : Int))), [])

theorem cast1 (k : Nat) : ((k : Int) + 1) = ((k + 1 : Nat) : Int) := by omega
theorem nth_mem {α : Type} [Inhabited α] {l : List α} {x : Nat} (h : x < l.length) : nth l (x : Int) ∈ l := by
  rw [← nth_getElem (n := (x : Int)) (by simpa using h)]; exact List.getElem_mem _

def ptOut : Bool → Option (Ex × S)
  | true => some (.exit 0, ⟨[], [], 0, []⟩)
  | false => some (.ret, ⟨[(6, .bool false)], [], 0, []⟩)
theorem pt_loop (K : Cx) (h41 : K41 K) (s : D) (a b : Lat) (rows : List (List Nat)) (l : D) (x y : Nat) (hb : b.wf) (ha : a.sz ≤ 1000) (hr : rowsOk a b rows) (hx : x < rows.length) (hy : y < rows.length) : ∀ (m k : Nat), k + m = a.sz →
    lp K 0 [0, 1, 2, 14, 15] f33_L0 ⟨[(0, .d false (halfD s a b rows l)), (1, iN x), (2, iN y), (14, iN a.sz), (15, iN k)], [], 0, []⟩ = ptOut (ptwR b (nth rows (x : Int)) (nth rows (y : Int)) m k) := by
  obtain ⟨l1, v1⟩ := hr _ (nth_mem hx)
  obtain ⟨l2, v2⟩ := hr _ (nth_mem hy)
  intro m
  induction m with
  | zero =>
    intro k hk
    simp only [ptwR, ptOut]
    rw [lp_un f33_L0.eq_1]
    clear v1 v2 hr
    simp (disch := first | decide | omega | (simp only [LN]; omega) | (simp only [LN]; done) | fail) only [exec_seq, exec_reg, evSegs_cons, evSeg_eq, evMks_nil, o1_some, segL_eq, wonB_nil, evChk_nil, evLets_cons, e_bin, e_sl, look_cons, Nat.reduceBEq, lookB_false, beq_self_eq_true, lookB_true, o2_some, evBin, intBin, ilt_F, decide_false, if_true, evLets_nil, letC_eq, segW_none, restrict_cons, resC_some, restrict_nil, List.cons_append, List.nil_append, addBlks, segs_nil, nrm_some, thn_nrm, exec_cond, brn_false, exec_tidy, tidyS_a, tidyA_eq, range0, List.map_nil, refsL, List.append_nil, reachB_nil, tidyB_eq, List.nodup_nil, decide_true, take_all, Bool.and_self, List.all_nil, closedB, look_nil, Blk.ren, Option.map_none, List.zipIdx_nil, List.filterMap_nil, List.length_nil, List.filter_nil, exec_exit, thn_exit, lpT_exit]
  | succ m ih =>
    intro k hk
    have ih := ih (k + 1) (by omega)
    have w := h41 b (nth (nth rows (x : Int)) (k : Int)) (nth (nth rows (y : Int)) (k : Int)) hb (v1 _ (nth_mem (by omega))) (v2 _ (nth_mem (by omega)))
    simp only [ptwR]
    rw [lp_un f33_L0.eq_1]
    clear v1 v2 hr
    simp only [pD, iN] at w ih ⊢
    cases hc : b.le (nth (nth rows (x : Int)) (k : Int)) (nth (nth rows (y : Int)) (k : Int)) with
    | false =>
      rw [hc] at w
      simp only [Bool.false_and, ptOut]
      clear ih
      simp (disch := first | decide | omega | (simp only [LN]; omega) | (simp only [LN]; done) | fail) only [exec_seq, exec_reg, evSegs_cons, evSeg_eq, evMks_nil, o1_some, segL_eq, wonB_nil, evChk_nil, evLets_cons, e_bin, e_sl, look_cons, Nat.reduceBEq, lookB_false, beq_self_eq_true, lookB_true, o2_some, evBin, intBin, ilt_T, decide_true, if_true, evLets_nil, letC_eq, segW_none, restrict_cons, resC_some, restrict_nil, List.cons_append, List.nil_append, addBlks, segs_nil, nrm_some, thn_nrm, exec_cond, brn_true, exec_skip, exec_block, e_un, e_call, e_cons, e_ld, e_fa, evFa, List.drop_zero, List.drop_succ_cons, evLd_d, List.map_cons, mkd, D.flat, Bool.false_eq_true, if_false, List.map_nil, part_one, e_ia, evIa_dm, rowD, natD, e_nil, consV_tup, callV_tup, evCall_eq, List.any_cons, V.own, V.own1, List.any_nil, Bool.or_self, passes_eq, List.all_cons, V.new, V.new1, Bool.or_true, List.all_nil, Bool.and_self, Bool.and_true, V.flatV, V.flat1, Bool.not_false, Bool.false_and, mapO_cons, view, viewDepth, viewD, Option.map_some, mapO_nil, mapC_eq, callA_eq, w, callR_some, Bool.not_true, evUn, e_bool, List.append_nil, exec_tidy, tidyS_a, tidyA_eq, range0, refsL, V.refs, reachB_nil, tidyB_eq, List.nodup_nil, take_all, V.within, closedB, look_nil, V.ren, Blk.ren, Option.map_none, List.zipIdx_nil, List.filterMap_nil, List.length_nil, List.filter_nil, exec_ret, blk_ret, thn_ret, lpT_ret]
    | true =>
      rw [hc] at w
      simp only [Bool.true_and]
      rw [← ih]
      clear ih
      simp (disch := first | decide | omega | (simp only [LN]; omega) | (simp only [LN]; done) | fail) only [exec_seq, exec_reg, evSegs_cons, evSeg_eq, evMks_nil, o1_some, segL_eq, wonB_nil, evChk_nil, evLets_cons, e_bin, e_sl, look_cons, Nat.reduceBEq, lookB_false, beq_self_eq_true, lookB_true, o2_some, evBin, intBin, ilt_T, decide_true, if_true, evLets_nil, letC_eq, segW_none, restrict_cons, resC_some, restrict_nil, List.cons_append, List.nil_append, addBlks, segs_nil, nrm_some, thn_nrm, exec_cond, brn_true, exec_skip, exec_block, e_un, e_call, e_cons, e_ld, e_fa, evFa, List.drop_zero, List.drop_succ_cons, evLd_d, List.map_cons, mkd, D.flat, Bool.false_eq_true, if_false, List.map_nil, part_one, e_ia, evIa_dm, rowD, natD, e_nil, consV_tup, callV_tup, evCall_eq, List.any_cons, V.own, V.own1, List.any_nil, Bool.or_self, passes_eq, List.all_cons, V.new, V.new1, Bool.or_true, List.all_nil, Bool.and_self, Bool.and_true, V.flatV, V.flat1, Bool.not_false, Bool.false_and, mapO_cons, view, viewDepth, viewD, Option.map_some, mapO_nil, mapC_eq, callA_eq, w, callR_some, Bool.not_true, evUn, brn_false, blk_nrm, e_int, cast1, wrap64, lpT_nrm, tidyS_a, tidyA_eq, range0, refsL, V.refs, List.append_nil, reachB_nil, tidyB_eq, List.nodup_nil, take_all, V.within, closedB, look_nil, V.ren, Blk.ren, Option.map_none, List.zipIdx_nil, List.filterMap_nil, List.length_nil, List.filter_nil]
theorem ev_pointwise (K : Cx) (h41 : K41 K) (s : D) (a b : Lat) (rows : List (List Nat)) (l : D) (x y : Nat) (hb : b.wf) (ha : a.sz ≤ 1000) (hr : rowsOk a b rows) (hx : x < rows.length) (hy : y < rows.length) :
    runFun K f33 [.d false (halfD s a b rows l), iN x, iN y] [] = some (.bool (ptw a b (nth rows (x : Int)) (nth rows (y : Int))), [], []) := by
  have w := pt_loop K h41 s a b rows l x y hb ha hr hx hy a.sz 0 (by omega)
  unfold f33 ptw
  generalize ptwR b (nth rows (x : Int)) (nth rows (y : Int)) a.sz 0 = q at w
  simp only [iN, halfD, Int.ofNat_zero, Int.natCast_zero] at w
  have e := cells_eq a
  cases q with
  | true =>
    simp only [ptOut, e] at w
    simp only [e, halfD, iN]
    simp (disch := first | decide | omega | (simp only [LN]; omega) | (simp only [LN]; done) | fail) only [runFun_eq, List.length_nil, startS, List.zipIdx_cons, Nat.zero_add, Nat.reduceAdd, List.zipIdx_nil, List.map_cons, List.map_nil, indexed, exec_seq, exec_reg, evSegs_cons, evSeg_eq, evMks_nil, o1_some, segL_eq, wonB_nil, evChk_cons, e_bool, Option.isSome_some, evChk_nil, Bool.and_self, evLets_nil, segW_none, restrict_cons, look_cons, beq_self_eq_true, lookB_true, resC_some, Nat.reduceBEq, lookB_false, restrict_nil, List.nil_append, addBlks, segs_nil, nrm_some, thn_nrm, evLets_cons, e_ld, e_fa, e_sl, evFa, List.drop_zero, List.drop_succ_cons, evLd_d, mkd, D.flat, Bool.false_eq_true, if_false, part_one, if_true, e_int, o2_some, letC_eq, List.cons_append, exec_block, exec_tidy, tidyS_a, tidyA_eq, range0, refsL, V.refs, List.append_nil, reachB_nil, tidyB_eq, List.nodup_nil, decide_true, take_all, List.all_cons, V.within, List.all_nil, closedB, look_nil, V.ren, Blk.ren, Option.map_none, List.filterMap_nil, List.filter_nil, exec_loop, w, blk_exit, exec_ret, endF_ret, mapO_cons, mapO_nil, mapC_eq, Option.map_some, oneOr, finish, finV, finA, finC]
  | false =>
    simp only [ptOut, e] at w
    simp only [e, halfD, iN]
    simp (disch := first | decide | omega | (simp only [LN]; omega) | (simp only [LN]; done) | fail) only [runFun_eq, List.length_nil, startS, List.zipIdx_cons, Nat.zero_add, Nat.reduceAdd, List.zipIdx_nil, List.map_cons, List.map_nil, indexed, exec_seq, exec_reg, evSegs_cons, evSeg_eq, evMks_nil, o1_some, segL_eq, wonB_nil, evChk_cons, e_bool, Option.isSome_some, evChk_nil, Bool.and_self, evLets_nil, segW_none, restrict_cons, look_cons, beq_self_eq_true, lookB_true, resC_some, Nat.reduceBEq, lookB_false, restrict_nil, List.nil_append, addBlks, segs_nil, nrm_some, thn_nrm, evLets_cons, e_ld, e_fa, e_sl, evFa, List.drop_zero, List.drop_succ_cons, evLd_d, mkd, D.flat, Bool.false_eq_true, if_false, part_one, if_true, e_int, o2_some, letC_eq, List.cons_append, exec_block, exec_tidy, tidyS_a, tidyA_eq, range0, refsL, V.refs, List.append_nil, reachB_nil, tidyB_eq, List.nodup_nil, decide_true, take_all, List.all_cons, V.within, List.all_nil, closedB, look_nil, V.ren, Blk.ren, Option.map_none, List.filterMap_nil, List.filter_nil, exec_loop, w, blk_ret, thn_ret, endF_ret, mapO_cons, mapO_nil, mapC_eq, Option.map_some, oneOr, finish, finV, finA, finC]
end Go.Vm
end

section
namespace Go.Vm
set_option maxRecDepth 20000

def fitR (a b : Lat) (row : List Nat) (v : Nat) : Nat → Nat → Bool → Bool
  | 0, _, q => q
  | m + 1, y, q => fitR a b row v m (y + 1) (q && (!a.le y row.length || b.le (nth row (y : Int)) v))
def fitB (a b : Lat) (row : List Nat) (v : Nat) : Bool := fitR a b row v row.length 0 true
def fillV (F : List Nat → List (List Nat) → Bool × List (List Nat)) (fit : Nat → Bool) (row : List Nat) : Nat → Nat → List (List Nat) → Bool × List (List Nat)
  | 0, _, found => (true, found)
  | m + 1, v, found => if fit v then (match F (row ++ [v]) found with
    | (true, f) => fillV F fit row m (v + 1) f
    | (false, f) => (false, f)) else fillV F fit row m (v + 1) found
def fillM (a b : Lat) : Nat → List Nat → List (List Nat) → Bool × List (List Nat)
  | 0, row, found => (decide (found.length + 1 ≤ 40), found ++ [row])
  | k + 1, row, found => fillV (fillM a b k) (fitB a b row) row b.sz 0 found

@[reducible] def rowV (row : List Nat) : V := .d false (.sl 1 (row.map natD))
def RowV (rv : V) (row : List Nat) : Prop := rv = rowV row ∨ (row = [] ∧ rv = .fs false 1 [])
@[reducible] def box5 (a b : Lat) (n : Nat) : Blk := .mix 5 [[.d false (.int .i64 0), pD a, pD b, .bsl 1 0 n, .fs false 1 []]]
@[reducible] def resB (found : List (List Nat)) : Blk := .dat false 1 (found.map rowD)

@[reducible] def mvB : Bool → List Nat
  | true => [1]
  | false => []

theorem ft_loop (K : Cx) (h41 : K41 K) (a b : Lat) (ha : a.wf) (hb : b.wf) (ha2 : a.sz ≤ 1000) (row : List Nat) (rv : V) (hrv : RowV rv row) (v : Nat) (hx : row.length < a.sz) (hv : v < b.sz) (hr : ∀ u ∈ row, u < b.sz) (found : List (List Nat)) (u : Bool) : ∀ (m y : Nat) (q : Bool), y + m = row.length →
    lp K 2 [0, 1, 5, 6, 7, 43, 44, 47, 48] f32_L0 ⟨[(0, .ptr 0 0 0), (1, rv), (5, iN row.length), (6, iN v), (7, .d false (.bool q)), (43, iN b.sz), (44, iN v), (47, iN row.length), (48, iN y)], [(0, box5 a b found.length), (1, resB found)], 2, mvB u⟩ =
      some (.exit 2, ⟨[(0, .ptr 0 0 0), (1, rv), (5, iN row.length), (6, iN v), (7, .d false (.bool (fitR a b row v m y q))), (43, iN b.sz), (44, iN v)], [(0, box5 a b found.length), (1, resB found)], 2, mvB u⟩) := by
  intro m
  induction m with
  | zero =>
    intro y q hy
    have hy : y = row.length := by omega
    subst hy
    simp only [fitR]
    rw [lp_un f32_L0.eq_1]
    rcases hrv with rfl | ⟨rfl, rfl⟩
    · clear hr
      simp only [iN, rowV, box5, resB, pD]
      cases u <;> (simp only [mvB]; simp (disch := first | decide | omega | (simp only [LN]; omega) | (simp only [LN]; done) | fail) only [exec_seq, exec_reg, evSegs_cons, evSeg_eq, evMks_nil, o1_some, segL_eq, wonB_nil, evChk_nil, evLets_cons, e_bin, e_sl, look_cons, Nat.reduceBEq, lookB_false, beq_self_eq_true, lookB_true, o2_some, evBin, intBin, ilt_F, decide_false, if_true, evLets_nil, letC_eq, segW_none, restrict_cons, resC_some, restrict_nil, List.cons_append, List.nil_append, addBlks, segs_nil, nrm_some, thn_nrm, exec_cond, brn_false, exec_tidy, tidyS_a, tidyA_eq, range2, List.map_cons, List.map_nil, refsL, V.refs, List.append_nil, reachB_cons, List.contains_nil, reachC_false, refsO_some, Blk.refs, List.flatMap_cons, List.flatMap_nil, List.contains_cons, Bool.or_self, Bool.or_false, reachC_true, Bool.or_true, reachB_nil, tidyB_eq, List.nodup_cons, List.mem_cons, reduceCtorEq, List.not_mem_nil, or_self, not_false_eq_true, List.nodup_nil, and_self, decide_true, take_all, Bool.and_self, List.all_cons, V.within, List.all_nil, closedB, Blk.within, withinL, List.idxOf_cons, V.ren, cond_false, cond_true, Blk.ren, List.zipIdx_cons, Nat.zero_add, Nat.reduceAdd, List.zipIdx_nil, List.filterMap_cons, Option.map_some, renL, List.filterMap_nil, List.length_cons, List.length_nil, List.filter_cons, Bool.false_eq_true, List.filter_nil, if_false, exec_exit, thn_exit, lpT_exit])
    · clear hr
      simp only [iN, rowV, box5, resB, pD]
      cases u <;> (simp only [mvB]; simp (disch := first | decide | omega | (simp only [LN]; omega) | (simp only [LN]; done) | fail) only [List.length_nil, exec_seq, exec_reg, evSegs_cons, evSeg_eq, evMks_nil, o1_some, segL_eq, wonB_nil, evChk_nil, evLets_cons, e_bin, e_sl, look_cons, Nat.reduceBEq, lookB_false, beq_self_eq_true, lookB_true, o2_some, evBin, intBin, ilt_F, decide_false, if_true, evLets_nil, letC_eq, segW_none, restrict_cons, resC_some, restrict_nil, List.cons_append, List.nil_append, addBlks, segs_nil, nrm_some, thn_nrm, exec_cond, brn_false, exec_tidy, tidyS_a, tidyA_eq, range2, List.map_cons, List.map_nil, refsL, V.refs, List.append_nil, reachB_cons, List.contains_nil, reachC_false, refsO_some, Blk.refs, List.flatMap_cons, List.flatMap_nil, List.contains_cons, Bool.or_self, Bool.or_false, reachC_true, Bool.or_true, reachB_nil, tidyB_eq, List.nodup_cons, List.mem_cons, reduceCtorEq, List.not_mem_nil, or_self, not_false_eq_true, List.nodup_nil, and_self, decide_true, take_all, Bool.and_self, List.all_cons, V.within, List.all_nil, closedB, Blk.within, withinL, List.idxOf_cons, V.ren, cond_false, cond_true, Blk.ren, List.zipIdx_cons, Nat.zero_add, Nat.reduceAdd, List.zipIdx_nil, List.filterMap_cons, Option.map_some, renL, List.filterMap_nil, List.length_cons, List.filter_cons, Bool.false_eq_true, List.filter_nil, if_false, exec_exit, thn_exit, lpT_exit])
  | succ m ih =>
    intro y q hy
    have ih := ih (y + 1) (q && (!a.le y row.length || b.le (nth row (y : Int)) v)) (by omega)
    have w1 := h41 a y row.length ha (by omega) hx
    have w2 := h41 b (nth row (y : Int)) v hb (hr _ (nth_mem (by omega))) hv
    rcases hrv with rfl | ⟨rfl, rfl⟩
    · simp only [fitR]
      rw [← ih]
      clear ih
      rw [lp_un f32_L0.eq_1]
      clear hr
      simp only [pD, iN, rowV, box5, resB] at w1 w2 ⊢
      generalize a.le y row.length = p1 at w1 ⊢
      generalize b.le (nth row (y : Int)) v = p2 at w2 ⊢
      cases u <;> (simp only [mvB]; simp (disch := first | decide | omega | (simp only [LN]; omega) | (simp only [LN]; done) | fail) only [exec_seq, exec_reg, evSegs_cons, evSeg_eq, evMks_nil, o1_some, segL_eq, wonB_nil, evChk_nil, evLets_cons, e_bin, e_sl, look_cons, Nat.reduceBEq, lookB_false, beq_self_eq_true, lookB_true, o2_some, evBin, intBin, ilt_T, decide_true, if_true, evLets_nil, letC_eq, segW_none, restrict_cons, resC_some, restrict_nil, List.cons_append, List.nil_append, addBlks, segs_nil, nrm_some, thn_nrm, exec_cond, brn_true, exec_skip, exec_block, e_and, e_or, e_un, e_call, e_cons, e_ld, e_fa, evFa, Nat.add_zero, Nat.zero_add, evLd_ptr, ldB_eq, row_mix, List.getElem?_cons_zero, ldR_eq, List.drop_succ_cons, List.drop_zero, part_one, e_nil, consV_tup, callV_tup, evCall_eq, List.any_cons, V.own, V.own1, List.any_nil, Bool.or_self, passes_eq, List.all_cons, V.new, V.new1, D.flat, Bool.or_true, List.all_nil, Bool.and_self, Bool.and_true, V.flatV, V.flat1, Bool.not_false, Bool.false_and, mapO_cons, view, viewDepth, viewD, Option.map_some, mapO_nil, mapC_eq, callA_eq, w1, callR_some, Bool.not_true, Bool.false_eq_true, if_false, evUn, e_ia, evIa_dm, natD, evLd_d, List.map_cons, mkd, List.map_nil, w2, orV_some, andV_some, blk_nrm, e_int, cast1, wrap64, lpT_nrm, tidyS_a, tidyA_eq, range2, refsL, V.refs, List.append_nil, reachB_cons, List.contains_nil, reachC_false, refsO_some, Blk.refs, List.flatMap_cons, List.flatMap_nil, List.contains_cons, Bool.or_false, reachC_true, reachB_nil, tidyB_eq, List.nodup_cons, List.mem_cons, reduceCtorEq, List.not_mem_nil, or_self, not_false_eq_true, List.nodup_nil, and_self, take_all, V.within, closedB, Blk.within, withinL, List.idxOf_cons, V.ren, cond_false, cond_true, Blk.ren, List.zipIdx_cons, Nat.reduceAdd, List.zipIdx_nil, List.filterMap_cons, renL, List.filterMap_nil, List.length_cons, List.length_nil, List.filter_cons, List.filter_nil])
    · simp at hy
def K40 (K : Cx) : Prop := (∀ row : List Nat, 0 < row.length → row.length ≤ 1000 → K.call 40 [rowV row] = some (.bsl 0 0 row.length, [.dat true 1 (row.map natD)])) ∧ K.call 40 [rowV []] = some (.fs true 1 [], [])
def chg (f g : List (List Nat)) : Bool := decide (f.length < g.length)
def E32 (K : Cx) (a b : Lat) (k : Nat) : Prop := ∀ (row : List Nat) (rv : V) (found : List (List Nat)), RowV rv row → row.length + k = a.sz → (∀ u ∈ row, u < b.sz) → found.length ≤ 40 →
  K.eff 32 [.ptr 0 0 0, rv] [box5 a b found.length, resB found] = some (.bool (fillM a b k row found).1, [box5 a b (fillM a b k row found).2.length, resB (fillM a b k row found).2], mvB (chg found (fillM a b k row found).2))

theorem fillV_le {F : List Nat → List (List Nat) → Bool × List (List Nat)} (hF : ∀ r f, f.length ≤ (F r f).2.length ∧ (f.length ≤ 40 → (F r f).1 = true → (F r f).2.length ≤ 40)) (fit row) : ∀ m v found, found.length ≤ (fillV F fit row m v found).2.length ∧ (found.length ≤ 40 → (fillV F fit row m v found).1 = true → (fillV F fit row m v found).2.length ≤ 40)
  | 0, v, found => ⟨Nat.le_refl _, fun h _ => h⟩
  | m + 1, v, found => by
    simp only [fillV]
    split
    · obtain ⟨h1, h2⟩ := hF (row ++ [v]) found
      split
      · rename_i f he
        rw [he] at h1 h2
        obtain ⟨g1, g2⟩ := fillV_le hF fit row m (v + 1) f
        exact ⟨Nat.le_trans h1 g1, fun hl hr => g2 (h2 hl rfl) hr⟩
      · rename_i f he
        rw [he] at h1
        exact ⟨h1, fun _ h => by cases h⟩
    · exact fillV_le hF fit row m (v + 1) found
theorem fillM_le (a b : Lat) : ∀ k r f, f.length ≤ (fillM a b k r f).2.length ∧ (f.length ≤ 40 → (fillM a b k r f).1 = true → (fillM a b k r f).2.length ≤ 40)
  | 0, r, f => by
    simp only [fillM, List.length_append, List.length_singleton, decide_eq_true_eq]
    exact ⟨by omega, fun _ h => h⟩
  | k + 1, r, f => by
    simp only [fillM]
    exact fillV_le (fillM_le a b k) _ _ _ _ _
theorem chg_trans {f g h : List (List Nat)} (h1 : f.length ≤ g.length) (h2 : g.length ≤ h.length) : (chg f g || chg g h) = chg f h := by
  simp only [chg]
  rw [← Bool.decide_or]
  exact decide_eq_decide.2 (by omega)

def flOut (a b : Lat) (r : Bool × List (List Nat)) (u : Bool) : Option (Ex × S) := if r.1 then some (.exit 0, ⟨[], [(0, box5 a b r.2.length), (1, resB r.2)], 2, mvB u⟩) else some (.ret, ⟨[(4, .d false (.bool false))], [(0, box5 a b r.2.length), (1, resB r.2)], 2, mvB u⟩)

set_option maxHeartbeats 8000000 in
theorem fl_loop (K : Cx) (h41 : K41 K) (h40 : K40 K) (a b : Lat) (ha : a.wf) (hb : b.wf) (ha2 : a.sz ≤ 1000) (hb2 : b.sz ≤ 1000) (k : Nat) (E : E32 K a b k) (row : List Nat) (rv : V) (hrv : RowV rv row) (hx : row.length + (k + 1) = a.sz) (hr : ∀ u ∈ row, u < b.sz) : ∀ (m v : Nat) (found : List (List Nat)) (u : Bool), v + m = b.sz → found.length ≤ 40 →
    lp K 2 [0, 1, 5, 43, 44] f32_L1 ⟨[(0, .ptr 0 0 0), (1, rv), (5, iN row.length), (43, iN b.sz), (44, iN v)], [(0, box5 a b found.length), (1, resB found)], 2, mvB u⟩ =
      flOut a b (fillV (fillM a b k) (fitB a b row) row m v found) (u || chg found (fillV (fillM a b k) (fitB a b row) row m v found).2) := by
  intro m
  induction m with
  | zero =>
    intro v found u hv hf
    have hv : v = b.sz := by omega
    subst hv
    have hc : chg found found = false := by simp [chg]
    simp only [fillV, flOut, hc, Bool.or_false, if_true]
    rw [lp_un f32_L1.eq_1]
    clear hr E
    rcases hrv with rfl | ⟨rfl, rfl⟩
    · simp only [iN, rowV, box5, resB, pD]
      cases u <;> (simp only [mvB]; simp (disch := first | decide | omega | (simp only [LN]; omega) | (simp only [LN]; done) | fail) only [exec_seq, exec_reg, evSegs_cons, evSeg_eq, evMks_nil, o1_some, segL_eq, wonB_nil, evChk_nil, evLets_cons, e_bin, e_sl, look_cons, Nat.reduceBEq, lookB_false, beq_self_eq_true, lookB_true, o2_some, evBin, intBin, ilt_F, decide_false, if_true, evLets_nil, letC_eq, segW_none, restrict_cons, resC_some, restrict_nil, List.cons_append, List.nil_append, addBlks, segs_nil, nrm_some, thn_nrm, exec_cond, brn_false, exec_tidy, tidyS_a, tidyA_eq, range2, List.map_nil, refsL, List.append_nil, reachB_cons, List.contains_nil, reachC_false, refsO_some, Blk.refs, List.flatMap_cons, V.refs, List.flatMap_nil, List.contains_cons, Bool.or_self, Bool.or_false, Bool.or_true, reachC_true, reachB_nil, tidyB_eq, List.nodup_cons, List.mem_cons, reduceCtorEq, List.not_mem_nil, or_self, not_false_eq_true, List.nodup_nil, and_self, decide_true, take_all, Bool.and_self, List.all_nil, closedB, Blk.within, List.all_cons, withinL, V.within, List.idxOf_cons, Blk.ren, List.zipIdx_cons, Nat.zero_add, Nat.reduceAdd, List.zipIdx_nil, List.filterMap_cons, Option.map_some, List.map_cons, renL, V.ren, cond_true, cond_false, List.filterMap_nil, List.length_cons, List.length_nil, List.filter_cons, Bool.false_eq_true, List.filter_nil, if_false, exec_exit, thn_exit, lpT_exit])
    · simp only [iN, rowV, box5, resB, pD]
      cases u <;> (simp only [mvB]; simp (disch := first | decide | omega | (simp only [LN]; omega) | (simp only [LN]; done) | fail) only [List.length_nil, exec_seq, exec_reg, evSegs_cons, evSeg_eq, evMks_nil, o1_some, segL_eq, wonB_nil, evChk_nil, evLets_cons, e_bin, e_sl, look_cons, Nat.reduceBEq, lookB_false, beq_self_eq_true, lookB_true, o2_some, evBin, intBin, ilt_F, decide_false, if_true, evLets_nil, letC_eq, segW_none, restrict_cons, resC_some, restrict_nil, List.cons_append, List.nil_append, addBlks, segs_nil, nrm_some, thn_nrm, exec_cond, brn_false, exec_tidy, tidyS_a, tidyA_eq, range2, List.map_nil, refsL, List.append_nil, reachB_cons, List.contains_nil, reachC_false, refsO_some, Blk.refs, List.flatMap_cons, V.refs, List.flatMap_nil, List.contains_cons, Bool.or_self, Bool.or_false, Bool.or_true, reachC_true, reachB_nil, tidyB_eq, List.nodup_cons, List.mem_cons, reduceCtorEq, List.not_mem_nil, or_self, not_false_eq_true, List.nodup_nil, and_self, decide_true, take_all, Bool.and_self, List.all_nil, closedB, Blk.within, List.all_cons, withinL, V.within, List.idxOf_cons, Blk.ren, List.zipIdx_cons, Nat.zero_add, Nat.reduceAdd, List.zipIdx_nil, List.filterMap_cons, Option.map_some, List.map_cons, renL, V.ren, cond_true, cond_false, List.filterMap_nil, List.length_cons, List.filter_cons, Bool.false_eq_true, List.filter_nil, if_false, exec_exit, thn_exit, lpT_exit])
  | succ m ih =>
    intro v found u hv hf
    have wl := ft_loop K h41 a b ha hb ha2 row rv hrv v (by omega) (by omega) hr found u row.length 0 true (by omega)
    cases hfit : fitB a b row v with
    | false =>
      have ih := ih (v + 1) found u (by omega) hf
      simp only [fillV, hfit, Bool.false_eq_true, if_false]
      rw [← ih]
      clear ih
      unfold fitB at hfit
      rw [hfit] at wl
      rw [lp_un f32_L1.eq_1]
      clear hr E
      rcases hrv with rfl | ⟨rfl, rfl⟩
      · simp only [iN, rowV, box5, resB, pD, Int.natCast_zero, Int.ofNat_zero] at wl ⊢
        cases u <;> (simp only [mvB] at wl ⊢; simp (disch := first | decide | omega | (simp only [LN]; omega) | (simp only [LN]; done) | fail) only [exec_seq, exec_reg, evSegs_cons, evSeg_eq, evMks_nil, o1_some, segL_eq, wonB_nil, evChk_nil, evLets_cons, e_bin, e_sl, look_cons, Nat.reduceBEq, lookB_false, beq_self_eq_true, lookB_true, o2_some, evBin, intBin, ilt_T, decide_true, if_true, evLets_nil, letC_eq, segW_none, restrict_cons, resC_some, restrict_nil, List.cons_append, List.nil_append, addBlks, segs_nil, nrm_some, thn_nrm, exec_cond, brn_true, exec_skip, exec_block, e_bool, e_int, exec_tidy, tidyS_a, tidyA_eq, range2, List.map_cons, List.map_nil, refsL, V.refs, List.append_nil, reachB_cons, List.contains_nil, reachC_false, refsO_some, Blk.refs, List.flatMap_cons, List.flatMap_nil, List.contains_cons, Bool.or_self, Bool.or_false, reachC_true, Bool.or_true, reachB_nil, tidyB_eq, List.nodup_cons, List.mem_cons, reduceCtorEq, List.not_mem_nil, or_self, not_false_eq_true, List.nodup_nil, and_self, take_all, Bool.and_self, List.all_cons, V.within, List.all_nil, closedB, Blk.within, withinL, List.idxOf_cons, V.ren, cond_false, cond_true, Blk.ren, List.zipIdx_cons, Nat.zero_add, Nat.reduceAdd, List.zipIdx_nil, List.filterMap_cons, Option.map_some, renL, List.filterMap_nil, List.length_cons, List.length_nil, List.filter_cons, Bool.false_eq_true, List.filter_nil, if_false, exec_loop, wl, blk_exit, exec_regg, evSegsG_cons, frzL_nil, evSegG_none, segsG_cons, evSegG_some, sgC_eq, evMks_cons, evMk_callo, e_cons, e_nil, consV_tup, mkO_tup, List.any_cons, V.own, V.own1, List.any_nil, mapO_cons, view, viewDepth, viewD, mapO_nil, mapC_eq, mkOA_eq, keepG, Bool.not_false, skipS_eq, frzL_cons, frzV_eq, look_nil, frzA_none, segW_some, evWr_calle, e_un, e_and, andV_false, segsG_nil, brn_false, blk_nrm, cast1, wrap64, lpT_nrm])
      · simp only [iN, rowV, box5, resB, pD, Int.natCast_zero, Int.ofNat_zero] at wl ⊢
        simp only [List.length_nil] at wl ⊢
        cases u <;> (simp only [mvB] at wl ⊢; simp (disch := first | decide | omega | (simp only [LN]; omega) | (simp only [LN]; done) | fail) only [exec_seq, exec_reg, evSegs_cons, evSeg_eq, evMks_nil, o1_some, segL_eq, wonB_nil, evChk_nil, evLets_cons, e_bin, e_sl, look_cons, Nat.reduceBEq, lookB_false, beq_self_eq_true, lookB_true, o2_some, evBin, intBin, ilt_T, decide_true, if_true, evLets_nil, letC_eq, segW_none, restrict_cons, resC_some, restrict_nil, List.cons_append, List.nil_append, addBlks, segs_nil, nrm_some, thn_nrm, exec_cond, brn_true, exec_skip, exec_block, e_bool, e_int, exec_tidy, tidyS_a, tidyA_eq, range2, List.map_cons, List.map_nil, refsL, V.refs, List.append_nil, reachB_cons, List.contains_nil, reachC_false, refsO_some, Blk.refs, List.flatMap_cons, List.flatMap_nil, List.contains_cons, Bool.or_self, Bool.or_false, reachC_true, Bool.or_true, reachB_nil, tidyB_eq, List.nodup_cons, List.mem_cons, reduceCtorEq, List.not_mem_nil, or_self, not_false_eq_true, List.nodup_nil, and_self, take_all, Bool.and_self, List.all_cons, V.within, List.all_nil, closedB, Blk.within, withinL, List.idxOf_cons, V.ren, cond_false, cond_true, Blk.ren, List.zipIdx_cons, Nat.zero_add, Nat.reduceAdd, List.zipIdx_nil, List.filterMap_cons, Option.map_some, renL, List.filterMap_nil, List.length_cons, List.length_nil, List.filter_cons, Bool.false_eq_true, List.filter_nil, if_false, exec_loop, wl, blk_exit, exec_regg, evSegsG_cons, frzL_nil, evSegG_none, segsG_cons, evSegG_some, sgC_eq, evMks_cons, evMk_callo, e_cons, e_nil, consV_tup, mkO_tup, List.any_cons, V.own, V.own1, List.any_nil, mapO_cons, view, viewDepth, viewD, mapO_nil, mapC_eq, mkOA_eq, keepG, Bool.not_false, skipS_eq, frzL_cons, frzV_eq, look_nil, frzA_none, segW_some, evWr_calle, e_un, e_and, andV_false, segsG_nil, brn_false, blk_nrm, cast1, wrap64, lpT_nrm])
    | true =>
      have w := E (row ++ [v]) (rowV (row ++ [v])) found (.inl rfl) (by simp; omega) (fun u hu => by
        rcases List.mem_append.1 hu with h | h
        · exact hr u h
        · simp at h; omega) hf
      obtain ⟨le1, le2⟩ := fillM_le a b k (row ++ [v]) found
      simp only [fillV, hfit, if_true]
      unfold fitB at hfit
      rw [hfit] at wl
      obtain ⟨q1, q2⟩ := h40
      generalize hq : fillM a b k (row ++ [v]) found = q at w le1 le2 ⊢
      obtain ⟨ok, f⟩ := q
      simp only at w le1 le2
      have e1 : (row ++ [v]).map natD = row.map natD ++ [[.int .i64 (v : Int)]] := by rw [List.map_append]; rfl
      rw [lp_un f32_L1.eq_1]
      clear hr E hq
      cases ok with
      | false =>
        simp only [flOut, Bool.false_eq_true, if_false]
        clear ih
        rcases hrv with rfl | ⟨rfl, rfl⟩
        · rcases Nat.eq_zero_or_pos row.length with h0 | h0
          · obtain rfl : row = [] := List.eq_nil_of_length_eq_zero h0
            simp only [iN, rowV, box5, resB, pD, Int.natCast_zero, Int.ofNat_zero, e1] at wl w q2 ⊢
            simp only [List.length_nil, List.map_nil, List.nil_append] at wl w q2 ⊢
            generalize chg found f = ch at w ⊢
            cases u <;> cases ch <;> (simp only [mvB, Bool.or_false, Bool.or_true, Bool.false_or, Bool.true_or] at wl w ⊢; simp (disch := first | decide | omega | (simp only [LN]; omega) | (simp only [LN]; done) | fail) only [exec_seq, exec_reg, evSegs_cons, evSeg_eq, evMks_nil, o1_some, segL_eq, wonB_nil, evChk_nil, evLets_cons, e_bin, e_sl, look_cons, Nat.reduceBEq, lookB_false, beq_self_eq_true, lookB_true, o2_some, evBin, intBin, ilt_T, decide_true, if_true, evLets_nil, letC_eq, segW_none, restrict_cons, resC_some, restrict_nil, List.cons_append, List.nil_append, addBlks, segs_nil, nrm_some, thn_nrm, exec_cond, brn_true, exec_skip, exec_block, e_bool, e_int, exec_tidy, tidyS_a, tidyA_eq, range2, List.map_cons, List.map_nil, refsL, V.refs, List.append_nil, reachB_cons, List.contains_nil, reachC_false, refsO_some, Blk.refs, List.flatMap_cons, List.flatMap_nil, List.contains_cons, Bool.or_self, Bool.or_false, reachC_true, Bool.or_true, reachB_nil, tidyB_eq, List.nodup_cons, List.mem_cons, reduceCtorEq, List.not_mem_nil, or_self, not_false_eq_true, List.nodup_nil, and_self, take_all, Bool.and_self, List.all_cons, V.within, List.all_nil, closedB, Blk.within, withinL, List.idxOf_cons, V.ren, cond_false, cond_true, Blk.ren, List.zipIdx_cons, Nat.zero_add, Nat.reduceAdd, List.zipIdx_nil, List.filterMap_cons, Option.map_some, renL, List.filterMap_nil, List.length_cons, List.length_nil, List.filter_cons, Bool.false_eq_true, List.filter_nil, if_false, exec_loop, wl, blk_exit, exec_regg, evSegsG_cons, frzL_nil, evSegG_none, segsG_cons, evSegG_some, sgC_eq, evMks_cons, evMk_callo, e_cons, e_nil, consV_tup, mkO_tup, List.any_cons, V.own, V.own1, List.any_nil, mapO_cons, view, viewDepth, viewD, mapO_nil, mapC_eq, mkOA_eq, q2, mkOR_some, Bool.not_false, V.new2, V.newR, V.new1, V.shift, mksA_eq, put_cons, putB_false, put_nil, Nat.add_zero, evMk_lits, mkLits_tup, V.laid, V.cell, V.cells, nlt_T, mkBlk, asD, D.flat, mksB_eq, segW_some, evWr_app, rows_bsl, rwB_dat, Nat.le_refl, flatRows_cons, flatRows_nil, List.drop_zero, wrApp_fs, Rows.blk, Rows.n, segO_some, lose, loseH, Lost.ids, keepG, skipS_eq, frzL_cons, frzV_eq, frzA_bsl, frzD_one, forgetR, V.forget, V.drop1, beq_iff_eq, V.ref0, putB_true, forgetH, Blk.forget, evWr_calle, wrEff_tup, evEff_eq, handed, Blk.dim, dimL, V.dim, effA_eq, w, effR_eq, putAll, loseM, backB_eq, List.getElem?_cons_zero, Nat.reduceSub, Option.getD_some, List.getElem?_cons_succ, e_un, evUn, e_and, andV_some, segsG_nil, exec_ret, blk_ret, thn_ret, lpT_ret])
          · have q1 := q1 row h0 (by omega)
            simp only [iN, rowV, box5, resB, pD, Int.natCast_zero, Int.ofNat_zero, e1] at wl w q1 ⊢
            generalize chg found f = ch at w ⊢
            cases u <;> cases ch <;> (simp only [mvB, Bool.or_false, Bool.or_true, Bool.false_or, Bool.true_or] at wl w ⊢; simp (disch := first | decide | omega | (simp only [LN]; omega) | (simp only [LN]; done) | fail) only [exec_seq, exec_reg, evSegs_cons, evSeg_eq, evMks_nil, o1_some, segL_eq, wonB_nil, evChk_nil, evLets_cons, e_bin, e_sl, look_cons, Nat.reduceBEq, lookB_false, beq_self_eq_true, lookB_true, o2_some, evBin, intBin, ilt_T, decide_true, if_true, evLets_nil, letC_eq, segW_none, restrict_cons, resC_some, restrict_nil, List.cons_append, List.nil_append, addBlks, segs_nil, nrm_some, thn_nrm, exec_cond, brn_true, exec_skip, exec_block, e_bool, e_int, exec_tidy, tidyS_a, tidyA_eq, range2, List.map_cons, List.map_nil, refsL, V.refs, List.append_nil, reachB_cons, List.contains_nil, reachC_false, refsO_some, Blk.refs, List.flatMap_cons, List.flatMap_nil, List.contains_cons, Bool.or_self, Bool.or_false, reachC_true, Bool.or_true, reachB_nil, tidyB_eq, List.nodup_cons, List.mem_cons, reduceCtorEq, List.not_mem_nil, or_self, not_false_eq_true, List.nodup_nil, and_self, take_all, Bool.and_self, List.all_cons, V.within, List.all_nil, closedB, Blk.within, withinL, List.idxOf_cons, V.ren, cond_false, cond_true, Blk.ren, List.zipIdx_cons, Nat.zero_add, Nat.reduceAdd, List.zipIdx_nil, List.filterMap_cons, Option.map_some, renL, List.filterMap_nil, List.length_cons, List.length_nil, List.filter_cons, Bool.false_eq_true, List.filter_nil, if_false, exec_loop, wl, blk_exit, exec_regg, evSegsG_cons, frzL_nil, evSegG_none, segsG_cons, evSegG_some, sgC_eq, evMks_cons, evMk_callo, e_cons, e_nil, consV_tup, mkO_tup, List.any_cons, V.own, V.own1, List.any_nil, mapO_cons, view, viewDepth, viewD, mapO_nil, mapC_eq, mkOA_eq, q1, mkOR_some, Blk.plain, Bool.not_false, V.new2, V.newR, Blk.new, V.shift, mksA_eq, put_cons, putB_false, put_nil, evMk_lits, mkLits_tup, V.laid, V.cell, V.cells, nlt_T, mkBlk, asD, V.new1, D.flat, mksB_eq, segW_some, evWr_app, rows_bsl, rwB_dat, Nat.le_refl, flatRows_cons, flatRows_nil, List.drop_zero, wrApp_bsl, apA_dat, Blk.app, putB_true, Rows.n, segO_some, lose, forgetR, V.forget, V.drop1, beq_iff_eq, V.ref0, loseH, forgetH, Blk.forget, Lost.ids, keepG, skipS_eq, frzL_cons, frzV_eq, frzA_bsl, frzD_snoc, evWr_calle, wrEff_tup, evEff_eq, handed, Blk.dim, dimL, V.dim, effA_eq, w, effR_eq, putAll, loseM, backB_eq, List.getElem?_cons_zero, Nat.reduceSub, Nat.add_zero, Option.getD_some, List.getElem?_cons_succ, e_un, evUn, e_and, andV_some, segsG_nil, exec_ret, blk_ret, thn_ret, lpT_ret])
        · simp only [iN, rowV, box5, resB, pD, Int.natCast_zero, Int.ofNat_zero, e1] at wl w q2 ⊢
          simp only [List.length_nil, List.map_nil, List.nil_append] at wl w q2 ⊢
          generalize chg found f = ch at w ⊢
          cases u <;> cases ch <;> (simp only [mvB, Bool.or_false, Bool.or_true, Bool.false_or, Bool.true_or] at wl w ⊢; simp (disch := first | decide | omega | (simp only [LN]; omega) | (simp only [LN]; done) | fail) only [exec_seq, exec_reg, evSegs_cons, evSeg_eq, evMks_nil, o1_some, segL_eq, wonB_nil, evChk_nil, evLets_cons, e_bin, e_sl, look_cons, Nat.reduceBEq, lookB_false, beq_self_eq_true, lookB_true, o2_some, evBin, intBin, ilt_T, decide_true, if_true, evLets_nil, letC_eq, segW_none, restrict_cons, resC_some, restrict_nil, List.cons_append, List.nil_append, addBlks, segs_nil, nrm_some, thn_nrm, exec_cond, brn_true, exec_skip, exec_block, e_bool, e_int, exec_tidy, tidyS_a, tidyA_eq, range2, List.map_cons, List.map_nil, refsL, V.refs, List.append_nil, reachB_cons, List.contains_nil, reachC_false, refsO_some, Blk.refs, List.flatMap_cons, List.flatMap_nil, List.contains_cons, Bool.or_self, Bool.or_false, reachC_true, Bool.or_true, reachB_nil, tidyB_eq, List.nodup_cons, List.mem_cons, reduceCtorEq, List.not_mem_nil, or_self, not_false_eq_true, List.nodup_nil, and_self, take_all, Bool.and_self, List.all_cons, V.within, List.all_nil, closedB, Blk.within, withinL, List.idxOf_cons, V.ren, cond_false, cond_true, Blk.ren, List.zipIdx_cons, Nat.zero_add, Nat.reduceAdd, List.zipIdx_nil, List.filterMap_cons, Option.map_some, renL, List.filterMap_nil, List.length_cons, List.length_nil, List.filter_cons, Bool.false_eq_true, List.filter_nil, if_false, exec_loop, wl, blk_exit, exec_regg, evSegsG_cons, frzL_nil, evSegG_none, segsG_cons, evSegG_some, sgC_eq, evMks_cons, evMk_callo, e_cons, e_nil, consV_tup, mkO_tup, List.any_cons, V.own, V.own1, List.any_nil, mapO_cons, view, viewDepth, viewD, mapO_nil, mapC_eq, mkOA_eq, q2, mkOR_some, Bool.not_false, V.new2, V.newR, V.new1, V.shift, mksA_eq, put_cons, putB_false, put_nil, Nat.add_zero, evMk_lits, mkLits_tup, V.laid, V.cell, V.cells, nlt_T, mkBlk, asD, D.flat, mksB_eq, segW_some, evWr_app, rows_bsl, rwB_dat, Nat.le_refl, flatRows_cons, flatRows_nil, List.drop_zero, wrApp_fs, Rows.blk, Rows.n, segO_some, lose, loseH, Lost.ids, keepG, skipS_eq, frzL_cons, frzV_eq, frzA_bsl, frzD_one, forgetR, V.forget, V.drop1, beq_iff_eq, V.ref0, putB_true, forgetH, Blk.forget, evWr_calle, wrEff_tup, evEff_eq, handed, Blk.dim, dimL, V.dim, effA_eq, w, effR_eq, putAll, loseM, backB_eq, List.getElem?_cons_zero, Nat.reduceSub, Option.getD_some, List.getElem?_cons_succ, e_un, evUn, e_and, andV_some, segsG_nil, exec_ret, blk_ret, thn_ret, lpT_ret])
      | true =>
        simp only
        have g := fillV_le (fillM_le a b k) (fitB a b row) row m (v + 1) f
        have hct := chg_trans le1 g.1
        have ih := ih (v + 1) f (u || chg found f) (by omega) (le2 hf rfl)
        rw [Bool.or_assoc, hct] at ih
        rw [← ih]
        clear ih hct g
        rcases hrv with rfl | ⟨rfl, rfl⟩
        · rcases Nat.eq_zero_or_pos row.length with h0 | h0
          · obtain rfl : row = [] := List.eq_nil_of_length_eq_zero h0
            simp only [iN, rowV, box5, resB, pD, Int.natCast_zero, Int.ofNat_zero, e1] at wl w q2 ⊢
            simp only [List.length_nil, List.map_nil, List.nil_append] at wl w q2 ⊢
            generalize chg found f = ch at w ⊢
            cases u <;> cases ch <;> (simp only [mvB, Bool.or_false, Bool.or_true, Bool.false_or, Bool.true_or] at wl w ⊢; simp (disch := first | decide | omega | (simp only [LN]; omega) | (simp only [LN]; done) | fail) only [exec_seq, exec_reg, evSegs_cons, evSeg_eq, evMks_nil, o1_some, segL_eq, wonB_nil, evChk_nil, evLets_cons, e_bin, e_sl, look_cons, Nat.reduceBEq, lookB_false, beq_self_eq_true, lookB_true, o2_some, evBin, intBin, ilt_T, decide_true, if_true, evLets_nil, letC_eq, segW_none, restrict_cons, resC_some, restrict_nil, List.cons_append, List.nil_append, addBlks, segs_nil, nrm_some, thn_nrm, exec_cond, brn_true, exec_skip, exec_block, e_bool, e_int, exec_tidy, tidyS_a, tidyA_eq, range2, List.map_cons, List.map_nil, refsL, V.refs, List.append_nil, reachB_cons, List.contains_nil, reachC_false, refsO_some, Blk.refs, List.flatMap_cons, List.flatMap_nil, List.contains_cons, Bool.or_self, Bool.or_false, reachC_true, Bool.or_true, reachB_nil, tidyB_eq, List.nodup_cons, List.mem_cons, reduceCtorEq, List.not_mem_nil, or_self, not_false_eq_true, List.nodup_nil, and_self, take_all, Bool.and_self, List.all_cons, V.within, List.all_nil, closedB, Blk.within, withinL, List.idxOf_cons, V.ren, cond_false, cond_true, Blk.ren, List.zipIdx_cons, Nat.zero_add, Nat.reduceAdd, List.zipIdx_nil, List.filterMap_cons, Option.map_some, renL, List.filterMap_nil, List.length_cons, List.length_nil, List.filter_cons, Bool.false_eq_true, List.filter_nil, if_false, exec_loop, wl, blk_exit, exec_regg, evSegsG_cons, frzL_nil, evSegG_none, segsG_cons, evSegG_some, sgC_eq, evMks_cons, evMk_callo, e_cons, e_nil, consV_tup, mkO_tup, List.any_cons, V.own, V.own1, List.any_nil, mapO_cons, view, viewDepth, viewD, mapO_nil, mapC_eq, mkOA_eq, q2, mkOR_some, Bool.not_false, V.new2, V.newR, V.new1, V.shift, mksA_eq, put_cons, putB_false, put_nil, Nat.add_zero, evMk_lits, mkLits_tup, V.laid, V.cell, V.cells, nlt_T, mkBlk, asD, D.flat, mksB_eq, segW_some, evWr_app, rows_bsl, rwB_dat, Nat.le_refl, flatRows_cons, flatRows_nil, List.drop_zero, wrApp_fs, Rows.blk, Rows.n, segO_some, lose, loseH, Lost.ids, keepG, skipS_eq, frzL_cons, frzV_eq, frzA_bsl, frzD_one, forgetR, V.forget, V.drop1, beq_iff_eq, V.ref0, putB_true, forgetH, Blk.forget, evWr_calle, wrEff_tup, evEff_eq, handed, Blk.dim, dimL, V.dim, effA_eq, w, effR_eq, putAll, loseM, backB_eq, List.getElem?_cons_zero, Nat.reduceSub, Option.getD_some, List.getElem?_cons_succ, e_un, evUn, Bool.not_true, e_and, andV_some, Bool.and_false, segsG_nil, brn_false, blk_nrm, cast1, wrap64, lpT_nrm])
          · have q1 := q1 row h0 (by omega)
            simp only [iN, rowV, box5, resB, pD, Int.natCast_zero, Int.ofNat_zero, e1] at wl w q1 ⊢
            generalize chg found f = ch at w ⊢
            cases u <;> cases ch <;> (simp only [mvB, Bool.or_false, Bool.or_true, Bool.false_or, Bool.true_or] at wl w ⊢; simp (disch := first | decide | omega | (simp only [LN]; omega) | (simp only [LN]; done) | fail) only [exec_seq, exec_reg, evSegs_cons, evSeg_eq, evMks_nil, o1_some, segL_eq, wonB_nil, evChk_nil, evLets_cons, e_bin, e_sl, look_cons, Nat.reduceBEq, lookB_false, beq_self_eq_true, lookB_true, o2_some, evBin, intBin, ilt_T, decide_true, if_true, evLets_nil, letC_eq, segW_none, restrict_cons, resC_some, restrict_nil, List.cons_append, List.nil_append, addBlks, segs_nil, nrm_some, thn_nrm, exec_cond, brn_true, exec_skip, exec_block, e_bool, e_int, exec_tidy, tidyS_a, tidyA_eq, range2, List.map_cons, List.map_nil, refsL, V.refs, List.append_nil, reachB_cons, List.contains_nil, reachC_false, refsO_some, Blk.refs, List.flatMap_cons, List.flatMap_nil, List.contains_cons, Bool.or_self, Bool.or_false, reachC_true, Bool.or_true, reachB_nil, tidyB_eq, List.nodup_cons, List.mem_cons, reduceCtorEq, List.not_mem_nil, or_self, not_false_eq_true, List.nodup_nil, and_self, take_all, Bool.and_self, List.all_cons, V.within, List.all_nil, closedB, Blk.within, withinL, List.idxOf_cons, V.ren, cond_false, cond_true, Blk.ren, List.zipIdx_cons, Nat.zero_add, Nat.reduceAdd, List.zipIdx_nil, List.filterMap_cons, Option.map_some, renL, List.filterMap_nil, List.length_cons, List.length_nil, List.filter_cons, Bool.false_eq_true, List.filter_nil, if_false, exec_loop, wl, blk_exit, exec_regg, evSegsG_cons, frzL_nil, evSegG_none, segsG_cons, evSegG_some, sgC_eq, evMks_cons, evMk_callo, e_cons, e_nil, consV_tup, mkO_tup, List.any_cons, V.own, V.own1, List.any_nil, mapO_cons, view, viewDepth, viewD, mapO_nil, mapC_eq, mkOA_eq, q1, mkOR_some, Blk.plain, Bool.not_false, V.new2, V.newR, Blk.new, V.shift, mksA_eq, put_cons, putB_false, put_nil, evMk_lits, mkLits_tup, V.laid, V.cell, V.cells, nlt_T, mkBlk, asD, V.new1, D.flat, mksB_eq, segW_some, evWr_app, rows_bsl, rwB_dat, Nat.le_refl, flatRows_cons, flatRows_nil, List.drop_zero, wrApp_bsl, apA_dat, Blk.app, putB_true, Rows.n, segO_some, lose, forgetR, V.forget, V.drop1, beq_iff_eq, V.ref0, loseH, forgetH, Blk.forget, Lost.ids, keepG, skipS_eq, frzL_cons, frzV_eq, frzA_bsl, frzD_snoc, evWr_calle, wrEff_tup, evEff_eq, handed, Blk.dim, dimL, V.dim, effA_eq, w, effR_eq, putAll, loseM, backB_eq, List.getElem?_cons_zero, Nat.reduceSub, Nat.add_zero, Option.getD_some, List.getElem?_cons_succ, e_un, evUn, Bool.not_true, e_and, andV_some, Bool.and_false, segsG_nil, brn_false, blk_nrm, cast1, wrap64, lpT_nrm])
        · simp only [iN, rowV, box5, resB, pD, Int.natCast_zero, Int.ofNat_zero, e1] at wl w q2 ⊢
          simp only [List.length_nil, List.map_nil, List.nil_append] at wl w q2 ⊢
          generalize chg found f = ch at w ⊢
          cases u <;> cases ch <;> (simp only [mvB, Bool.or_false, Bool.or_true, Bool.false_or, Bool.true_or] at wl w ⊢; simp (disch := first | decide | omega | (simp only [LN]; omega) | (simp only [LN]; done) | fail) only [exec_seq, exec_reg, evSegs_cons, evSeg_eq, evMks_nil, o1_some, segL_eq, wonB_nil, evChk_nil, evLets_cons, e_bin, e_sl, look_cons, Nat.reduceBEq, lookB_false, beq_self_eq_true, lookB_true, o2_some, evBin, intBin, ilt_T, decide_true, if_true, evLets_nil, letC_eq, segW_none, restrict_cons, resC_some, restrict_nil, List.cons_append, List.nil_append, addBlks, segs_nil, nrm_some, thn_nrm, exec_cond, brn_true, exec_skip, exec_block, e_bool, e_int, exec_tidy, tidyS_a, tidyA_eq, range2, List.map_cons, List.map_nil, refsL, V.refs, List.append_nil, reachB_cons, List.contains_nil, reachC_false, refsO_some, Blk.refs, List.flatMap_cons, List.flatMap_nil, List.contains_cons, Bool.or_self, Bool.or_false, reachC_true, Bool.or_true, reachB_nil, tidyB_eq, List.nodup_cons, List.mem_cons, reduceCtorEq, List.not_mem_nil, or_self, not_false_eq_true, List.nodup_nil, and_self, take_all, Bool.and_self, List.all_cons, V.within, List.all_nil, closedB, Blk.within, withinL, List.idxOf_cons, V.ren, cond_false, cond_true, Blk.ren, List.zipIdx_cons, Nat.zero_add, Nat.reduceAdd, List.zipIdx_nil, List.filterMap_cons, Option.map_some, renL, List.filterMap_nil, List.length_cons, List.length_nil, List.filter_cons, Bool.false_eq_true, List.filter_nil, if_false, exec_loop, wl, blk_exit, exec_regg, evSegsG_cons, frzL_nil, evSegG_none, segsG_cons, evSegG_some, sgC_eq, evMks_cons, evMk_callo, e_cons, e_nil, consV_tup, mkO_tup, List.any_cons, V.own, V.own1, List.any_nil, mapO_cons, view, viewDepth, viewD, mapO_nil, mapC_eq, mkOA_eq, q2, mkOR_some, Bool.not_false, V.new2, V.newR, V.new1, V.shift, mksA_eq, put_cons, putB_false, put_nil, Nat.add_zero, evMk_lits, mkLits_tup, V.laid, V.cell, V.cells, nlt_T, mkBlk, asD, D.flat, mksB_eq, segW_some, evWr_app, rows_bsl, rwB_dat, Nat.le_refl, flatRows_cons, flatRows_nil, List.drop_zero, wrApp_fs, Rows.blk, Rows.n, segO_some, lose, loseH, Lost.ids, keepG, skipS_eq, frzL_cons, frzV_eq, frzA_bsl, frzD_one, forgetR, V.forget, V.drop1, beq_iff_eq, V.ref0, putB_true, forgetH, Blk.forget, evWr_calle, wrEff_tup, evEff_eq, handed, Blk.dim, dimL, V.dim, effA_eq, w, effR_eq, putAll, loseM, backB_eq, List.getElem?_cons_zero, Nat.reduceSub, Option.getD_some, List.getElem?_cons_succ, e_un, evUn, Bool.not_true, e_and, andV_some, Bool.and_false, segsG_nil, brn_false, blk_nrm, cast1, wrap64, lpT_nrm])
end Go.Vm
end

section
namespace Go.Vm
set_option maxRecDepth 20000

def segA : Seg := ⟨[(27, .lits 1 (.cons (.call 40 (.cons (.sl 1) .nil)) .nil))], [(20, (.sl 0))], [], some (some 28, .app 1 (.ld 1 false (.fa 3 (.fa 0 (.sl 0)))) (.sl 27)), [0], 9, [[], [], [1], [1, 2], [2, 1, 3], [], [5], [5, 6], [6, 5, 7, 3, 1, 2, 4], [8, 7, 6, 5, 4, 3, 2, 1, 0], [0, 1, 2, 3, 4, 5, 6, 7, 8, 9], [9, 8, 7, 6, 5, 4, 3, 2, 1, 0, 10]], [], [(.sl 0)]⟩

theorem segA_ev (K : Cx) (h40 : K40 K) (a b : Lat) (row : List Nat) (h0 : 0 < row.length) (h1 : row.length ≤ 1000) (found : List (List Nat)) (hf : found.length ≤ 40) :
    evSeg K ⟨[(19, .d false (.bool true)), (0, .ptr 0 0 0), (1, rowV row), (5, iN row.length)], [(0, box5 a b found.length), (1, resB found)], 2, []⟩ segA = some ⟨[(28, .bsl 1 0 (found.length + 1)), (20, .ptr 0 0 0), (0, .ptr 0 0 0)],
      [(2, .dat false 1 [[.sl 1 (row.map natD)]]), (0, .mix 5 [[.d false (.int .i64 0), pD a, pD b, .junk, .fs false 1 []]]), (1, .dat false 1 (found.map rowD ++ [[.sl 1 (row.map natD)]]))], 3, [1]⟩ := by
  have q1 := h40.1 row h0 h1
  refine evSeg_lateC ?_ ?_
  · unfold segA
    rw [evSeg0_eq]
    simp only [iN, rowV, box5, resB, pD] at q1 ⊢
    simp (disch := first | decide | omega | (simp only [LN]; omega) | (simp only [LN]; done) | fail) only [evMks_cons, evMk_lits, e_cons, e_call, e_sl, look_cons, Nat.reduceBEq, lookB_false, beq_self_eq_true, lookB_true, e_nil, o2_some, consV_tup, o1_some, callV_tup, evCall_eq, List.any_cons, V.own, V.own1, List.any_nil, Bool.or_self, passes_eq, List.all_cons, V.new, V.new1, D.flat, List.all_nil, Bool.and_true, V.flatV, V.flat1, Bool.not_false, Bool.false_and, mapO_cons, view, viewDepth, viewD, Option.map_some, mapO_nil, mapC_eq, callA_eq, q1, callR_news, indexed, List.zipIdx_cons, Nat.zero_add, List.zipIdx_nil, List.map_cons, List.map_nil, List.length_map, Nat.le_refl, List.drop_zero, take_all, if_true, mkLits_tup, V.laid, V.cell, V.cells, List.length_cons, List.length_nil, Bool.and_self, nlt_T, decide_true, mkBlk, asD, mksA_eq, put_cons, putB_false, put_nil, Nat.reduceAdd, evMks_nil, mksB_eq, List.append_nil, segL_eq, wonB_nil, evChk_nil, evLets_cons, evLets_nil, letC_eq, segW_some, restrict_cons, resC_some, restrict_nil, List.cons_append, List.nil_append, addBlks, evWr_app, e_ld, e_fa, evFa, Nat.add_zero, evLd_ptr, ldB_eq, row_mix, List.getElem?_cons_zero, ldR_eq, List.drop_succ_cons, part_one, rows_bsl, rwB_dat, flatRows_cons, flatRows_nil, wrApp_bsl, apA_dat, Blk.app, putB_true, Rows.n, segO_some, lose, forgetR, V.forget, V.drop1, beq_iff_eq, V.ref0, reduceCtorEq, if_false, loseH, forgetH, Blk.forget, Lost.ids]
  · unfold segA lateC
    simp only [iN, rowV, box5, resB, pD] at q1 ⊢
    simp (disch := first | decide | omega | (simp only [LN]; omega) | (simp only [LN]; done) | fail) only [List.isEmpty_cons, evMks_cons, evMk_lits, e_cons, e_call, e_sl, look_cons, Nat.reduceBEq, lookB_false, beq_self_eq_true, lookB_true, e_nil, o2_some, consV_tup, o1_some, callV_tup, evCall_eq, List.any_cons, V.own, V.own1, List.any_nil, Bool.or_self, passes_eq, List.all_cons, V.new, V.new1, D.flat, List.all_nil, Bool.and_true, V.flatV, V.flat1, Bool.not_false, Bool.false_and, mapO_cons, view, viewDepth, viewD, Option.map_some, mapO_nil, mapC_eq, callA_eq, q1, callR_news, indexed, List.zipIdx_cons, Nat.zero_add, List.zipIdx_nil, List.map_cons, List.map_nil, List.length_map, Nat.le_refl, List.drop_zero, take_all, if_true, mkLits_tup, V.laid, V.cell, V.cells, List.length_cons, List.length_nil, Bool.and_self, nlt_T, decide_true, mkBlk, asD, mksA_eq, put_cons, putB_false, put_nil, Nat.reduceAdd, evMks_nil, mksB_eq, List.append_nil, clean, cleanV, List.contains_cons, List.contains_nil, Bool.or_false, beq_iff_eq, reduceCtorEq, if_false, Nat.reduceEqDiff, lateH, lateB, Bool.or_true]

theorem ev_fill0 (K : Cx) (h40 : K40 K) (a b : Lat) (row : List Nat) (rv : V) (hrv : RowV rv row) (h0 : 0 < row.length) (hz : row.length = a.sz) (h1 : a.sz ≤ 1000) (found : List (List Nat)) (hf : found.length ≤ 40) :
    runFun K f32 [.ptr 0 0 0, rv] [box5 a b found.length, resB found] = some (.bool (fillM a b 0 row found).1, [box5 a b (fillM a b 0 row found).2.length, resB (fillM a b 0 row found).2], mvB (chg found (fillM a b 0 row found).2)) := by
  obtain rfl : rv = rowV row := by
    rcases hrv with h | ⟨h, _⟩
    · exact h
    · subst h; simp at h0
  have w := segA_ev K h40 a b row h0 (by omega) found hf
  have e := cells_eq a
  have hc : chg found (found ++ [row]) = true := by simp [chg]
  have hle : ((found.length : Int) + 1 ≤ 40) = (found.length + 1 ≤ 40) := by simp only [eq_iff_iff]; omega
  simp only [fillM, hc, mvB, List.map_append, List.map_cons, List.map_nil, List.length_append, List.length_cons, List.length_nil]
  unfold f32
  unfold segA at w
  simp only [iN, rowV, box5, resB, pD, e, hz, rowD] at w ⊢
  simp (disch := first | decide | omega | (simp only [LN]; omega) | (simp only [LN]; done) | fail) only [runFun_eq, List.length_cons, List.length_nil, Nat.zero_add, Nat.reduceAdd, startS, List.zipIdx_cons, List.zipIdx_nil, List.map_cons, List.map_nil, indexed, exec_seq, exec_reg, evSegs_cons, evSeg_eq, evMks_nil, o1_some, segL_eq, wonB_nil, evChk_cons, e_bool, Option.isSome_some, evChk_nil, Bool.and_self, evLets_nil, segW_none, restrict_cons, look_cons, beq_self_eq_true, lookB_true, resC_some, Nat.reduceBEq, lookB_false, restrict_nil, List.nil_append, addBlks, segs_nil, nrm_some, thn_nrm, evLets_cons, e_len, e_sl, evLen, List.length_map, hz, o2_some, letC_eq, List.cons_append, e_bin, e_ld, e_fa, evFa, Nat.add_zero, evLd_ptr, ldB_eq, row_mix, List.getElem?_cons_zero, ldR_eq, List.drop_succ_cons, List.drop_zero, part_one, evLd_d, mkd, D.flat, if_true, evBin, intBin, exec_cond, brn_true, w, segs_cons, segW_some, evWr_store, wrStore_ptr, V.laid, V.cell, V.cells, stA_eq, set_mix0, nle_T, splice, List.take_succ_cons, List.take_zero, stB_some, put_cons, putB_false, putB_true, segO_none, lose, loseH, Lost.ids, e_int, List.append_nil, exec_tidy, tidyS_a, tidyA_eq, range2, refsL, V.refs, reachB_cons, List.contains_nil, reachC_false, refsO_some, Blk.refs, List.flatMap_cons, List.flatMap_nil, List.contains_cons, Bool.or_self, Bool.or_false, Bool.or_true, reachC_true, reachB_nil, tidyB_eq, List.nodup_cons, List.mem_cons, reduceCtorEq, List.not_mem_nil, or_self, not_false_eq_true, List.nodup_nil, and_self, decide_true, take_all, List.all_cons, V.within, List.all_nil, closedB, Blk.within, withinL, List.idxOf_cons, V.ren, Blk.ren, List.filterMap_cons, Option.map_some, renL, cond_true, cond_false, List.filterMap_nil, List.filter_cons, Bool.false_eq_true, List.filter_nil, if_false, exec_ret, thn_ret, endF_ret, mapO_cons, mapO_nil, mapC_eq, oneOr, finish, finV, finA, finC, finB, hNew, restH, forgetH, Blk.forget, V.forget, V.drop1, V.ref0, Bool.not_true, V.newR, V.new1, Bool.and_true, viewDepth, viewD, look_nil, Option.map_none, Nat.reduceLeDiff, Option.some.injEq, Prod.mk.injEq, and_true]
  have hd : decide (((found.length + 1 : Nat) : Int) ≤ 40) = decide (found.length ≤ 39) := decide_eq_decide.2 (by omega)
  refine ⟨by rw [hd], ?_⟩
  rw [List.map_append]
  rfl
theorem ev_fillS (K : Cx) (h41 : K41 K) (h40 : K40 K) (a b : Lat) (ha : a.wf) (hb : b.wf) (ha2 : a.sz ≤ 1000) (hb2 : b.sz ≤ 1000) (k : Nat) (E : E32 K a b k) (row : List Nat) (rv : V) (hrv : RowV rv row) (hx : row.length + (k + 1) = a.sz) (hr : ∀ u ∈ row, u < b.sz) (found : List (List Nat)) (hf : found.length ≤ 40) :
    runFun K f32 [.ptr 0 0 0, rv] [box5 a b found.length, resB found] = some (.bool (fillM a b (k + 1) row found).1, [box5 a b (fillM a b (k + 1) row found).2.length, resB (fillM a b (k + 1) row found).2], mvB (chg found (fillM a b (k + 1) row found).2)) := by
  have w := fl_loop K h41 h40 a b ha hb ha2 hb2 k E row rv hrv hx hr b.sz 0 found false (by omega) hf
  have e := cells_eq a
  have e2 := cells_eq b
  have hne : ((row.length : Int) == (a.sz : Int)) = false := by simp; omega
  have hne0 : ((0 : Int) == (a.sz : Int)) = false ∨ 0 < row.length := by
    rcases Nat.eq_zero_or_pos row.length with h | h
    · exact .inl (by simp; omega)
    · exact .inr h
  simp only [fillM]
  generalize fillV (fillM a b k) (fitB a b row) row b.sz 0 found = q at w ⊢
  obtain ⟨ok, f⟩ := q
  clear E hr
  unfold f32
  rcases hrv with rfl | ⟨rfl, rfl⟩
  · simp only [iN, rowV, box5, resB, pD, e, e2, Int.natCast_zero, Int.ofNat_zero, Bool.false_or] at w ⊢
    generalize chg found f = ch at w ⊢
    cases ok <;> cases ch <;> (simp only [flOut, iN, rowV, box5, resB, pD, e, e2, mvB, if_true, if_false, Bool.false_eq_true] at w ⊢; simp (disch := first | decide | omega | (simp only [LN]; omega) | (simp only [LN]; done) | fail) only [runFun_eq, List.length_cons, List.length_nil, Nat.zero_add, Nat.reduceAdd, startS, List.zipIdx_cons, List.zipIdx_nil, List.map_cons, List.map_nil, indexed, exec_seq, exec_reg, evSegs_cons, evSeg_eq, evMks_nil, o1_some, segL_eq, wonB_nil, evChk_cons, e_bool, Option.isSome_some, evChk_nil, Bool.and_self, evLets_nil, segW_none, restrict_cons, look_cons, beq_self_eq_true, lookB_true, resC_some, Nat.reduceBEq, lookB_false, restrict_nil, List.nil_append, addBlks, segs_nil, nrm_some, thn_nrm, evLets_cons, e_len, e_sl, evLen, List.length_map, o2_some, letC_eq, List.cons_append, e_bin, e_ld, e_fa, evFa, Nat.add_zero, evLd_ptr, ldB_eq, row_mix, List.getElem?_cons_zero, ldR_eq, List.drop_succ_cons, List.drop_zero, part_one, evLd_d, mkd, D.flat, if_true, evBin, intBin, hne, exec_cond, brn_false, exec_skip, e_int, exec_block, exec_tidy, tidyS_a, tidyA_eq, range2, refsL, V.refs, List.append_nil, reachB_cons, List.contains_nil, reachC_false, refsO_some, Blk.refs, List.flatMap_cons, List.flatMap_nil, List.contains_cons, Bool.or_self, Bool.or_false, reachC_true, Bool.or_true, reachB_nil, tidyB_eq, List.nodup_cons, List.mem_cons, reduceCtorEq, List.not_mem_nil, or_self, not_false_eq_true, List.nodup_nil, and_self, decide_true, take_all, List.all_cons, V.within, List.all_nil, closedB, Blk.within, withinL, List.idxOf_cons, V.ren, cond_false, cond_true, Blk.ren, List.filterMap_cons, Option.map_some, renL, List.filterMap_nil, List.filter_cons, Bool.false_eq_true, List.filter_nil, if_false, exec_loop, w, blk_ret, thn_ret, endF_ret, mapO_cons, mapO_nil, mapC_eq, oneOr, finish, finV, finA, finC, finB, hNew, restH, forgetH, Blk.forget, V.forget, V.drop1, V.ref0, Bool.not_true, V.newR, V.new1, Bool.and_true, viewDepth, viewD, look_nil, Option.map_none, blk_exit, exec_ret])
  · have hne1 : ((0 : Int) == (a.sz : Int)) = false := hne0.resolve_right (by simp)
    simp only [iN, rowV, box5, resB, pD, e, e2, Int.natCast_zero, Int.ofNat_zero, Bool.false_or] at w ⊢
    simp only [List.length_nil] at w ⊢
    generalize chg found f = ch at w ⊢
    cases ok <;> cases ch <;> (simp only [flOut, iN, rowV, box5, resB, pD, e, e2, mvB, if_true, if_false, Bool.false_eq_true] at w ⊢; simp (disch := first | decide | omega | (simp only [LN]; omega) | (simp only [LN]; done) | fail) only [runFun_eq, List.length_cons, List.length_nil, Nat.zero_add, Nat.reduceAdd, startS, List.zipIdx_cons, List.zipIdx_nil, List.map_cons, List.map_nil, indexed, exec_seq, exec_reg, evSegs_cons, evSeg_eq, evMks_nil, o1_some, segL_eq, wonB_nil, evChk_cons, e_bool, Option.isSome_some, evChk_nil, Bool.and_self, evLets_nil, segW_none, restrict_cons, look_cons, beq_self_eq_true, lookB_true, resC_some, Nat.reduceBEq, lookB_false, restrict_nil, List.nil_append, addBlks, segs_nil, nrm_some, thn_nrm, evLets_cons, e_len, e_sl, evLen, o2_some, letC_eq, List.cons_append, e_bin, e_ld, e_fa, evFa, Nat.add_zero, evLd_ptr, ldB_eq, row_mix, List.getElem?_cons_zero, ldR_eq, List.drop_succ_cons, List.drop_zero, part_one, evLd_d, mkd, D.flat, if_true, evBin, intBin, eq_f, exec_cond, brn_false, exec_skip, e_int, exec_block, exec_tidy, tidyS_a, tidyA_eq, range2, refsL, V.refs, List.append_nil, reachB_cons, List.contains_nil, reachC_false, refsO_some, Blk.refs, List.flatMap_cons, List.flatMap_nil, List.contains_cons, Bool.or_self, Bool.or_false, reachC_true, Bool.or_true, reachB_nil, tidyB_eq, List.nodup_cons, List.mem_cons, reduceCtorEq, List.not_mem_nil, or_self, not_false_eq_true, List.nodup_nil, and_self, decide_true, take_all, List.all_cons, V.within, List.all_nil, closedB, Blk.within, withinL, List.idxOf_cons, V.ren, cond_false, cond_true, Blk.ren, List.filterMap_cons, Option.map_some, renL, List.filterMap_nil, List.filter_cons, Bool.false_eq_true, List.filter_nil, if_false, exec_loop, w, blk_ret, thn_ret, endF_ret, mapO_cons, mapO_nil, mapC_eq, oneOr, finish, finV, finA, finC, finB, hNew, restH, forgetH, Blk.forget, V.forget, V.drop1, V.ref0, Bool.not_true, V.newR, V.new1, Bool.and_true, viewDepth, viewD, look_nil, Option.map_none, blk_exit, exec_ret])
end Go.Vm
end

section
namespace Go.Vm
set_option maxRecDepth 20000
open Go.Proofs Go.RowKit

theorem map_inj' {α β : Type} {f : α → β} (hf : ∀ x y, f x = f y → x = y) : ∀ l l' : List α, l.map f = l'.map f → l = l'
  | [], [], _ => rfl
  | [], _ :: _, h => by simp at h
  | _ :: _, [], h => by simp at h
  | a :: l, b :: l', h => by
    simp only [List.map_cons, List.cons.injEq] at h
    rw [hf a b h.1, map_inj' hf l l' h.2]
theorem natD_inj (x y : Nat) (h : natD x = natD y) : x = y := by
  simp only [natD, List.cons.injEq, D.int.injEq, true_and, and_true] at h
  omega
theorem boolD_inj (x y : Bool) (h : boolD x = boolD y) : x = y := by
  simpa [boolD] using h
theorem rowD_inj (x y : List Nat) (h : rowD x = rowD y) : x = y := by
  simp only [rowD, List.cons.injEq, D.sl.injEq, true_and, and_true] at h
  exact map_inj' natD_inj x y h
theorem lowD_inj (x y : List Bool) (h : lowD x = lowD y) : x = y := by
  simp only [lowD, List.cons.injEq, D.sl.injEq, true_and, and_true] at h
  exact map_inj' boolD_inj x y h
theorem cells_inj : ∀ x y : Lat, x.cells = y.cells → x = y
  | .ch n, .ch m, h => by
    simp only [Lat.cells, List.cons.injEq, D.int.injEq, true_and, and_true] at h
    rw [Int.natCast_inj.1 h]
  | .ch _, .fn _ _ _ _, h => by simp [Lat.cells] at h
  | .fn _ _ _ _, .ch _, h => by simp [Lat.cells] at h
  | .fn a b r l, .fn a' b' r' l', h => by
    simp only [Lat.cells, List.cons.injEq, D.ptr.injEq, D.sl.injEq, true_and, and_true] at h
    obtain ⟨_, h1, h2, h3, h4⟩ := h
    rw [cells_inj a a' h1, cells_inj b b' h2, map_inj' rowD_inj _ _ h3, map_inj' lowD_inj _ _ h4]

noncomputable def z41 : Sp where
  α := Lat × Nat × Nat
  f := 41
  ok := fun (o, x, y) => o.wf ∧ x < o.sz ∧ y < o.sz
  args := fun (o, x, y) => [pD o, iN x, iN y]
  res := fun (o, x, y) => (.bool (o.le x y), [])
  inj := by
    rintro ⟨o, x, y⟩ ⟨o', x', y'⟩ _ _ h
    simp only [pD, iN, List.cons.injEq, V.d.injEq, D.ptr.injEq, D.int.injEq, true_and, and_true, Int.natCast_inj] at h
    obtain ⟨h1, rfl, rfl⟩ := h
    obtain rfl := cells_inj _ _ h1
    rfl
noncomputable def z40 : Sp where
  α := List Nat
  f := 40
  ok := fun r => r.length ≤ 1000
  args := fun r => [rowV r]
  res := fun r => if r = [] then (.fs true 1 [], []) else (.bsl 0 0 r.length, [.dat true 1 (r.map natD)])
  inj := by
    intro r r' _ _ h
    simp only [rowV, List.cons.injEq, V.d.injEq, D.sl.injEq, true_and, and_true] at h
    rw [map_inj' natD_inj r r' h]
noncomputable def z33 : Sp where
  α := D × Lat × Lat × List (List Nat) × D × Nat × Nat
  f := 33
  ok := fun (_, a, b, rows, _, x, y) => b.wf ∧ a.sz ≤ 1000 ∧ rowsOk a b rows ∧ x < rows.length ∧ y < rows.length
  args := fun (s, a, b, rows, l, x, y) => [.d false (halfD s a b rows l), iN x, iN y]
  res := fun (_, a, b, rows, _, x, y) => (.bool (ptw a b (nth rows (x : Int)) (nth rows (y : Int))), [])
  inj := by
    rintro ⟨s, a, b, rows, l, x, y⟩ ⟨s', a', b', rows', l', x', y'⟩ _ _ h
    simp only [halfD, iN, List.cons.injEq, V.d.injEq, D.ptr.injEq, D.int.injEq, D.sl.injEq, true_and, and_true, Int.natCast_inj] at h
    obtain ⟨⟨rfl, h1, h2, h3, rfl⟩, rfl, rfl⟩ := h
    obtain rfl := cells_inj _ _ h1
    obtain rfl := cells_inj _ _ h2
    obtain rfl := map_inj' rowD_inj _ _ h3
    rfl
noncomputable def y32 (a b : Lat) (k : Nat) : Se where
  α := List Nat × V × List (List Nat)
  f := 32
  ok := fun (row, rv, found) => RowV rv row ∧ row.length + k = a.sz ∧ (∀ u ∈ row, u < b.sz) ∧ found.length ≤ 40
  args := fun (_, rv, _) => [.ptr 0 0 0, rv]
  blks := fun (_, _, found) => [box5 a b found.length, resB found]
  res := fun (row, _, found) => (.bool (fillM a b k row found).1, [box5 a b (fillM a b k row found).2.length, resB (fillM a b k row found).2], mvB (chg found (fillM a b k row found).2))
  inj := by
    rintro ⟨row, rv, found⟩ ⟨row', rv', found'⟩ ⟨h1, _⟩ ⟨h2, _⟩ h h'
    simp only [List.cons.injEq, true_and, and_true] at h
    subst h
    simp only [resB, List.cons.injEq, Blk.dat.injEq, true_and, and_true] at h'
    obtain rfl := map_inj' rowD_inj _ _ h'.2
    have : row = row' := by
      rcases h1 with rfl | ⟨rfl, rfl⟩
      · rcases h2 with h | ⟨rfl, h⟩
        · simp only [rowV, V.d.injEq, D.sl.injEq, true_and] at h
          exact map_inj' natD_inj _ _ h
        · simp [rowV] at h
      · rcases h2 with h | ⟨rfl, _⟩
        · simp [rowV] at h
        · rfl
    subst this
    rfl

theorem ev_clone40 (K : Cx) (r : List Nat) (h0 : 0 < r.length) (h1 : r.length ≤ 1000) : runFun K f40 [rowV r] [] = some (.bsl 0 0 r.length, [.dat true 1 (r.map natD)], []) := by
  have hne : r.map natD ≠ [] := by
    intro h
    have := congrArg List.length h
    simp at this
    subst this
    simp at h0
  have hni : (V.d false (.sl 1 (r.map natD))).isNilS = some false := by
    cases r with
    | nil => simp at h0
    | cons x r => rfl
  have hfl : flatRows (r.map natD) = true := flatRows_map r natD (fun x => rfl)
  unfold f40
  simp only [rowV]
  simp (disch := first | decide | omega | (simp only [LN]; omega) | (simp only [LN]; done) | fail) only [runFun_eq, List.length_nil, startS, List.zipIdx_cons, Nat.zero_add, List.zipIdx_nil, List.map_cons, List.map_nil, indexed, exec_seq, exec_reg, evSegs_cons, evSeg_eq, evMks_nil, o1_some, segL_eq, wonB_nil, evChk_cons, e_nilsl, Option.isSome_some, evChk_nil, Bool.and_self, evLets_nil, segW_none, restrict_cons, look_cons, beq_self_eq_true, lookB_true, resC_some, restrict_nil, List.nil_append, addBlks, segs_nil, nrm_some, thn_nrm, evLets_cons, e_eqs, e_sl, o2_some, evEqs, Bool.false_eq_true, cellsEq, cellEq, hni, Bool.and_true, Bool.not_false, if_false, letC_eq, List.cons_append, exec_cond, brn_false, exec_skip, evMks_cons, evMk_lits, e_nil, mkLits_tup, V.laid, V.cell, V.cells, List.all_nil, nlt_T, decide_true, mkBlk, mapO_nil, if_true, mksA_eq, put_cons, Nat.reduceBEq, putB_false, put_nil, List.length_cons, mksB_eq, List.append_nil, segW_some, evWr_app, lookB_false, rows_d, hfl, Bool.or_true, wrApp_bsl, apA_dat, Blk.app, putB_true, Rows.n, List.length_map, segO_some, lose, forgetR, V.forget, V.drop1, beq_iff_eq, V.ref0, loseH, forgetH, Blk.forget, Lost.ids, segs_cons, exec_tidy, tidyS_a, tidyA_eq, range0, refsL, V.refs, reachB_cons, List.contains_nil, reachC_false, refsO_some, Blk.refs, reachB_nil, tidyB_eq, List.nodup_cons, List.not_mem_nil, not_false_eq_true, List.nodup_nil, and_self, List.take_zero, List.all_cons, V.within, List.contains_cons, Bool.or_false, closedB, Blk.within, List.idxOf_cons, V.ren, cond_true, Blk.ren, List.filterMap_cons, Option.map_some, List.filterMap_nil, List.filter_nil, exec_ret, endF_ret, mapO_cons, mapC_eq, oneOr, finish, finV, finA, finC, hNew, restH, List.filter_cons, Bool.not_true, V.newR, V.new1, D.flat, viewDepth, viewD, look_nil, Option.map_none, finB]
theorem hasE_nil {s : Se} {L' : List Se} : HasE (s :: L') s := hasE_head s L'
theorem k41_of {G L E} (h : Has L z41) : K41 (cx G L E) := fun o x y h1 h2 h3 => h (o, x, y) ⟨h1, h2, h3⟩
theorem k40_of {G L E} (h : Has L z40) : K40 (cx G L E) := ⟨fun r h1 h2 => by
    have := h r h2
    have hne : r ≠ [] := by rintro rfl; simp at h1
    simp only [z40, if_neg hne] at this
    exact this, by
    have := h [] (by simp [z40])
    simp only [z40, if_true] at this
    exact this⟩
theorem e32_of {G L E a b k} (h : HasE E (y32 a b k)) : E32 (cx G L E) a b k := fun row rv found h1 h2 h3 h4 => h (row, rv, found) ⟨h1, h2, h3, h4⟩

theorem mixedD : Tryd.prog.follows .mixedOrders = true := by kernel_rfl
theorem known1 (G : Nat → Option (List D)) : Known Tryd.prog G [z40, z41] [] := by
  refine Known.put (Known.add (s := z41) Known.nil mixedD (g := f41) (fun a _ => f41_ok) fun ⟨o, x, y⟩ ⟨h1, h2, h3⟩ => ⟨_, ev_below _ o x y h1 h2 h3⟩) ?_
  intro r hr
  refine ⟨by kernel_rfl, ?_⟩
  simp only [z40]
  split
  · rename_i h
    subst h
    exact pure_clone40
  · rename_i h
    exact (pure_sound mixedD (Known.nil (G := G)).sound f40_ok (ev_clone40 _ r (List.length_pos_iff.2 h) hr)).2
theorem h40' : Has [z40, z41] z40 := has_head _ _
theorem h41' : Has [z40, z41] z41 := has_tail (has_head _ _) (by decide)
theorem z33h (G : Nat → Option (List D)) : z33.Holds Tryd.prog G :=
  holds_of mixedD (known1 G).sound (g := f33) (fun a _ => f33_ok) fun ⟨s, a, b, rows, l, x, y⟩ ⟨h1, h2, h3, h4, h5⟩ => ⟨_, ev_pointwise _ (k41_of h41') s a b rows l x y h1 h2 h3 h4 h5⟩
theorem y32h (G : Nat → Option (List D)) (a b : Lat) (ha : a.wf) (hb : b.wf) (ha2 : a.sz ≤ 1000) (hb2 : b.sz ≤ 1000) (h0 : 0 < a.sz) : ∀ k, (y32 a b k).Holds Tryd.prog G
  | 0 => holdsE_of mixedD (known1 G).sound (g := f32) (fun x _ => f32_ok) fun ⟨row, rv, found⟩ ⟨h1, h2, h3, h4⟩ => ev_fill0 _ (k40_of h40') a b row rv h1 (by omega) (by omega) ha2 found h4
  | k + 1 => holdsE_of mixedD ((known1 G).putE (y32h G a b ha hb ha2 hb2 h0 k)).sound (g := f32) (fun x _ => f32_ok) fun ⟨row, rv, found⟩ ⟨h1, h2, h3, h4⟩ => ev_fillS _ (k41_of h41') (k40_of h40') a b ha hb ha2 hb2 k (e32_of hasE_nil) row rv h1 (by omega) h3 found h4
end Go.Vm
end

section
namespace Go.Vm
set_option maxRecDepth 20000

def oV : Option Lat → V
  | some l => pD l
  | none => .d false .nilp
def keptE (l : List (List UInt8 × Option Lat)) : List (D × V) := l.map fun q => (.str q.1, oV q.2)
theorem oV_refs (o : Option Lat) : (oV o).refs = [] := by cases o <;> rfl
theorem kept_refs (l : List (List UInt8 × Option Lat)) : (keptE l).flatMap (fun q => q.2.refs) = [] := by
  induction l with
  | nil => rfl
  | cons q l ih =>
    simp only [keptE, List.map_cons, List.flatMap_cons, oV_refs, List.nil_append]
    exact ih
theorem kept_within (l : List (List UInt8 × Option Lat)) (p : Nat → Bool) : (keptE l).all (fun q => q.2.within p) = true := by
  simp only [keptE, List.all_map, List.all_eq_true]
  intro q _
  cases h : q.2 <;> simp [h, oV, pD, V.within]
theorem kept_ren (l : List (List UInt8 × Option Lat)) (g : Nat → Nat) : (keptE l).map (fun q => (q.1, q.2.ren g)) = keptE l := by
  simp only [keptE, List.map_map]
  refine List.map_congr_left fun q _ => ?_
  cases h : q.2 <;> simp [h, oV, pD, V.ren]
theorem kept_dim (l : List (List UInt8 × Option Lat)) : (keptE l).map (fun q => (q.1, q.2.dim)) = keptE l := by
  simp only [keptE, List.map_map]
  refine List.map_congr_left fun q _ => ?_
  cases h : q.2 <;> simp [h, oV, pD, V.dim]

theorem kept_forget (l : List (List UInt8 × Option Lat)) (p : Nat → Bool) : Blk.forget p (.map (keptE l)) = .map (keptE l) := by
  simp only [Blk.forget, keptE, List.map_map]
  congr 1
  refine List.map_congr_left fun q _ => ?_
  cases h : q.2 <;> simp [h, oV, pD, V.forget, V.drop1]
theorem forget_dat (p c k rows) : Blk.forget p (.dat c k rows) = .dat c k rows := rfl
theorem forget_mix (p k rows) : Blk.forget p (.mix k rows) = .mix k (rows.map (·.map (V.drop1 p))) := rfl

def rowR (p : Nat → Bool) : Nat → Nat → List Bool → List Bool
  | 0, _, l => l
  | m + 1, j, l => rowR p m (j + 1) (l.set j (p j))
theorem rowR_len (p) : ∀ m j l, (rowR p m j l).length = l.length
  | 0, _, _ => rfl
  | m + 1, j, l => by rw [rowR, rowR_len p m]; simp
def lowC (b : Nat) : List (List Bool) → V
  | [] => .fs false 1 []
  | x :: l => .bsl b 0 (l.length + 1)
def lowH (b : Nat) : List (List Bool) → List (Nat × Blk)
  | [] => []
  | x :: l => [(b, .dat true 1 ((x :: l).map lowD))]
def lowN : List (List Bool) → Nat
  | [] => 0
  | _ :: _ => 1
def fnH (a b : Lat) (f : List (List Nat)) (es : List (List UInt8 × Option Lat)) (low : List (List Bool)) : List (Nat × Blk) :=
  [(0, .mix 1 [[.map 1]]), (1, .map (keptE es)), (2, .mix 5 [[iN f.length, pD a, pD b, .bsl 3 0 f.length, lowC 4 low]]), (3, resB f)] ++ lowH 4 low
def fnI (a b : Lat) (f : List (List Nat)) (es : List (List UInt8 × Option Lat)) (low : List (List Bool)) (l : List Bool) : List (Nat × Blk) :=
  [(0, .mix 1 [[.map 1]]), (1, .map (keptE es)), (2, .mix 5 [[iN f.length, pD a, pD b, .bsl 4 0 f.length, lowC 5 low]]), (3, .dat true 1 (l.map boolD)), (4, resB f)] ++ lowH 5 low

theorem set_bool (c : Bool) (l : List Bool) (j : Nat) (v : Bool) (hj : j < l.length) : (Blk.dat c 1 (l.map boolD)).set j 0 [.d false (.bool v)] = some (.dat c 1 ((l.set j v).map boolD)) := by
  rw [set_datm (hi := hj)]
  simp [boolD, mapO, asD, setD, splice, V.new1, D.flat, List.map_set]

theorem in_loop (K : Cx) (h33 : K33 K) (a b : Lat) (hb : b.wf) (ha : a.sz ≤ 1000) (f : List (List Nat)) (hf : rowsOk a b f) (hn : f.length ≤ 1000) (es : List (List UInt8 × Option Lat)) (low : List (List Bool)) (x : Nat) (hx : x < f.length) : ∀ (m j : Nat) (l : List Bool), j + m = f.length → l.length = f.length →
    lp K 2 [7, 8, 9, 47, 48, 59, 60] f18_L0 ⟨[(7, .ptr 2 0 0), (8, iN x), (9, .bsl 3 0 f.length), (47, iN f.length), (48, iN x), (59, iN f.length), (60, iN j)], fnI a b f es low l, 5 + lowN low, []⟩ =
      some (.exit 2, ⟨[(7, .ptr 2 0 0), (9, .bsl 3 0 f.length), (47, iN f.length), (48, iN x)], fnI a b f es low (rowR (fun y => ptw a b (nth f (x : Int)) (nth f (y : Int))) m j l), 5 + lowN low, []⟩) := by
  intro m
  induction m with
  | zero =>
    intro j l hj hl
    obtain rfl : j = f.length := by omega
    simp only [rowR]
    rw [lp_un f18_L0.eq_1]
    clear hf
    cases low with
    | nil =>
      simp only [fnI, lowH, lowC, lowN, iN, pD, resB, List.append_nil, List.cons_append, List.nil_append]
      simp (disch := first | decide | omega | (simp only [LN]; omega) | (simp only [LN]; done) | fail) only [Nat.add_zero, exec_seq, exec_reg, evSegs_cons, evSeg_eq, evMks_nil, o1_some, segL_eq, wonB_nil, evChk_nil, evLets_cons, e_bin, e_sl, look_cons, Nat.reduceBEq, lookB_false, beq_self_eq_true, lookB_true, o2_some, evBin, intBin, ilt_F, decide_false, if_true, evLets_nil, letC_eq, segW_none, restrict_cons, resC_some, restrict_nil, List.cons_append, List.nil_append, addBlks, segs_nil, nrm_some, thn_nrm, exec_cond, brn_false, exec_tidy, tidyS_a, tidyA_eq, range2, List.map_cons, List.map_nil, refsL, V.refs, List.append_nil, reachB_cons, List.contains_nil, reachC_false, refsO_some, Blk.refs, List.flatMap_cons, List.flatMap_nil, List.contains_cons, Bool.or_self, kept_refs, Bool.or_false, Bool.or_true, reachC_true, reachB_nil, tidyB_eq, List.nodup_cons, List.mem_cons, reduceCtorEq, List.not_mem_nil, or_self, not_false_eq_true, Nat.reduceEqDiff, List.nodup_nil, and_self, decide_true, List.take_succ_cons, List.take_zero, Bool.and_self, List.all_cons, V.within, List.all_nil, closedB, Blk.within, withinL, kept_within, List.idxOf_cons, V.ren, cond_false, cond_true, Nat.zero_add, Nat.reduceAdd, Blk.ren, List.zipIdx_cons, List.zipIdx_nil, List.filterMap_cons, Option.map_some, renL, kept_ren, List.filterMap_nil, List.length_cons, List.length_nil, List.filter_cons, Bool.false_eq_true, List.filter_nil, if_false, exec_exit, thn_exit, lpT_exit]
    | cons y low =>
      simp only [fnI, lowH, lowC, lowN, iN, pD, resB, List.append_nil, List.cons_append, List.nil_append]
      simp (disch := first | decide | omega | (simp only [LN]; omega) | (simp only [LN]; done) | fail) only [List.map_cons, Nat.reduceAdd, exec_seq, exec_reg, evSegs_cons, evSeg_eq, evMks_nil, o1_some, segL_eq, wonB_nil, evChk_nil, evLets_cons, e_bin, e_sl, look_cons, Nat.reduceBEq, lookB_false, beq_self_eq_true, lookB_true, o2_some, evBin, intBin, ilt_F, decide_false, if_true, evLets_nil, letC_eq, segW_none, restrict_cons, resC_some, restrict_nil, List.cons_append, List.nil_append, addBlks, segs_nil, nrm_some, thn_nrm, exec_cond, brn_false, exec_tidy, tidyS_a, tidyA_eq, range2, List.map_nil, refsL, V.refs, List.append_nil, reachB_cons, List.contains_nil, reachC_false, refsO_some, Blk.refs, List.flatMap_cons, List.flatMap_nil, List.contains_cons, Bool.or_self, kept_refs, Bool.or_false, Bool.or_true, reachC_true, reachB_nil, tidyB_eq, List.nodup_cons, List.mem_cons, reduceCtorEq, List.not_mem_nil, or_self, not_false_eq_true, Nat.reduceEqDiff, List.nodup_nil, and_self, decide_true, List.take_succ_cons, List.take_zero, Bool.and_self, List.all_cons, V.within, List.all_nil, closedB, Blk.within, withinL, kept_within, List.idxOf_cons, V.ren, cond_false, cond_true, Nat.zero_add, Blk.ren, List.zipIdx_cons, List.zipIdx_nil, List.filterMap_cons, Option.map_some, renL, kept_ren, List.filterMap_nil, List.length_cons, List.length_nil, List.filter_cons, Bool.false_eq_true, List.filter_nil, if_false, exec_exit, thn_exit, lpT_exit]
  | succ m ih =>
    intro j l hj hl
    have ih := ih (j + 1) (l.set j (ptw a b (nth f (x : Int)) (nth f (j : Int)))) (by omega) (by simpa using hl)
    have hset := fun c => set_bool c l j (ptw a b (nth f (x : Int)) (nth f (j : Int))) (by omega)
    simp only [rowR]
    rw [← ih]
    clear ih
    rw [lp_un f18_L0.eq_1]
    cases low with
    | nil =>
      have w := h33 (.int .i64 f.length) a b f (.sl 1 []) x j hb ha hf hx (by omega)
      clear hf
      simp only [halfD, iN] at w
      simp only [fnI, lowH, lowC, lowN, iN, pD, resB, List.append_nil, List.cons_append, List.nil_append]
      generalize ptw a b (nth f (x : Int)) (nth f (j : Int)) = q at *
      simp (disch := first | decide | omega | (simp only [LN]; omega) | (simp only [LN]; done) | fail) only [Nat.add_zero, exec_seq, exec_reg, evSegs_cons, evSeg_eq, evMks_nil, o1_some, segL_eq, wonB_nil, evChk_nil, evLets_cons, e_bin, e_sl, look_cons, Nat.reduceBEq, lookB_false, beq_self_eq_true, lookB_true, o2_some, evBin, intBin, ilt_T, decide_true, if_true, evLets_nil, letC_eq, segW_none, restrict_cons, resC_some, restrict_nil, List.cons_append, List.nil_append, addBlks, segs_nil, nrm_some, thn_nrm, exec_cond, brn_true, exec_skip, exec_block, segW_some, evWr_store, e_ia, evIa_bsl, iaB_dat, Int.toNat_natCast, Nat.zero_add, e_call, e_cons, e_nil, consV_tup, callV_tup, evCall_eq, List.any_cons, V.own, V.own1, List.any_nil, Bool.or_self, Bool.or_false, passes_eq, List.all_cons, V.new, V.new1, D.flat, Bool.or_true, List.all_nil, Bool.and_self, Bool.and_true, V.flatV, V.flat1, Bool.not_false, Bool.false_and, mapO_cons, view, viewDepth, viewD, row_mix, List.getElem?_cons_zero, List.drop_zero, List.length_map, Nat.le_refl, take_all, mapO_nil, mapC_eq, Option.map_some, callA_eq, w, callR_some, Bool.not_true, Bool.and_false, Bool.false_eq_true, if_false, wrStore_ptr, V.laid, V.cell, V.cells, List.length_cons, List.length_nil, stA_eq, hset, stB_some, put_cons, putB_false, putB_true, segO_none, lose, loseH, Lost.ids, List.append_nil, blk_nrm, e_int, cast1, wrap64, lpT_nrm, tidyS_a, tidyA_eq, range2, List.map_cons, List.map_nil, refsL, V.refs, reachB_cons, List.contains_nil, reachC_false, refsO_some, Blk.refs, List.flatMap_cons, List.flatMap_nil, List.contains_cons, kept_refs, reachC_true, reachB_nil, tidyB_eq, List.nodup_cons, List.mem_cons, reduceCtorEq, List.not_mem_nil, or_self, not_false_eq_true, Nat.reduceEqDiff, List.nodup_nil, and_self, List.take_succ_cons, List.take_zero, V.within, closedB, Blk.within, withinL, kept_within, List.idxOf_cons, V.ren, cond_false, cond_true, Nat.reduceAdd, Blk.ren, List.zipIdx_cons, List.zipIdx_nil, List.filterMap_cons, renL, kept_ren, List.filterMap_nil, List.filter_cons, List.filter_nil]
    | cons y low =>
      have w := h33 (.int .i64 f.length) a b f (.sl 1 ((y :: low).map lowD)) x j hb ha hf hx (by omega)
      clear hf
      simp only [halfD, iN, List.map_cons] at w
      simp only [fnI, lowH, lowC, lowN, iN, pD, resB, List.append_nil, List.cons_append, List.nil_append]
      generalize ptw a b (nth f (x : Int)) (nth f (j : Int)) = q at *
      simp (disch := first | decide | omega | (simp only [LN]; omega) | (simp only [LN]; done) | fail) only [List.map_cons, Nat.reduceAdd, exec_seq, exec_reg, evSegs_cons, evSeg_eq, evMks_nil, o1_some, segL_eq, wonB_nil, evChk_nil, evLets_cons, e_bin, e_sl, look_cons, Nat.reduceBEq, lookB_false, beq_self_eq_true, lookB_true, o2_some, evBin, intBin, ilt_T, decide_true, if_true, evLets_nil, letC_eq, segW_none, restrict_cons, resC_some, restrict_nil, List.cons_append, List.nil_append, addBlks, segs_nil, nrm_some, thn_nrm, exec_cond, brn_true, exec_skip, exec_block, segW_some, evWr_store, e_ia, evIa_bsl, iaB_dat, Int.toNat_natCast, Nat.zero_add, e_call, e_cons, e_nil, consV_tup, callV_tup, evCall_eq, List.any_cons, V.own, V.own1, List.any_nil, Bool.or_self, Bool.or_false, passes_eq, List.all_cons, V.new, V.new1, D.flat, Bool.or_true, List.all_nil, Bool.and_self, Bool.and_true, V.flatV, V.flat1, Bool.not_false, Bool.false_and, mapO_cons, view, viewDepth, viewD, row_mix, List.getElem?_cons_zero, List.drop_zero, List.length_map, Nat.le_refl, take_all, List.length_cons, mapO_nil, mapC_eq, Option.map_some, callA_eq, w, callR_some, Bool.not_true, Bool.and_false, Bool.false_eq_true, if_false, wrStore_ptr, V.laid, V.cell, V.cells, List.length_nil, stA_eq, hset, stB_some, put_cons, putB_false, putB_true, segO_none, lose, loseH, Lost.ids, List.append_nil, blk_nrm, e_int, cast1, wrap64, lpT_nrm, tidyS_a, tidyA_eq, range2, List.map_nil, refsL, V.refs, reachB_cons, List.contains_nil, reachC_false, refsO_some, Blk.refs, List.flatMap_cons, List.flatMap_nil, List.contains_cons, kept_refs, reachC_true, reachB_nil, tidyB_eq, List.nodup_cons, List.mem_cons, reduceCtorEq, List.not_mem_nil, or_self, not_false_eq_true, Nat.reduceEqDiff, List.nodup_nil, and_self, List.take_succ_cons, List.take_zero, V.within, closedB, Blk.within, withinL, kept_within, List.idxOf_cons, V.ren, cond_false, cond_true, Blk.ren, List.zipIdx_cons, List.zipIdx_nil, List.filterMap_cons, renL, kept_ren, List.filterMap_nil, List.filter_cons, List.filter_nil]
def rowOf (a b : Lat) (f : List (List Nat)) (x : Nat) : List Bool := rowR (fun y => ptw a b (nth f (x : Int)) (nth f (y : Int))) f.length 0 (List.replicate f.length false)
def lowR (a b : Lat) (f : List (List Nat)) : Nat → Nat → List (List Bool) → List (List Bool)
  | 0, _, low => low
  | m + 1, k, low => lowR a b f m (k + 1) (low ++ [rowOf a b f k])
theorem rowOf_len (a b f x) : (rowOf a b f x).length = f.length := by rw [rowOf, rowR_len]; simp

set_option maxHeartbeats 2000000 in
theorem out_loop (K : Cx) (h33 : K33 K) (a b : Lat) (hb : b.wf) (ha : a.sz ≤ 1000) (f : List (List Nat)) (hf : rowsOk a b f) (hn : f.length ≤ 1000) (es : List (List UInt8 × Option Lat)) : ∀ (m k : Nat) (low : List (List Bool)), k + m = f.length → low.length = k →
    lp K 2 [7, 47, 48] f18_L1 ⟨[(7, .ptr 2 0 0), (47, iN f.length), (48, iN k)], fnH a b f es low, 4 + lowN low, []⟩ =
      some (.exit 0, ⟨[(7, .ptr 2 0 0)], fnH a b f es (lowR a b f m k low), 4 + lowN (lowR a b f m k low), []⟩) := by
  intro m
  induction m with
  | zero =>
    intro k low hk hl
    obtain rfl : k = f.length := by omega
    simp only [lowR]
    rw [lp_un f18_L1.eq_1]
    clear hf
    cases low with
    | nil =>
      simp only [fnH, lowH, lowC, lowN, iN, pD, resB, List.append_nil, List.cons_append, List.nil_append]
      simp (disch := first | decide | omega | (simp only [LN]; omega) | (simp only [LN]; done) | fail) only [Nat.add_zero, exec_seq, exec_reg, evSegs_cons, evSeg_eq, evMks_nil, o1_some, segL_eq, wonB_nil, evChk_nil, evLets_cons, e_bin, e_sl, look_cons, Nat.reduceBEq, lookB_false, beq_self_eq_true, lookB_true, o2_some, evBin, intBin, ilt_F, decide_false, if_true, evLets_nil, letC_eq, segW_none, restrict_cons, resC_some, restrict_nil, List.cons_append, List.nil_append, addBlks, segs_nil, nrm_some, thn_nrm, exec_cond, brn_false, exec_tidy, tidyS_a, tidyA_eq, range2, List.map_cons, List.map_nil, refsL, V.refs, List.append_nil, reachB_cons, List.contains_nil, reachC_false, refsO_some, Blk.refs, List.flatMap_cons, List.flatMap_nil, List.contains_cons, Bool.or_self, kept_refs, Bool.or_false, Bool.or_true, reachC_true, reachB_nil, tidyB_eq, List.nodup_cons, List.mem_cons, reduceCtorEq, List.not_mem_nil, or_self, not_false_eq_true, Nat.reduceEqDiff, List.nodup_nil, and_self, decide_true, List.take_succ_cons, List.take_zero, Bool.and_self, List.all_cons, V.within, List.all_nil, closedB, Blk.within, withinL, kept_within, List.idxOf_cons, V.ren, cond_false, cond_true, Nat.zero_add, Nat.reduceAdd, Blk.ren, List.zipIdx_cons, List.zipIdx_nil, List.filterMap_cons, Option.map_some, renL, kept_ren, List.filterMap_nil, List.length_cons, List.length_nil, List.filter_cons, Bool.false_eq_true, List.filter_nil, if_false, exec_exit, thn_exit, lpT_exit]
    | cons y low =>
      simp only [fnH, lowH, lowC, lowN, iN, pD, resB, List.append_nil, List.cons_append, List.nil_append]
      simp (disch := first | decide | omega | (simp only [LN]; omega) | (simp only [LN]; done) | fail) only [List.map_cons, Nat.reduceAdd, exec_seq, exec_reg, evSegs_cons, evSeg_eq, evMks_nil, o1_some, segL_eq, wonB_nil, evChk_nil, evLets_cons, e_bin, e_sl, look_cons, Nat.reduceBEq, lookB_false, beq_self_eq_true, lookB_true, o2_some, evBin, intBin, ilt_F, decide_false, if_true, evLets_nil, letC_eq, segW_none, restrict_cons, resC_some, restrict_nil, List.cons_append, List.nil_append, addBlks, segs_nil, nrm_some, thn_nrm, exec_cond, brn_false, exec_tidy, tidyS_a, tidyA_eq, range2, List.map_nil, refsL, V.refs, List.append_nil, reachB_cons, List.contains_nil, reachC_false, refsO_some, Blk.refs, List.flatMap_cons, List.flatMap_nil, List.contains_cons, Bool.or_self, kept_refs, Bool.or_false, Bool.or_true, reachC_true, reachB_nil, tidyB_eq, List.nodup_cons, List.mem_cons, reduceCtorEq, List.not_mem_nil, or_self, not_false_eq_true, Nat.reduceEqDiff, List.nodup_nil, and_self, decide_true, List.take_succ_cons, List.take_zero, Bool.and_self, List.all_cons, V.within, List.all_nil, closedB, Blk.within, withinL, kept_within, List.idxOf_cons, V.ren, cond_false, cond_true, Nat.zero_add, Blk.ren, List.zipIdx_cons, List.zipIdx_nil, List.filterMap_cons, Option.map_some, renL, kept_ren, List.filterMap_nil, List.length_cons, List.length_nil, List.filter_cons, Bool.false_eq_true, List.filter_nil, if_false, exec_exit, thn_exit, lpT_exit]
  | succ m ih =>
    intro k low hk hl
    have ih := ih (k + 1) (low ++ [rowOf a b f k]) (by omega) (by simp [hl])
    have wl := in_loop K h33 a b hb ha f hf hn es low k (by omega) f.length 0 (List.replicate f.length false) (by omega) (by simp)
    have hR := rowOf_len a b f k
    change lp K 2 _ _ _ = some (.exit 2, ⟨_, fnI a b f es low (rowOf a b f k), _, _⟩) at wl
    simp only [lowR]
    rw [← ih]
    clear ih hf
    generalize rowOf a b f k = R at *
    rw [lp_un f18_L1.eq_1]
    cases low with
    | nil =>
      simp only [fnI, fnH, lowH, lowC, lowN, iN, pD, resB, List.append_nil, List.cons_append, List.nil_append, List.map_replicate, boolD, List.length_nil, Int.natCast_zero, Int.ofNat_zero] at wl ⊢
      simp (disch := first | decide | omega | (simp only [LN]; omega) | (simp only [LN]; done) | fail) only [Nat.add_zero, exec_seq, exec_reg, evSegs_cons, evSeg_eq, evMks_nil, o1_some, segL_eq, wonB_nil, evChk_nil, evLets_cons, e_bin, e_sl, look_cons, Nat.reduceBEq, lookB_false, beq_self_eq_true, lookB_true, o2_some, evBin, intBin, ilt_T, decide_true, if_true, evLets_nil, letC_eq, segW_none, restrict_cons, resC_some, restrict_nil, List.cons_append, List.nil_append, addBlks, segs_nil, nrm_some, thn_nrm, exec_cond, brn_true, exec_skip, exec_block, evMks_cons, evMk_mks, e_cons, e_bool, e_nil, consV_tup, e_ld, e_fa, evFa, evLd_ptr, ldB_eq, row_mix, List.getElem?_cons_zero, ldR_eq, List.drop_zero, part_one, o3_some, mkMks, mapO_cons, asD, mapO_nil, mapC_eq, ile_T, most_eq, List.length_cons, List.length_nil, Nat.zero_add, nlt_T, List.all_cons, D.flat, List.all_nil, Bool.and_self, and_self, Int.toNat_natCast, mksA_eq, put_cons, putB_false, put_nil, Nat.reduceAdd, mksB_eq, List.append_nil, e_int, exec_tidy, tidyS_a, tidyA_eq, range2, List.map_cons, List.map_nil, refsL, V.refs, reachB_cons, List.contains_nil, reachC_false, refsO_some, Blk.refs, List.flatMap_cons, List.flatMap_nil, List.contains_cons, Bool.or_self, kept_refs, Bool.or_false, Bool.or_true, reachC_true, reachB_nil, tidyB_eq, List.nodup_cons, List.mem_cons, reduceCtorEq, List.not_mem_nil, or_self, not_false_eq_true, Nat.reduceEqDiff, List.nodup_nil, List.take_succ_cons, List.take_zero, V.within, closedB, Blk.within, withinL, kept_within, List.idxOf_cons, V.ren, cond_false, cond_true, Blk.ren, List.zipIdx_cons, List.zipIdx_nil, List.filterMap_cons, Option.map_some, renL, kept_ren, List.filterMap_nil, List.filter_cons, Bool.false_eq_true, List.filter_nil, if_false, exec_loop, wl, blk_exit, exec_regg, evSegsG_cons, frzL_cons, frzV_eq, frzA_bsl, frzD_dat, forgetR, V.forget, V.drop1, beq_iff_eq, V.ref0, putB_true, forgetH, forget_mix, kept_forget, forget_dat, frzL_nil, evSegG_none, evMk_lits, mkLits_tup, V.laid, V.cell, V.cells, mkBlk, V.new1, segW_some, evWr_app, List.drop_succ_cons, rows_bsl, rwB_dat, Nat.le_refl, flatRows_cons, Bool.and_true, flatRows_nil, take_all, wrApp_fs, Rows.blk, Rows.n, segO_some, lose, loseH, Lost.ids, segsG_cons, evWr_store, wrStore_ptr, stA_eq, set_mix0, splice, stB_some, segO_none, segsG_nil, blk_nrm, cast1, wrap64, lpT_nrm, lowD]
    | cons y low =>
      simp only [fnI, fnH, lowH, lowC, lowN, iN, pD, resB, List.append_nil, List.cons_append, List.nil_append, List.map_replicate, boolD, List.length_nil, Int.natCast_zero, Int.ofNat_zero, List.map_cons, List.map_append, List.map_nil, List.length_append, List.length_cons, Nat.zero_add, lowD] at wl ⊢
      simp only [List.length_cons] at hl
      simp (disch := first | decide | omega | (simp only [LN]; omega) | (simp only [LN]; done) | fail) only [Nat.reduceAdd, exec_seq, exec_reg, evSegs_cons, evSeg_eq, evMks_nil, o1_some, segL_eq, wonB_nil, evChk_nil, evLets_cons, e_bin, e_sl, look_cons, Nat.reduceBEq, lookB_false, beq_self_eq_true, lookB_true, o2_some, evBin, intBin, ilt_T, decide_true, if_true, evLets_nil, letC_eq, segW_none, restrict_cons, resC_some, restrict_nil, List.cons_append, List.nil_append, addBlks, segs_nil, nrm_some, thn_nrm, exec_cond, brn_true, exec_skip, exec_block, evMks_cons, evMk_mks, e_cons, e_bool, e_nil, consV_tup, e_ld, e_fa, evFa, Nat.add_zero, evLd_ptr, ldB_eq, row_mix, List.getElem?_cons_zero, ldR_eq, List.drop_zero, part_one, o3_some, mkMks, mapO_cons, asD, mapO_nil, mapC_eq, ile_T, most_eq, List.length_cons, List.length_nil, Nat.zero_add, nlt_T, List.all_cons, D.flat, List.all_nil, Bool.and_self, and_self, Int.toNat_natCast, mksA_eq, put_cons, putB_false, put_nil, mksB_eq, List.append_nil, e_int, exec_tidy, tidyS_a, tidyA_eq, range2, List.map_cons, List.map_nil, refsL, V.refs, reachB_cons, List.contains_nil, reachC_false, refsO_some, Blk.refs, List.flatMap_cons, List.flatMap_nil, List.contains_cons, Bool.or_self, kept_refs, Bool.or_false, Bool.or_true, reachC_true, reachB_nil, tidyB_eq, List.nodup_cons, List.mem_cons, reduceCtorEq, List.not_mem_nil, or_self, not_false_eq_true, Nat.reduceEqDiff, List.nodup_nil, List.take_succ_cons, List.take_zero, V.within, closedB, Blk.within, withinL, kept_within, List.idxOf_cons, V.ren, cond_false, cond_true, Blk.ren, List.zipIdx_cons, List.zipIdx_nil, List.filterMap_cons, Option.map_some, renL, kept_ren, List.filterMap_nil, List.filter_cons, Bool.false_eq_true, List.filter_nil, if_false, exec_loop, wl, blk_exit, exec_regg, evSegsG_cons, frzL_cons, frzV_eq, frzA_bsl, frzD_dat, forgetR, V.forget, V.drop1, beq_iff_eq, V.ref0, putB_true, forgetH, forget_mix, kept_forget, forget_dat, frzL_nil, evSegG_none, evMk_lits, mkLits_tup, V.laid, V.cell, V.cells, mkBlk, V.new1, segW_some, evWr_app, List.drop_succ_cons, rows_bsl, rwB_dat, Nat.le_refl, flatRows_cons, Bool.and_true, flatRows_nil, take_all, wrApp_bsl, apA_dat, Blk.app, Rows.n, segO_some, lose, loseH, Lost.ids, segsG_cons, evWr_store, wrStore_ptr, stA_eq, set_mix0, splice, stB_some, segO_none, segsG_nil, blk_nrm, cast1, wrap64, lpT_nrm]
end Go.Vm
end

section
namespace Go.Vm
set_option maxRecDepth 20000

theorem frzV_ptr {m t : Nat} {s : S} {b k : Nat} {row : List V} {ds : List D} (h : look s.rho t = some (.ptr b 0 0)) (hb : look s.heap b = some (.mix k [row])) (hr : mapO asD row = some ds) (h1 : m ≤ b) (h2 : 0 < ds.length) :
    frzV m t s = ⟨put (forgetR (· == b) s.rho) t (.d (row.all V.new1) (.ptr ds)), put (forgetH (· == b) s.heap) b (.dat true k []), s.nx, s.mv⟩ := by
  unfold frzV
  rw [h]
  simp only
  rw [hb]
  simp only
  rw [hr]
  exact if_pos ⟨h1, h2⟩

mutual
theorem eqb_refl : ∀ x : D, x.eqb x = true
  | .int _ _ => by simp [D.eqb]
  | .bool _ => by simp [D.eqb]
  | .str _ => by simp [D.eqb]
  | .sl _ rows => by simp [D.eqb, dRows_refl rows]
  | .ptr cs => by simp [D.eqb, dRow_refl cs]
  | .nilp => rfl
  | .nilif => rfl
  | .nilfn => rfl
  | .nilm => rfl
  | .nils _ => by simp [D.eqb]
  | .emps _ => by simp [D.eqb]
  | .iface _ cs => by simp [D.eqb, dRow_refl cs]
theorem dRow_refl : ∀ x : List D, dRow x x = true
  | [] => rfl
  | a :: r => by simp [dRow, eqb_refl a, dRow_refl r]
theorem dRows_refl : ∀ x : List (List D), dRows x x = true
  | [] => rfl
  | a :: r => by simp [dRows, dRow_refl a, dRows_refl r]
end

theorem ia_two0 (H k c r0 r1) : evIa H k (.d c (.sl k [r0, r1])) (.int .i64 0) = some (.d c (.ptr r0)) := by simp [evIa]
theorem ia_two1 (H k c r0 r1) : evIa H k (.d c (.sl k [r0, r1])) (.int .i64 1) = some (.d c (.ptr r1)) := by simp [evIa]

def segB : Seg := ⟨[], [(20, (.ld 3 true (.ia 3 (.ld 1 false (.fa 2 (.sl 2))) (.int .i64 1)))), (21, (.sl 1))], [], some (some 16, .calle 11 (.cons (.ld 3 true (.ia 3 (.ld 1 false (.fa 2 (.sl 2))) (.int .i64 0))) (.cons (.sl 1) .nil))), [], 11, [[], [0], [0, 1], [1, 0, 2], [], [4, 2, 0, 1, 3], [], [6], [6, 7], [7, 6, 8], [], [3, 1, 0, 2, 4, 5, 10, 8, 6, 7, 9], [9, 7, 6, 8, 10, 11, 3, 1, 0, 2, 4, 5], [12, 9, 7, 6, 8, 10, 5, 4, 2, 0, 1, 3, 11]], [], [(.fa 2 (.sl 2)), (.ld 1 false (.fa 2 (.sl 2))), (.ia 3 (.ld 1 false (.fa 2 (.sl 2))) (.int .i64 1)), (.ld 3 true (.ia 3 (.ld 1 false (.fa 2 (.sl 2))) (.int .i64 1))), (.sl 1)]⟩
def regA : List (Pre × Seg) := [(⟨[2], none⟩, ⟨[], [(20, (.ld 3 true (.ia 3 (.ld 1 false (.fa 2 (.sl 2))) (.int .i64 1)))), (21, (.sl 1))], [], some (some 16, .calle 11 (.cons (.ld 3 true (.ia 3 (.ld 1 false (.fa 2 (.sl 2))) (.int .i64 0))) (.cons (.sl 1) .nil))), [], 11, [[], [0], [0, 1], [1, 0, 2], [], [4, 2, 0, 1, 3], [], [6], [6, 7], [7, 6, 8], [], [3, 1, 0, 2, 4, 5, 10, 8, 6, 7, 9], [9, 7, 6, 8, 10, 11, 3, 1, 0, 2, 4, 5], [12, 9, 7, 6, 8, 10, 5, 4, 2, 0, 1, 3, 11]], [], [(.fa 2 (.sl 2)), (.ld 1 false (.fa 2 (.sl 2))), (.ia 3 (.ld 1 false (.fa 2 (.sl 2))) (.int .i64 1)), (.ld 3 true (.ia 3 (.ld 1 false (.fa 2 (.sl 2))) (.int .i64 1))), (.sl 1)]⟩), (⟨[], none⟩, ⟨[], [], [], some (some 22, .calle 11 (.cons (.sl 20) (.cons (.sl 21) .nil))), [16], 1, [], [], []⟩), (⟨[], none⟩, ⟨[], [(5, (.sl 16)), (6, (.sl 22))], [], none, [], 2, [], [], []⟩)]

def tyV (k : Int) (n : List UInt8) (r : List (List D)) : V := .agg [.d false (.int .i64 k), .d false (.str n), .d false (.sl 3 r)]
def tyL (k : Int) (n : List UInt8) (r : List (List D)) : List D := [.int .i64 k, .str n, .sl 3 r]
def E11 (K : Cx) (k : Int) (n : List UInt8) (r : List (List D)) (es : List (List UInt8 × Option Lat)) (o : Option Lat) (es' : List (List UInt8 × Option Lat)) : Prop :=
  K.eff 11 [tyV k n r, .ptr 0 0 0] [.mix 1 [[.map 1]], .map (keptE es)] = some (oV o, [.mix 1 [[.map 1]], .map (keptE es')], [])

theorem segB_ev (K : Cx) (k0 k1 : Int) (n0 n1 : List UInt8) (r0 r1 : List (List D)) (nm : List UInt8) (es es1 : List (List UInt8 × Option Lat)) (o : Option Lat) (w : E11 K k0 n0 r0 es o es1) :
    evSeg K ⟨[(1, .ptr 0 0 0), (2, .d false (.ptr [.int .i64 3, .str nm, .sl 3 [tyL k0 n0 r0, tyL k1 n1 r1]]))], [(2, .dat true 3 []), (0, .mix 1 [[.map 1]]), (1, .map (keptE es))], 3, []⟩ segB = some ⟨[(16, oV o), (20, tyV k1 n1 r1), (21, .ptr 0 0 0)], [(2, .dat true 3 []), (0, .mix 1 [[.map 1]]), (1, .map (keptE es1))], 3, []⟩ := by
  have hd := kept_dim es
  have ho : ∀ g, (oV o).ren g = oV o := fun g => by cases o <;> rfl
  refine evSeg_lateC ?_ ?_
  · unfold segB
    rw [evSeg0_eq]
    simp only [E11, tyV, tyL] at w ⊢
    simp (disch := first | decide | omega | (simp only [LN]; omega) | (simp only [LN]; done) | fail) only [evMks_nil, o1_some, segL_eq, wonB_nil, evChk_nil, evLets_cons, e_ld, e_ia, e_fa, e_sl, look_cons, Nat.reduceBEq, lookB_false, beq_self_eq_true, lookB_true, evFa, List.drop_succ_cons, List.drop_zero, evLd_d, List.map_cons, mkd, D.flat, Bool.false_eq_true, if_false, List.map_nil, part_one, e_int, o2_some, ia_two1, if_true, part_true, List.length_cons, List.length_nil, Nat.zero_add, Nat.reduceAdd, Nat.le_refl, take_all, evLets_nil, letC_eq, segW_some, restrict_nil, List.append_nil, addBlks, evWr_calle, e_cons, ia_two0, e_nil, consV_tup, wrEff_tup, refsL, V.refs, List.nil_append, reachB_cons, List.contains_nil, reachC_false, refsO_some, Blk.refs, List.flatMap_cons, List.flatMap_nil, List.contains_cons, Bool.or_self, List.cons_append, kept_refs, reachB_nil, evEff_eq, List.nodup_cons, List.mem_cons, reduceCtorEq, List.not_mem_nil, or_self, not_false_eq_true, List.nodup_nil, and_self, decide_true, List.all_cons, V.within, withinL, Bool.and_self, Bool.or_false, List.all_nil, closedB, Blk.within, Bool.or_true, kept_within, handed, Blk.ren, Blk.dim, List.idxOf_cons, mapO_cons, Option.map_some, dimL, V.dim, renL, V.ren, cond_true, cond_false, hd, kept_ren, mapO_nil, mapC_eq, effA_eq, w, effR_eq, putAll, loseM, backB_eq, List.getElem?_cons_zero, Nat.reduceSub, Nat.add_zero, Option.getD_some, List.getElem?_cons_succ, put_cons, putB_false, putB_true, ho, segO_some, lose, loseH, Lost.ids]
  · unfold segB lateC
    simp only [E11, tyV, tyL] at w ⊢
    simp (disch := first | decide | omega | (simp only [LN]; omega) | (simp only [LN]; done) | fail) only [List.isEmpty_cons, evMks_nil, clean, cleanV, List.contains_nil, Bool.false_eq_true, if_false, List.map_cons, List.map_nil, lateH, e_cons, e_ld, e_ia, e_fa, e_sl, look_cons, Nat.reduceBEq, lookB_false, beq_self_eq_true, lookB_true, o1_some, evFa, List.drop_succ_cons, List.drop_zero, evLd_d, mkd, D.flat, part_one, e_int, o2_some, ia_two0, if_true, part_true, List.length_cons, List.length_nil, Nat.zero_add, Nat.reduceAdd, Nat.le_refl, take_all, e_nil, consV_tup, calleeOf, beq_iff_eq, addBlks, List.filter_cons, List.filter_nil, lateB, Bool.not_false, Bool.and_true, List.all_cons, ia_two1, Bool.and_self, List.all_nil, Bool.false_or]
    simp [V.eqb, V.eqb1, vRow, D.eqb, dRow, dRows, eqb_refl, dRow_refl, dRows_refl]
theorem kept_fin (z bs H) (l : List (List UInt8 × Option Lat)) : mapO (fun q : D × V => (finA z bs H q.2).map fun v => (q.1, v)) (keptE l) = some (keptE l) := by
  induction l with
  | nil => rfl
  | cons q l ih =>
    have h1 : finA z bs H (oV q.2) = some (oV q.2) := by cases q.2 <;> rfl
    simp only [keptE, List.map_cons, mapO, h1, Option.map_some] at ih ⊢
    rw [ih]
def owC (k : Nat) (s : S) (b k0 j : Nat) (row : List V) : Option V → S
  | some (.fs _ k' []) => if k' = k then ⟨s.rho, (s.nx, .dat true k []) :: put s.heap b (.mix k0 [row.set j (.bsl s.nx 0 0)]), s.nx + 1, s.mv⟩ else s
  | _ => s
theorem owC_fs (k s b k0 j row c) : owC k s b k0 j row (some (.fs c k [])) = ⟨s.rho, (s.nx, .dat true k []) :: put s.heap b (.mix k0 [row.set j (.bsl s.nx 0 0)]), s.nx + 1, s.mv⟩ := if_pos rfl
def owB (j k : Nat) (s : S) (b : Nat) : Option Blk → S
  | some (.mix k0 [row]) => owC k s b k0 j row (row[j]?)
  | _ => s
theorem owB_mix (j k s b k0 row) : owB j k s b (some (.mix k0 [row])) = owC k s b k0 j row (row[j]?) := rfl
def owA (j k : Nat) (s : S) : Option V → S
  | some (.ptr b 0 0) => owB j k s b (look s.heap b)
  | _ => s
theorem owA_ptr (j k s b) : owA j k s (some (.ptr b 0 0)) = owB j k s b (look s.heap b) := rfl
theorem exec_ownc (K t j k s) : exec K (.ownc t j k) s = some (.nrm, owA j k s (look s.rho t)) := by
  have : owncS t j k s = owA j k s (look s.rho t) := by
    unfold owncS owA
    cases look s.rho t with
    | none => rfl
    | some v =>
      cases v with
      | ptr b i j' =>
        cases i with
        | zero => cases j' with
          | zero =>
            simp only [owB]
            cases look s.heap b with
            | none => rfl
            | some x =>
              cases x with
              | mix k0 rows => cases rows with
                | nil => rfl
                | cons row rest => cases rest with
                  | nil => rfl
                  | cons _ _ => rfl
              | _ => rfl
          | succ _ => rfl
        | succ _ => rfl
      | _ => rfl
  simp only [exec, this]
def fbA (z : Bool) (bs : List Nat) (H : List (Nat × Blk)) : Option Blk → Option Blk
  | some (.dat c k rows) => some (.dat c k rows)
  | some (.mix k rows) => (mapO (mapO (finC z bs H)) rows).map (.mix k)
  | some (.map es) => (mapO (fun q => (finA z bs H q.2).map fun v => (q.1, v)) es).map .map
  | none => none
theorem finB_eq (z bs H b) : finB z bs H b = fbA z bs H (look H b) := by
  unfold finB fbA
  cases look H b with
  | none => rfl
  | some k => cases k <;> rfl
theorem fbA_mix (z bs H k rows) : fbA z bs H (some (.mix k rows)) = (mapO (mapO (finC z bs H)) rows).map (.mix k) := rfl
theorem fbA_map (z bs H l) : fbA z bs H (some (.map (keptE l))) = some (.map (keptE l)) := by
  show (mapO _ (keptE l)).map Blk.map = _
  rw [kept_fin]
  rfl
theorem regA_ev (K : Cx) (k0 k1 : Int) (n0 n1 : List UInt8) (r0 r1 : List (List D)) (nm : List UInt8) (es es1 es2 : List (List UInt8 × Option Lat)) (o o' : Option Lat) (w : E11 K k0 n0 r0 es o es1) (w' : E11 K k1 n1 r1 es1 o' es2) :
    evSegsG 2 K ⟨[(1, .ptr 0 0 0), (2, .ptr 2 0 0)], [(2, .mix 3 [[.d false (.int .i64 3), .d false (.str nm), .d false (.sl 3 [tyL k0 n0 r0, tyL k1 n1 r1])]]), (0, .mix 1 [[.map 1]]), (1, .map (keptE es))], 3, []⟩ regA =
      some ⟨[(5, oV o), (6, oV o')], [(2, .dat true 3 []), (0, .mix 1 [[.map 1]]), (1, .map (keptE es2))], 3, []⟩ := by
  have hs := segB_ev K k0 k1 n0 n1 r0 r1 nm es es1 o w
  have hd := kept_dim es1
  have ho : ∀ g (o : Option Lat), (oV o).ren g = oV o := fun g o => by cases o <;> rfl
  have hfz : frzL 2 [2] ⟨[(1, .ptr 0 0 0), (2, .ptr 2 0 0)], [(2, .mix 3 [[.d false (.int .i64 3), .d false (.str nm), .d false (.sl 3 [tyL k0 n0 r0, tyL k1 n1 r1])]]), (0, .mix 1 [[.map 1]]), (1, .map (keptE es))], 3, []⟩ =
      ⟨[(1, .ptr 0 0 0), (2, .d false (.ptr [.int .i64 3, .str nm, .sl 3 [tyL k0 n0 r0, tyL k1 n1 r1]]))], [(2, .dat true 3 []), (0, .mix 1 [[.map 1]]), (1, .map (keptE es))], 3, []⟩ := by
    rw [frzL_cons, frzL_nil, frzV_ptr (b := 2) (k := 3) (row := [.d false (.int .i64 3), .d false (.str nm), .d false (.sl 3 [tyL k0 n0 r0, tyL k1 n1 r1])]) (ds := [.int .i64 3, .str nm, .sl 3 [tyL k0 n0 r0, tyL k1 n1 r1]]) rfl rfl rfl (Nat.le_refl _) (by simp)]
    simp (disch := first | decide | omega | (simp only [LN]; omega) | (simp only [LN]; done) | fail) only [forgetR, V.forget, V.drop1, beq_iff_eq, V.ref0, List.map_cons, reduceCtorEq, if_false, if_true, List.map_nil, List.all_cons, V.new1, D.flat, Bool.or_true, Bool.or_self, List.all_nil, Bool.and_true, Bool.and_false, put_cons, Nat.reduceBEq, putB_false, beq_self_eq_true, putB_true, forgetH, forget_mix, Bool.false_eq_true, kept_forget]
  unfold regA
  rw [evSegsG_cons, hfz, evSegG_none]
  unfold segB at hs
  rw [hs]
  simp only [E11, tyV, tyL] at w' ⊢
  have hl : ∀ (b : Nat), loseV (.some b) (oV o) = oV o := fun b => by cases o <;> rfl
  simp (disch := first | decide | omega | (simp only [LN]; omega) | (simp only [LN]; done) | fail) only [o1_some, segsG_cons, frzL_nil, evSegG_none, evSeg_eq, evMks_nil, segL_eq, wonB_nil, evChk_nil, evLets_nil, segW_some, restrict_cons, look_cons, beq_self_eq_true, lookB_true, resC_some, restrict_nil, List.nil_append, addBlks, evWr_calle, e_cons, e_sl, Nat.reduceBEq, lookB_false, e_nil, o2_some, consV_tup, wrEff_tup, refsL, V.refs, List.append_nil, reachB_cons, List.contains_nil, reachC_false, refsO_some, Blk.refs, List.flatMap_cons, List.flatMap_nil, List.contains_cons, Bool.or_self, List.cons_append, kept_refs, reachB_nil, evEff_eq, List.nodup_cons, List.mem_cons, reduceCtorEq, List.not_mem_nil, or_self, not_false_eq_true, List.nodup_nil, and_self, decide_true, List.all_cons, V.within, withinL, Bool.and_self, Bool.or_false, List.all_nil, closedB, Blk.within, Bool.or_true, kept_within, handed, Blk.ren, Blk.dim, List.idxOf_cons, mapO_cons, Option.map_some, List.map_cons, dimL, V.dim, List.map_nil, renL, V.ren, cond_true, Nat.zero_add, cond_false, hd, kept_ren, mapO_nil, mapC_eq, effA_eq, w', effR_eq, List.length_cons, List.length_nil, Nat.reduceAdd, Nat.le_refl, putAll, loseM, backB_eq, List.getElem?_cons_zero, Nat.reduceSub, Nat.add_zero, Option.getD_some, List.getElem?_cons_succ, put_cons, putB_false, putB_true, ho, if_true, segO_some, lose, loseH, Lost.ids, evLets_cons, letC_eq, segW_none, segsG_nil]
end Go.Vm
end

section
namespace Go.Vm
set_option maxRecDepth 20000

def lowM (a b : Lat) (f : List (List Nat)) : List (List Bool) := lowR a b f f.length 0 []
def fnsM (a b : Lat) : Option Lat := if (fillM a b a.sz [] []).1 then some (.fn a b (fillM a b a.sz [] []).2 (lowM a b (fillM a b a.sz [] []).2)) else none
def F32 (K : Cx) (a b : Lat) : Prop := K.eff 32 [.ptr 0 0 0, .fs false 1 []] [box5 a b 0, resB []] = some (.bool (fillM a b a.sz [] []).1, [box5 a b (fillM a b a.sz [] []).2.length, resB (fillM a b a.sz [] []).2], mvB (chg [] (fillM a b a.sz [] []).2))

theorem ev_functions0 (K : Cx) (k0 k1 : Int) (n0 n1 : List UInt8) (r0 r1 : List (List D)) (nm : List UInt8) (es es1 es2 : List (List UInt8 × Option Lat)) (o o' : Option Lat) (w : E11 K k0 n0 r0 es o es1) (w' : E11 K k1 n1 r1 es1 o' es2) (hn : o = none ∨ o' = none) :
    runFun K f18 [tyV 3 nm [tyL k0 n0 r0, tyL k1 n1 r1], .ptr 0 0 0] [.mix 1 [[.map 1]], .map (keptE es)] = some (oV none, [.mix 1 [[.map 1]], .map (keptE es2)], []) := by
  have h1 := regA_ev K k0 k1 n0 n1 r0 r1 nm es es1 es2 o o' w w'
  unfold f18
  unfold regA at h1
  simp only [tyV, tyL] at h1 ⊢
  cases o with
  | none =>
    cases o' with
    | none =>
      simp only [oV, pD] at h1 ⊢
      simp (disch := first | decide | omega | (simp only [LN]; omega) | (simp only [LN]; done) | fail) only [runFun_eq, List.length_cons, List.length_nil, Nat.zero_add, Nat.reduceAdd, startS, List.zipIdx_cons, List.zipIdx_nil, List.map_cons, List.map_nil, indexed, exec_seq, exec_reg, evSegs_cons, evSeg_eq, evMks_cons, evMk_box, e_sl, look_cons, beq_self_eq_true, lookB_true, o1_some, mkBox, V.laid, V.cells, if_true, mksA_eq, put_cons, Nat.reduceBEq, putB_false, put_nil, evMks_nil, mksB_eq, List.append_nil, segL_eq, wonB_nil, evChk_cons, e_nilp, Option.isSome_some, evChk_nil, Bool.and_self, evLets_nil, segW_none, restrict_cons, lookB_false, resC_some, restrict_nil, List.nil_append, addBlks, segs_nil, nrm_some, thn_nrm, exec_regg, h1, evLets_cons, e_or, e_eqs, o2_some, evEqs, Bool.false_eq_true, cellsEq, cellEq, V.isNilP, Bool.not_true, if_false, orV_some, Bool.or_self, letC_eq, List.cons_append, exec_cond, brn_true, exec_tidy, tidyS_a, tidyA_eq, range2, refsL, V.refs, reachB_cons, List.contains_nil, reachC_false, refsO_some, Blk.refs, List.flatMap_cons, List.flatMap_nil, List.contains_cons, kept_refs, Bool.or_false, Bool.or_true, reachC_true, reachB_nil, tidyB_eq, List.nodup_cons, List.mem_cons, reduceCtorEq, List.not_mem_nil, or_self, not_false_eq_true, List.nodup_nil, and_self, decide_true, take_all, List.all_cons, V.within, List.all_nil, closedB, Blk.within, withinL, kept_within, List.idxOf_cons, V.ren, Blk.ren, List.filterMap_cons, Option.map_some, renL, cond_true, cond_false, kept_ren, List.filterMap_nil, List.filter_cons, List.filter_nil, exec_ret, thn_ret, endF_ret, mapO_cons, mapO_nil, mapC_eq, oneOr, finish, finV, finA, finC, finB_eq, fbA_mix, fbA_map]
    | some l =>
      simp only [oV, pD] at h1 ⊢
      simp (disch := first | decide | omega | (simp only [LN]; omega) | (simp only [LN]; done) | fail) only [runFun_eq, List.length_cons, List.length_nil, Nat.zero_add, Nat.reduceAdd, startS, List.zipIdx_cons, List.zipIdx_nil, List.map_cons, List.map_nil, indexed, exec_seq, exec_reg, evSegs_cons, evSeg_eq, evMks_cons, evMk_box, e_sl, look_cons, beq_self_eq_true, lookB_true, o1_some, mkBox, V.laid, V.cells, if_true, mksA_eq, put_cons, Nat.reduceBEq, putB_false, put_nil, evMks_nil, mksB_eq, List.append_nil, segL_eq, wonB_nil, evChk_cons, e_nilp, Option.isSome_some, evChk_nil, Bool.and_self, evLets_nil, segW_none, restrict_cons, lookB_false, resC_some, restrict_nil, List.nil_append, addBlks, segs_nil, nrm_some, thn_nrm, exec_regg, h1, evLets_cons, e_or, e_eqs, o2_some, evEqs, Bool.false_eq_true, cellsEq, cellEq, V.isNilP, Bool.not_true, if_false, Bool.and_true, Bool.not_false, orV_some, Bool.or_false, letC_eq, List.cons_append, exec_cond, brn_true, exec_tidy, tidyS_a, tidyA_eq, range2, refsL, V.refs, reachB_cons, List.contains_nil, reachC_false, refsO_some, Blk.refs, List.flatMap_cons, List.flatMap_nil, List.contains_cons, Bool.or_self, kept_refs, Bool.or_true, reachC_true, reachB_nil, tidyB_eq, List.nodup_cons, List.mem_cons, reduceCtorEq, List.not_mem_nil, or_self, not_false_eq_true, List.nodup_nil, and_self, decide_true, take_all, List.all_cons, V.within, List.all_nil, closedB, Blk.within, withinL, kept_within, List.idxOf_cons, V.ren, Blk.ren, List.filterMap_cons, Option.map_some, renL, cond_true, cond_false, kept_ren, List.filterMap_nil, List.filter_cons, List.filter_nil, exec_ret, thn_ret, endF_ret, mapO_cons, mapO_nil, mapC_eq, oneOr, finish, finV, finA, finC, finB_eq, fbA_mix, fbA_map]
  | some l =>
    obtain rfl : o' = none := hn.resolve_left (by simp)
    simp only [oV, pD] at h1 ⊢
    simp (disch := first | decide | omega | (simp only [LN]; omega) | (simp only [LN]; done) | fail) only [runFun_eq, List.length_cons, List.length_nil, Nat.zero_add, Nat.reduceAdd, startS, List.zipIdx_cons, List.zipIdx_nil, List.map_cons, List.map_nil, indexed, exec_seq, exec_reg, evSegs_cons, evSeg_eq, evMks_cons, evMk_box, e_sl, look_cons, beq_self_eq_true, lookB_true, o1_some, mkBox, V.laid, V.cells, if_true, mksA_eq, put_cons, Nat.reduceBEq, putB_false, put_nil, evMks_nil, mksB_eq, List.append_nil, segL_eq, wonB_nil, evChk_cons, e_nilp, Option.isSome_some, evChk_nil, Bool.and_self, evLets_nil, segW_none, restrict_cons, lookB_false, resC_some, restrict_nil, List.nil_append, addBlks, segs_nil, nrm_some, thn_nrm, exec_regg, h1, evLets_cons, e_or, e_eqs, o2_some, evEqs, Bool.false_eq_true, cellsEq, cellEq, V.isNilP, Bool.and_true, Bool.not_false, if_false, Bool.not_true, orV_some, Bool.or_true, letC_eq, List.cons_append, exec_cond, brn_true, exec_tidy, tidyS_a, tidyA_eq, range2, refsL, V.refs, reachB_cons, List.contains_nil, reachC_false, refsO_some, Blk.refs, List.flatMap_cons, List.flatMap_nil, List.contains_cons, Bool.or_self, kept_refs, Bool.or_false, reachC_true, reachB_nil, tidyB_eq, List.nodup_cons, List.mem_cons, reduceCtorEq, List.not_mem_nil, or_self, not_false_eq_true, List.nodup_nil, and_self, decide_true, take_all, List.all_cons, V.within, List.all_nil, closedB, Blk.within, withinL, kept_within, List.idxOf_cons, V.ren, Blk.ren, List.filterMap_cons, Option.map_some, renL, cond_true, cond_false, kept_ren, List.filterMap_nil, List.filter_cons, List.filter_nil, exec_ret, thn_ret, endF_ret, mapO_cons, mapO_nil, mapC_eq, oneOr, finish, finV, finA, finC, finB_eq, fbA_mix, fbA_map]

set_option maxHeartbeats 1000000 in
theorem ev_functions (K : Cx) (h33 : K33 K) (k0 k1 : Int) (n0 n1 : List UInt8) (r0 r1 : List (List D)) (nm : List UInt8) (es es1 es2 : List (List UInt8 × Option Lat)) (a b : Lat) (w : E11 K k0 n0 r0 es (some a) es1) (w' : E11 K k1 n1 r1 es1 (some b) es2)
    (hb : b.wf) (ha : a.sz ≤ 1000) (w32 : F32 K a b) (hf : rowsOk a b (fillM a b a.sz [] []).2) :
    runFun K f18 [tyV 3 nm [tyL k0 n0 r0, tyL k1 n1 r1], .ptr 0 0 0] [.mix 1 [[.map 1]], .map (keptE es)] = some (oV (fnsM a b), [.mix 1 [[.map 1]], .map (keptE es2)], []) := by
  have h1 := regA_ev K k0 k1 n0 n1 r0 r1 nm es es1 es2 _ _ w w'
  have hle := (fillM_le a b a.sz [] []).2 (by simp)
  unfold fnsM
  unfold F32 at w32
  generalize hq : fillM a b a.sz [] [] = q at w32 hf hle ⊢
  obtain ⟨ok, f⟩ := q
  simp only at w32 hf hle ⊢
  unfold f18
  unfold regA at h1
  simp only [tyV, tyL, oV, pD] at h1 ⊢
  cases ok with
  | false =>
    clear hf hle hq
    generalize chg [] f = ch at w32
    simp only [box5, resB, pD, List.map_nil, Bool.false_eq_true, if_false] at w32 ⊢
    cases ch <;> (simp only [mvB] at w32; simp (disch := first | decide | omega | (simp only [LN]; omega) | (simp only [LN]; done) | fail) only [runFun_eq, List.length_cons, List.length_nil, Nat.zero_add, Nat.reduceAdd, startS, List.zipIdx_cons, List.zipIdx_nil, List.map_cons, List.map_nil, indexed, exec_seq, exec_reg, evSegs_cons, evSeg_eq, evMks_cons, evMk_box, e_sl, look_cons, beq_self_eq_true, lookB_true, o1_some, mkBox, V.laid, V.cells, if_true, mksA_eq, put_cons, Nat.reduceBEq, putB_false, put_nil, evMks_nil, mksB_eq, List.append_nil, segL_eq, wonB_nil, evChk_cons, e_nilp, Option.isSome_some, evChk_nil, Bool.and_self, evLets_nil, segW_none, restrict_cons, lookB_false, resC_some, restrict_nil, List.nil_append, addBlks, segs_nil, nrm_some, thn_nrm, exec_regg, h1, evLets_cons, e_or, e_eqs, o2_some, evEqs, Bool.false_eq_true, cellsEq, cellEq, V.isNilP, Bool.and_true, Bool.not_false, if_false, orV_some, Bool.or_self, letC_eq, List.cons_append, exec_cond, brn_false, exec_skip, e_set, e_agg, e_cons, e_int, e_nilsl, e_nil, consV_tup, aggV_tup, evSet, V.cell, nle_T, decide_true, splice, List.take_succ_cons, List.take_zero, List.drop_succ_cons, List.drop_zero, exec_ownc, owA_ptr, owB_mix, List.getElem?_cons_succ, List.getElem?_cons_zero, owC_fs, List.set_cons_succ, List.set_cons_zero, putB_true, segW_some, evWr_calle, wrEff_tup, refsL, V.refs, reachB_cons, List.contains_nil, reachC_false, refsO_some, Blk.refs, List.flatMap_cons, List.flatMap_nil, List.contains_cons, reachB_nil, evEff_eq, List.nodup_cons, List.mem_cons, Nat.reduceEqDiff, List.not_mem_nil, or_self, not_false_eq_true, List.nodup_nil, and_self, List.all_cons, V.within, Bool.or_false, List.all_nil, closedB, Blk.within, withinL, Bool.or_true, handed, Blk.ren, Blk.dim, List.idxOf_cons, mapO_cons, Option.map_some, dimL, V.dim, renL, V.ren, cond_true, cond_false, mapO_nil, mapC_eq, effA_eq, w32, effR_eq, Nat.le_refl, putAll, loseM, backB_eq, Nat.reduceSub, Nat.add_zero, Option.getD_some, segO_some, lose, loseH, Lost.ids, segs_cons, e_un, evUn, brn_true, exec_tidy, tidyS_a, tidyA_eq, range2, kept_refs, reachC_true, tidyB_eq, reduceCtorEq, take_all, kept_within, List.filterMap_cons, kept_ren, List.filterMap_nil, List.filter_cons, List.filter_nil, exec_ret, thn_ret, endF_ret, oneOr, finish, finV, finA, finC, finB_eq, fbA_mix, fbA_map, forgetH, forget_dat, forget_mix, V.drop1, kept_forget, forgetR, V.forget, beq_iff_eq, V.ref0])
  | true =>
    have hl := out_loop K h33 a b hb ha f hf (by have := hle rfl; omega) es2 f.length 0 [] (by omega) rfl
    have hlow : lowM a b f = lowR a b f f.length 0 [] := rfl
    rw [hlow]
    clear hf hle hq hlow
    generalize lowR a b f f.length 0 [] = low at hl ⊢
    generalize chg [] f = ch at w32
    simp only [box5, resB, pD, List.map_nil, if_true, fnH, lowH, lowC, lowN, iN, List.append_nil, List.cons_append, List.nil_append, Int.natCast_zero, Int.ofNat_zero, Nat.add_zero] at w32 hl ⊢
    cases low with
    | nil =>
      simp only [lowH, lowC, lowN, List.append_nil, Nat.add_zero] at hl
      cases ch <;> (simp only [mvB] at w32; simp (disch := first | decide | omega | (simp only [LN]; omega) | (simp only [LN]; done) | fail) only [runFun_eq, List.length_cons, List.length_nil, Nat.zero_add, Nat.reduceAdd, startS, List.zipIdx_cons, List.zipIdx_nil, List.map_cons, List.map_nil, indexed, exec_seq, exec_reg, evSegs_cons, evSeg_eq, evMks_cons, evMk_box, e_sl, look_cons, beq_self_eq_true, lookB_true, o1_some, mkBox, V.laid, V.cells, if_true, mksA_eq, put_cons, Nat.reduceBEq, putB_false, put_nil, evMks_nil, mksB_eq, List.append_nil, segL_eq, wonB_nil, evChk_cons, e_nilp, Option.isSome_some, evChk_nil, Bool.and_self, evLets_nil, segW_none, restrict_cons, lookB_false, resC_some, restrict_nil, List.nil_append, addBlks, segs_nil, nrm_some, thn_nrm, exec_regg, h1, evLets_cons, e_or, e_eqs, o2_some, evEqs, Bool.false_eq_true, cellsEq, cellEq, V.isNilP, Bool.and_true, Bool.not_false, if_false, orV_some, Bool.or_self, letC_eq, List.cons_append, exec_cond, brn_false, exec_skip, e_set, e_agg, e_cons, e_int, e_nilsl, e_nil, consV_tup, aggV_tup, evSet, V.cell, nle_T, decide_true, splice, List.take_succ_cons, List.take_zero, List.drop_succ_cons, List.drop_zero, exec_ownc, owA_ptr, owB_mix, List.getElem?_cons_succ, List.getElem?_cons_zero, owC_fs, List.set_cons_succ, List.set_cons_zero, putB_true, segW_some, evWr_calle, wrEff_tup, refsL, V.refs, reachB_cons, List.contains_nil, reachC_false, refsO_some, Blk.refs, List.flatMap_cons, List.flatMap_nil, List.contains_cons, reachB_nil, evEff_eq, List.nodup_cons, List.mem_cons, Nat.reduceEqDiff, List.not_mem_nil, or_self, not_false_eq_true, List.nodup_nil, and_self, List.all_cons, V.within, Bool.or_false, List.all_nil, closedB, Blk.within, withinL, Bool.or_true, handed, Blk.ren, Blk.dim, List.idxOf_cons, mapO_cons, Option.map_some, dimL, V.dim, renL, V.ren, cond_true, cond_false, mapO_nil, mapC_eq, effA_eq, w32, effR_eq, Nat.le_refl, putAll, loseM, backB_eq, Nat.reduceSub, Nat.add_zero, Option.getD_some, segO_some, lose, loseH, Lost.ids, segs_cons, e_un, evUn, Bool.not_true, evWr_store, e_fa, evFa, e_len, e_ld, evLd_ptr, ldB_eq, row_mix, ldR_eq, part_one, evLen, wrStore_ptr, stA_eq, set_mix0, stB_some, segO_none, exec_block, exec_tidy, tidyS_a, tidyA_eq, range2, kept_refs, reachC_true, tidyB_eq, reduceCtorEq, kept_within, List.filterMap_cons, kept_ren, List.filterMap_nil, List.filter_cons, List.filter_nil, exec_loop, hl, blk_exit, exec_ret, endF_ret, oneOr, finish, take_all, finV, finA, finC, hNew, restH, forgetH, forget_mix, V.drop1, forget_dat, V.newR, V.new1, D.flat, Bool.and_false, viewDepth, viewD, List.length_map, finB_eq, fbA_mix, fbA_map, Lat.cells, kept_forget, forgetR, V.forget, beq_iff_eq, V.ref0])
    | cons y low =>
      simp only [lowH, lowC, lowN, List.cons_append, List.nil_append, List.map_cons] at hl
      cases ch <;> (simp only [mvB] at w32; simp (disch := first | decide | omega | (simp only [LN]; omega) | (simp only [LN]; done) | fail) only [runFun_eq, List.length_cons, List.length_nil, Nat.zero_add, Nat.reduceAdd, startS, List.zipIdx_cons, List.zipIdx_nil, List.map_cons, List.map_nil, indexed, exec_seq, exec_reg, evSegs_cons, evSeg_eq, evMks_cons, evMk_box, e_sl, look_cons, beq_self_eq_true, lookB_true, o1_some, mkBox, V.laid, V.cells, if_true, mksA_eq, put_cons, Nat.reduceBEq, putB_false, put_nil, evMks_nil, mksB_eq, List.append_nil, segL_eq, wonB_nil, evChk_cons, e_nilp, Option.isSome_some, evChk_nil, Bool.and_self, evLets_nil, segW_none, restrict_cons, lookB_false, resC_some, restrict_nil, List.nil_append, addBlks, segs_nil, nrm_some, thn_nrm, exec_regg, h1, evLets_cons, e_or, e_eqs, o2_some, evEqs, Bool.false_eq_true, cellsEq, cellEq, V.isNilP, Bool.and_true, Bool.not_false, if_false, orV_some, Bool.or_self, letC_eq, List.cons_append, exec_cond, brn_false, exec_skip, e_set, e_agg, e_cons, e_int, e_nilsl, e_nil, consV_tup, aggV_tup, evSet, V.cell, nle_T, decide_true, splice, List.take_succ_cons, List.take_zero, List.drop_succ_cons, List.drop_zero, exec_ownc, owA_ptr, owB_mix, List.getElem?_cons_succ, List.getElem?_cons_zero, owC_fs, List.set_cons_succ, List.set_cons_zero, putB_true, segW_some, evWr_calle, wrEff_tup, refsL, V.refs, reachB_cons, List.contains_nil, reachC_false, refsO_some, Blk.refs, List.flatMap_cons, List.flatMap_nil, List.contains_cons, reachB_nil, evEff_eq, List.nodup_cons, List.mem_cons, Nat.reduceEqDiff, List.not_mem_nil, or_self, not_false_eq_true, List.nodup_nil, and_self, List.all_cons, V.within, Bool.or_false, List.all_nil, closedB, Blk.within, withinL, Bool.or_true, handed, Blk.ren, Blk.dim, List.idxOf_cons, mapO_cons, Option.map_some, dimL, V.dim, renL, V.ren, cond_true, cond_false, mapO_nil, mapC_eq, effA_eq, w32, effR_eq, Nat.le_refl, putAll, loseM, backB_eq, Nat.reduceSub, Nat.add_zero, Option.getD_some, segO_some, lose, loseH, Lost.ids, segs_cons, e_un, evUn, Bool.not_true, evWr_store, e_fa, evFa, e_len, e_ld, evLd_ptr, ldB_eq, row_mix, ldR_eq, part_one, evLen, wrStore_ptr, stA_eq, set_mix0, stB_some, segO_none, exec_block, exec_tidy, tidyS_a, tidyA_eq, range2, kept_refs, reachC_true, tidyB_eq, reduceCtorEq, kept_within, List.filterMap_cons, kept_ren, List.filterMap_nil, List.filter_cons, List.filter_nil, exec_loop, hl, blk_exit, exec_ret, endF_ret, oneOr, finish, take_all, finV, finA, finC, hNew, restH, forgetH, forget_mix, V.drop1, forget_dat, V.newR, V.new1, D.flat, Bool.and_false, viewDepth, viewD, List.length_map, finB_eq, fbA_mix, fbA_map, Lat.cells, kept_forget, forgetR, V.forget, beq_iff_eq, V.ref0])
end Go.Vm
end

section
namespace Go.Vm
open Go.Proofs Go.RowKit

def decNats : List (List D) → Option (List Nat)
  | [] => some []
  | [.int .i64 n] :: r => if 0 ≤ n then (decNats r).map (n.toNat :: ·) else none
  | _ => none
theorem decNats_ok : ∀ {l : List (List D)} {r : List Nat}, decNats l = some r → r.map natD = l
  | [], r, h => by simp only [decNats, Option.some.injEq] at h; subst h; rfl
  | x :: l, r, h => by
    unfold decNats at h
    split at h
    · rename_i h0; cases h0
    · rename_i n l' h0
      cases h0
      split at h
      · rename_i hn
        simp only [Option.map_eq_some_iff] at h
        obtain ⟨r', h', rfl⟩ := h
        rw [List.map_cons, decNats_ok h']
        simp [natD, Int.toNat_of_nonneg hn]
      · cases h
    · cases h
def decRows : List (List D) → Option (List (List Nat))
  | [] => some []
  | [.sl 1 l] :: r => match decNats l with
    | some x => (decRows r).map (x :: ·)
    | none => none
  | _ => none
theorem decRows_ok : ∀ {l : List (List D)} {r : List (List Nat)}, decRows l = some r → r.map rowD = l
  | [], r, h => by simp only [decRows, Option.some.injEq] at h; subst h; rfl
  | x :: l, r, h => by
    unfold decRows at h
    split at h
    · rename_i h0; cases h0
    · rename_i n l' h0
      cases h0
      split at h
      · rename_i y hy
        simp only [Option.map_eq_some_iff] at h
        obtain ⟨r', h', rfl⟩ := h
        rw [List.map_cons, decRows_ok h', rowD, decNats_ok hy]
      · cases h
    · cases h
def decBools : List (List D) → Option (List Bool)
  | [] => some []
  | [.bool n] :: r => (decBools r).map (n :: ·)
  | _ => none
theorem decBools_ok : ∀ {l : List (List D)} {r : List Bool}, decBools l = some r → r.map boolD = l
  | [], r, h => by simp only [decBools, Option.some.injEq] at h; subst h; rfl
  | x :: l, r, h => by
    unfold decBools at h
    split at h
    · rename_i h0; cases h0
    · rename_i n l' h0
      cases h0
      simp only [Option.map_eq_some_iff] at h
      obtain ⟨r', h', rfl⟩ := h
      rw [List.map_cons, decBools_ok h']
      rfl
    · cases h
def decLow : List (List D) → Option (List (List Bool))
  | [] => some []
  | [.sl 1 l] :: r => match decBools l with
    | some x => (decLow r).map (x :: ·)
    | none => none
  | _ => none
theorem decLow_ok : ∀ {l : List (List D)} {r : List (List Bool)}, decLow l = some r → r.map lowD = l
  | [], r, h => by simp only [decLow, Option.some.injEq] at h; subst h; rfl
  | x :: l, r, h => by
    unfold decLow at h
    split at h
    · rename_i h0; cases h0
    · rename_i n l' h0
      cases h0
      split at h
      · rename_i y hy
        simp only [Option.map_eq_some_iff] at h
        obtain ⟨r', h', rfl⟩ := h
        rw [List.map_cons, decLow_ok h', lowD, decBools_ok hy]
      · cases h
    · cases h
def decLat : Nat → List D → Option Lat
  | 0, _ => none
  | n + 1, ds => match ds with
    | [.int .i64 k, .nilp, .nilp, .sl 1 [], .sl 1 []] => if 0 ≤ k then some (.ch k.toNat) else none
    | [.int .i64 k, .ptr ac, .ptr bc, .sl 1 rows, .sl 1 low] => match decLat n ac, decLat n bc, decRows rows, decLow low with
      | some a, some b, some r, some l => if k = r.length then some (.fn a b r l) else none
      | _, _, _, _ => none
    | _ => none
theorem decLat_ok : ∀ {n : Nat} {ds : List D} {o : Lat}, decLat n ds = some o → o.cells = ds
  | 0, _, _, h => by cases h
  | n + 1, ds, o, h => by
    unfold decLat at h
    split at h
    · split at h
      · rename_i hk
        simp only [Option.some.injEq] at h
        subst h
        simp [Lat.cells, Int.toNat_of_nonneg hk]
      · cases h
    · split at h
      · rename_i a b r l ha hb hr hl
        split at h
        · rename_i hk
          simp only [Option.some.injEq] at h
          subst h
          rw [Lat.cells, decLat_ok ha, decLat_ok hb, decRows_ok hr, decLow_ok hl, hk]
        · cases h
      · cases h
    · cases h
def rowsB (a b : Lat) (rows : List (List Nat)) : Bool := rows.all fun r => decide (r.length = a.sz) && r.all fun v => decide (v < b.sz)
theorem rowsB_ok {a b : Lat} {rows : List (List Nat)} (h : rowsB a b rows = true) : rowsOk a b rows := by
  simp only [rowsB, List.all_eq_true, Bool.and_eq_true, decide_eq_true_eq] at h
  exact h
def wfB : Lat → Bool
  | .ch n => decide (n ≤ 1000)
  | .fn a b rows low => wfB a && wfB b && decide (rows.length ≤ 1000) && decide (low.length = rows.length) && (low.all fun r => decide (r.length = rows.length)) && rowsB a b rows
theorem wfB_ok : ∀ {o : Lat}, wfB o = true → o.wf
  | .ch n, h => by simpa [wfB, Lat.wf] using h
  | .fn a b rows low, h => by
    simp only [wfB, Bool.and_eq_true, decide_eq_true_eq, List.all_eq_true] at h
    obtain ⟨⟨⟨⟨⟨h1, h2⟩, h3⟩, h4⟩, h5⟩, h6⟩ := h
    exact ⟨wfB_ok h1, wfB_ok h2, h3, h4, h5, rowsB_ok h6⟩
theorem wf_sz : ∀ {o : Lat}, o.wf → o.sz ≤ 1000
  | .ch n, h => h
  | .fn _ _ _ _, h => h.2.2.1

def decList (F : List D → Option Ty) : List (List D) → Option (List Ty)
  | [] => some []
  | r :: l => match F r, decList F l with
    | some t, some ts => some (t :: ts)
    | _, _ => none
def decTy : Nat → List D → Option Ty
  | 0, _ => none
  | n + 1, ds => match ds with
    | [.int .i64 k, .str nm, .sl 3 rows] => if rows.length ≤ 1000 then (decList (decTy n) rows).map (.mk k nm) else none
    | _ => none
end Go.Vm
end

section
namespace Go.Vm
set_option maxRecDepth 100000
open Go.Proofs Go.RowKit

open Classical in
noncomputable def ovr (K : Cx) (L : List Sp) (E : List Se) : Cx := ⟨fun f vs => match callOf L f vs with
  | some r => some r
  | none => K.call f vs, fun f vs bs => match effOf E f vs bs with
  | some r => some r
  | none => K.eff f vs bs, K.glob, K.loc⟩
theorem ovr_sound {P : Program} {K : Cx} (hK : K.Sound P) (hl : ∀ f, K.loc f = false) {L : List Sp} {E : List Se} (h1 : ∀ s ∈ L, s.Holds P K.glob) (h2 : ∀ s ∈ E, s.Holds P K.glob) : (ovr K L E).Sound P := by
  have hc := cx_sound (G := K.glob) h1 h2
  refine ⟨fun f args r news h => ?_, fun f args r news hf _ => absurd (show K.loc f = true from hf) (by simp [hl f]), fun f args blks r blks' mv h => ?_⟩
  · simp only [ovr] at h ⊢
    split at h
    · rename_i r' hr
      obtain rfl := Option.some.inj h
      exact hc.pure f args r news hr
    · exact hK.pure f args r news h
  · simp only [ovr] at h ⊢
    split at h
    · rename_i r' hr
      obtain rfl := Option.some.inj h
      exact hc.eff f args blks r blks' mv hr
    · exact hK.eff f args blks r blks' mv h

def decO : D → Option (Option Lat)
  | .nilp => some none
  | .ptr cs => match decLat 9 cs with
    | some l => some (some l)
    | none => none
  | _ => none
theorem decO_ok {d : D} {o : Option Lat} (h : decO d = some o) : oV o = .d false d := by
  unfold decO at h
  split at h
  · obtain rfl := Option.some.inj h; rfl
  · split at h
    · rename_i l hl
      obtain rfl := Option.some.inj h
      simp only [oV, pD, decLat_ok hl]
    · cases h
  · cases h
def decKept : List (D × V) → Option (List (List UInt8 × Option Lat))
  | [] => some []
  | (.str s, .d false d) :: l => match decO d, decKept l with
    | some o, some r => some ((s, o) :: r)
    | _, _ => none
  | _ => none
theorem decKept_ok : ∀ {l : List (D × V)} {r : List (List UInt8 × Option Lat)}, decKept l = some r → keptE r = l
  | [], r, h => by simp only [decKept, Option.some.injEq] at h; subst h; rfl
  | x :: l, r, h => by
    unfold decKept at h
    split at h
    · rename_i h0; cases h0
    · rename_i s d l' h0
      cases h0
      split at h
      · rename_i o r' ho hr
        obtain rfl := Option.some.inj h
        simp only [keptE, List.map_cons, decO_ok ho]
        exact congrArg _ (decKept_ok hr)
      · cases h
    · cases h
def run11 (K : Cx) (k : Int) (n : List UInt8) (r : List (List D)) (es : List (D × V)) : Option (Option Lat × List (D × V)) := match K.eff 11 [.agg [.d false (.int .i64 k), .d false (.str n), .d false (.sl 3 r)], .ptr 0 0 0] [.mix 1 [[.map 1]], .map es] with
  | some (.d false d, [.mix 1 [[.map 1]], .map es'], []) => match decO d with
    | some o => some (o, es')
    | none => none
  | _ => none
theorem run11_ok {K : Cx} {k : Int} {n : List UInt8} {r : List (List D)} {es es' : List (D × V)} {o : Option Lat} (h : run11 K k n r es = some (o, es')) :
    K.eff 11 [tyV k n r, .ptr 0 0 0] [.mix 1 [[.map 1]], .map es] = some (oV o, [.mix 1 [[.map 1]], .map es'], []) := by
  unfold run11 at h
  split at h
  · rename_i d es1 hd
    split at h
    · rename_i o' ho
      simp only [Option.some.injEq, Prod.mk.injEq] at h
      obtain ⟨rfl, rfl⟩ := h
      rw [decO_ok ho]
      exact hd
    · cases h
  · cases h
def fin18 (es : List (D × V)) : Option Lat → Option Lat → Option (V × List Blk × List Nat)
  | some a, some b => if wfB a && wfB b && decide (0 < a.sz) then match fillM a b a.sz [] [] with
      | (ok, f) => if rowsB a b f then some (if ok then pD (.fn a b f (lowM a b f)) else .d false .nilp, [.mix 1 [[.map 1]], .map es], []) else none
    else none
  | _, _ => some (.d false .nilp, [.mix 1 [[.map 1]], .map es], [])
def run18 (K : Cx) : List V → List Blk → Option (V × List Blk × List Nat)
  | [.agg [.d false (.int .i64 3), .d false (.str nm), .d false (.sl 3 [[.int .i64 k0, .str n0, .sl 3 r0], [.int .i64 k1, .str n1, .sl 3 r1]])], .ptr 0 0 0], [.mix 1 [[.map 1]], .map es] => match run11 K k0 n0 r0 es with
    | some (o, es1) => match run11 K k1 n1 r1 es1 with
      | some (o', es2) => match decKept es, decKept es1, decKept es2 with
        | some _, some _, some _ => fin18 es2 o o'
        | _, _, _ => none
      | none => none
    | none => none
  | _, _ => none

theorem eff32_ne {a b : Lat} {k : Nat} {vs bs} : effOf [y32 a b k] 11 vs bs = none := by
  unfold effOf
  exact if_neg (show ¬ ((32 : Nat) = 11) by decide)
theorem run18_ok {K : Cx} (hK : K.Sound Tryd.prog) (hl : ∀ f, K.loc f = false) {vs : List V} {bs : List Blk} {r : V × List Blk × List Nat} (h : run18 K vs bs = some r) : callable Tryd.prog 18 = true ∧ EffCall Tryd.prog K.glob 18 vs bs r.1 r.2.1 r.2.2 := by
  unfold run18 at h
  split at h
  · rename_i nm k0 n0 r0 k1 n1 r1 es
    split at h
    · rename_i o es1 h1
      split at h
      · rename_i o' es2 h2
        split at h
        · rename_i d0 d1 d2 e0 e1 e2
          have w1 := run11_ok h1
          have w2 := run11_ok h2
          obtain rfl := decKept_ok e0
          obtain rfl := decKept_ok e1
          obtain rfl := decKept_ok e2
          have go : ∀ (K' : Cx), K'.Sound Tryd.prog → K'.glob = K.glob → runFun K' f18 [tyV 3 nm [tyL k0 n0 r0, tyL k1 n1 r1], .ptr 0 0 0] [.mix 1 [[.map 1]], .map (keptE d0)] = some r → callable Tryd.prog 18 = true ∧ EffCall Tryd.prog K.glob 18 [tyV 3 nm [tyL k0 n0 r0, tyL k1 n1 r1], .ptr 0 0 0] [.mix 1 [[.map 1]], .map (keptE d0)] r.1 r.2.1 r.2.2 := by
            intro K' hK' hg hr
            have := eff_sound mixedD hK' f18_ok hr
            rw [hg] at this
            exact this
          unfold fin18 at h
          split at h
          · rename_i a b
            split at h
            · rename_i hc
              simp only [Bool.and_eq_true, decide_eq_true_eq] at hc
              obtain ⟨⟨ha, hb⟩, h0⟩ := hc
              have ha := wfB_ok ha
              have hb := wfB_ok hb
              generalize hq : fillM a b a.sz [] [] = q at h
              obtain ⟨ok, f⟩ := q
              simp only at h
              split at h
              · rename_i hr
                obtain rfl := Option.some.inj h
                have hy := y32h K.glob a b ha hb (wf_sz ha) (wf_sz hb) h0 a.sz
                have hs := ovr_sound hK hl (L := [z33]) (E := [y32 a b a.sz]) (fun s hs => by simp at hs; subst hs; exact z33h _) (fun s hs => by simp at hs; subst hs; exact hy)
                have h33 : K33 (ovr K [z33] [y32 a b a.sz]) := fun s a b rows l x y q1 q2 q3 q4 q5 => by
                  have := has_head z33 [] (s, a, b, rows, l, x, y) ⟨q1, q2, q3, q4, q5⟩
                  simp only [ovr]
                  have e : callOf [z33] 33 [.d false (halfD s a b rows l), iN x, iN y] = some (.bool (ptw a b (nth rows (x : Int)) (nth rows (y : Int))), []) := this
                  rw [e]
                have h32 : F32 (ovr K [z33] [y32 a b a.sz]) a b := by
                  have := hasE_head (y32 a b a.sz) [] ([], .fs false 1 [], []) ⟨.inr ⟨rfl, rfl⟩, Nat.zero_add _, fun u hu => by simp at hu, Nat.zero_le _⟩
                  unfold F32
                  simp only [ovr]
                  have e : effOf [y32 a b a.sz] 32 [.ptr 0 0 0, .fs false 1 []] [box5 a b 0, resB []] = some (.bool (fillM a b a.sz [] []).1, [box5 a b (fillM a b a.sz [] []).2.length, resB (fillM a b a.sz [] []).2], mvB (chg [] (fillM a b a.sz [] []).2)) := this
                  rw [e]
                have v1 : E11 (ovr K [z33] [y32 a b a.sz]) k0 n0 r0 d0 (some a) d1 := by
                  unfold E11
                  simp only [ovr]
                  rw [eff32_ne]
                  exact w1
                have v2 : E11 (ovr K [z33] [y32 a b a.sz]) k1 n1 r1 d1 (some b) d2 := by
                  unfold E11
                  simp only [ovr]
                  rw [eff32_ne]
                  exact w2
                have hev := ev_functions _ h33 k0 k1 n0 n1 r0 r1 nm d0 d1 d2 a b v1 v2 hb (wf_sz ha) h32 (by rw [hq]; exact rowsB_ok hr)
                refine go _ hs rfl ?_
                rw [hev]
                unfold fnsM
                rw [hq]
                cases ok <;> rfl
              · cases h
            · cases h
          · rename_i hno
            obtain rfl := Option.some.inj h
            refine go K hK rfl (ev_functions0 K k0 k1 n0 n1 r0 r1 nm d0 d1 d2 o o' w1 w2 ?_)
            cases o with
            | none => exact .inl rfl
            | some a => cases o' with
              | none => exact .inr rfl
              | some b => exact absurd rfl (hno a b rfl)
        · cases h
      · cases h
    · cases h
  · cases h

def cxO (K0 : Cx) (N : Nat) (T : List Row) : Nat → Cx
  | 0 => K0
  | n + 1 => ⟨fun f vs => match findR T f with
      | some r => if r.m = 0 ∧ r.n = vs.length then match runFunC N (cxO K0 N T n) r.g vs [] with
        | some (v, blks, _) => some (v, blks)
        | none => none
        else none
      | none => K0.call f vs,
    fun f vs bs => if f = 18 then run18 (cxO K0 N T n) vs bs else match findR T f with
      | some r => if r.m = bs.length ∧ r.n = vs.length then runFunC N (cxO K0 N T n) r.g vs bs else none
      | none => K0.eff f vs bs, K0.glob, K0.loc⟩
theorem cxO_glob (K0 : Cx) (N : Nat) (T : List Row) (n : Nat) : (cxO K0 N T n).glob = K0.glob := by cases n <;> rfl
theorem cxO_loc (K0 : Cx) (N : Nat) (T : List Row) (n : Nat) : (cxO K0 N T n).loc = K0.loc := by cases n <;> rfl
theorem cxO_sound {K0 : Cx} (h0 : K0.Sound Tryd.prog) {N : Nat} {T : List Row} (hT : ∀ r ∈ T, funOk Tryd.prog r.f r.m r.n r.g = true) (hl : ∀ f, K0.loc f = false) : ∀ n, (cxO K0 N T n).Sound Tryd.prog := by
  intro n
  induction n with
  | zero => exact h0
  | succ n ih =>
    refine ⟨fun f args r news h => ?_, fun f args r news hf _ => absurd (show K0.loc f = true from hf) (by simp [hl f]), fun f args blks r blks' mv h => ?_⟩
    · simp only [cxO] at h ⊢
      split at h
      · rename_i q hq
        obtain ⟨h1, rfl⟩ := findR_mem hq
        split at h
        · rename_i hc
          split at h
          · rename_i v blks mv hr
            simp only [Option.some.injEq, Prod.mk.injEq] at h
            obtain ⟨rfl, rfl⟩ := h
            have ok := hT q h1
            rw [hc.1, hc.2] at ok
            have := pure_sound mixedD ih ok (runFunC_ok hr)
            rw [cxO_glob] at this
            exact this
          · cases h
        · cases h
      · exact h0.pure f args r news h
    · simp only [cxO] at h ⊢
      split at h
      · rename_i hf
        subst hf
        have := run18_ok ih (fun f => by rw [cxO_loc]; exact hl f) h
        rw [cxO_glob] at this
        exact this
      · split at h
        · rename_i q hq
          obtain ⟨h1, rfl⟩ := findR_mem hq
          split at h
          · rename_i hc
            have ok := hT q h1
            rw [hc.1, hc.2] at ok
            have := eff_sound mixedD ih ok (runFunC_ok h)
            rw [cxO_glob] at this
            exact this
          · cases h
        · exact h0.eff f args blks r blks' mv h
end Go.Vm
end

section
namespace Go.Vm
set_option maxRecDepth 100000
open Go.Proofs Go.RowKit

theorem decList_ok {F : List D → Option Ty} (hF : ∀ ds T, F ds = some T → T.d = ds ∧ T.fit) : ∀ (rows : List (List D)) (ls : List Ty), decList F rows = some ls → dL ls = rows ∧ fitL ls
  | [], ls, h => by simp only [decList, Option.some.injEq] at h; subst h; exact ⟨rfl, trivial⟩
  | r :: l, ls, h => by
    unfold decList at h
    split at h
    · rename_i t ts ht hts
      simp only [Option.some.injEq] at h
      subst h
      obtain ⟨h1, h2⟩ := hF _ _ ht
      obtain ⟨h3, h4⟩ := decList_ok hF _ _ hts
      exact ⟨by rw [dL, h1, h3], h2, h4⟩
    · cases h
theorem decTy_ok : ∀ (n : Nat) (ds : List D) (T : Ty), decTy n ds = some T → T.d = ds ∧ T.fit
  | 0, ds, T, h => by simp [decTy] at h
  | n + 1, ds, T, h => by
    unfold decTy at h
    split at h
    · split at h
      · rename_i hl
        simp only [Option.map_eq_some_iff] at h
        obtain ⟨ls, hls, rfl⟩ := h
        obtain ⟨h1, h2⟩ := decList_ok (decTy_ok n) _ _ hls
        refine ⟨by rw [Ty.d, h1], ?_, h2⟩
        rw [← dL_len, h1]
        exact Nat.le_trans hl (by decide)
      · cases h
    · cases h

def Gm (m : Int) : Nat → Option (List D) := fun g => if g = 1 then some [.int .i64 m] else none
abbrev KZ (m : Int) : Cx := ⟨fun _ _ => none, fun _ _ _ => none, Gm m, fun _ => false⟩
theorem KZ_sound (m : Int) : (KZ m).Sound Tryd.prog := ⟨fun f args r news h => (by cases h), fun f args r news h => (by cases h), fun f args blks r blks' mv h => (by cases h)⟩

def c27 (m : Int) : List V → Option (V × List Blk)
  | [.d false (.sl 3 [])] => some (.fs true 3 [], [])
  | [.d false (.sl 3 (r :: rows))] => match runFunC 3 (KZ m) f27 [.d false (.sl 3 (r :: rows))] [] with
    | some (v, b, _) => some (v, b)
    | none => none
  | _ => none
def c44 : List V → Option (V × List Blk)
  | [.d false (.str s), .d false (.str [46])] => if s.length ≤ 1000 then some (.d true (.sl 1 (piecesD s [46])), []) else none
  | _ => none
def c9 (K : Cx) : List V → Option (V × List Blk)
  | [.agg [.d false (.int .i64 k), .d false (.str n), .d false (.sl 3 rows)]] => match decTy 9 [.int .i64 k, .str n, .sl 3 rows] with
    | some T => if T.vars.isEmpty then match K.call 12 [.agg [.d false (.int .i64 k), .d false (.str n), .d false (.sl 3 rows)]], K.eff 15 [.agg [.d false (.int .i64 k), .d false (.str n), .d false (.sl 3 rows)], .map 0] [.map []] with
        | some (.d _ (.int .i64 0), []), some (.agg [x, y, z], [.map []], _) => match plainD x, plainD y, plainD z with
          | some x, some y, some z => some (.tup [.agg [.d false x, .d false y, .d false z], .d false (.int .i64 0)], [])
          | _, _, _ => none
        | _, _ => none
      else none
    | none => none
  | _ => none
def eB : List Blk → Option (List UInt8)
  | [.map [(.nils 68, .bsl 1 0 n)], .map [(.emps 5, .d false .nilp), (.str bytes, .d false .nilp)]] => if n = bytes.length ∧ n ≤ 1000000 then some bytes else none
  | _ => none
def cEff : FuncId → List V → List Blk → Option (V × List Blk × List Nat)
  | 39, [.ptr 0 0 0, .d false (.int .u8 c)], bs => match eB bs with
    | some bytes => if 0 ≤ c ∧ c < 256 then some (.d false .nilif, [bldB 68 1 (bytes ++ [UInt8.ofNat c.toNat]).length, bufB 5 (bytes ++ [UInt8.ofNat c.toNat])], [1]) else none
    | none => none
  | 38, [.ptr 0 0 0, .d false (.str s)], bs => match eB bs with
    | some bytes => if s.length ≤ 1000000 then some (.tup [.d false (.int .i64 s.length), .d false .nilif], [bldB 68 1 (bytes ++ s).length, bufB 5 (bytes ++ s)], [1]) else none
    | none => none
  | 30, [.ptr 0 0 0], bs => match eB bs with
    | some bytes => some (.d false (.int .i64 bytes.length), [bldB 68 1 bytes.length, bufB 5 bytes], [])
    | none => none
  | 31, [.ptr 0 0 0], bs => match eB bs with
    | some bytes => some (.d false (.str bytes), [bldB 68 1 bytes.length, bufB 5 bytes], [1])
    | none => none
  | _, _, _ => none
def cCall (m : Int) (K : Cx) : FuncId → List V → Option (V × List Blk)
  | 27, vs => c27 m vs
  | 44, vs => c44 vs
  | 9, vs => c9 K vs
  | _, _ => none
def KS (m : Int) (K : Cx) : Cx := ⟨cCall m K, cEff, Gm m, fun _ => false⟩

theorem eB_ok {bs : List Blk} {bytes : List UInt8} (h : eB bs = some bytes) : bs = [bldB 68 1 bytes.length, bufB 5 bytes] ∧ bytes.length ≤ 1000000 := by
  unfold eB at h
  split at h
  · split at h
    · rename_i hc
      obtain ⟨h1, h2⟩ := hc
      simp only [Option.some.injEq] at h
      subst h
      subst h1
      exact ⟨rfl, h2⟩
    · cases h
  · cases h

theorem KS_sound (m : Int) {K : Cx} (hK : K.Sound Tryd.prog) (hG : K.glob = Gm m) : (KS m K).Sound Tryd.prog := by
  refine ⟨fun f args r news h => ?_, fun f args r news h => (by cases h), fun f args blks r blks' mv h => ?_⟩
  · simp only [KS] at h ⊢
    unfold cCall at h
    split at h
    · -- Clone
      refine ⟨by kernel_rfl, ?_⟩
      unfold c27 at h
      split at h
      · simp only [Option.some.injEq, Prod.mk.injEq] at h
        obtain ⟨rfl, rfl⟩ := h
        exact pure_clone27
      · split at h
        · rename_i v b mv hr
          simp only [Option.some.injEq, Prod.mk.injEq] at h
          obtain ⟨rfl, rfl⟩ := h
          exact (pure_sound mixedD (KZ_sound m) f27_ok (runFunC_ok hr)).2
        · cases h
      · cases h
    · -- Split
      refine ⟨by kernel_rfl, ?_⟩
      unfold c44 at h
      split at h
      · split at h
        · rename_i hl
          simp only [Option.some.injEq, Prod.mk.injEq] at h
          obtain ⟨rfl, rfl⟩ := h
          exact pure_Split Tryd.lays146 (by kernel_rfl) _ [46] m (by omega) (by decide) rfl
        · cases h
      · cases h
    · -- Canon
      refine ⟨by kernel_rfl, ?_⟩
      unfold c9 at h
      split at h
      · rename_i k n rows
        split at h
        · rename_i T hT
          split at h
          · rename_i hv
            obtain ⟨hd, hf⟩ := decTy_ok 9 _ _ hT
            obtain ⟨k', n', ls⟩ := T
            simp only [Ty.d, List.cons.injEq, D.int.injEq, D.str.injEq, D.sl.injEq, true_and, and_true] at hd
            obtain ⟨rfl, rfl, rfl⟩ := hd
            split at h
            · rename_i h12 h15
              split at h
              · rename_i px py pz
                simp only [Option.some.injEq, Prod.mk.injEq] at h
                obtain ⟨rfl, rfl⟩ := h
                rw [← hG]
                exact canon_closed hK (.mk k' n' ls) hf (List.isEmpty_iff.1 hv) h12 h15 px py pz
              · cases h
            · cases h
          · cases h
        · cases h
      · cases h
    · cases h
  · simp only [KS] at h ⊢
    unfold cEff at h
    split at h
    · refine ⟨by kernel_rfl, ?_⟩
      split at h
      · rename_i bytes hb
        obtain ⟨rfl, hl⟩ := eB_ok hb
        split at h
        · rename_i c _ hc
          simp only [Option.some.injEq, Prod.mk.injEq] at h
          obtain ⟨rfl, rfl, rfl⟩ := h
          have := eff_WriteByte (G := Gm m) tB_wb bytes (UInt8.ofNat c.toNat) (by omega)
          have e : ((UInt8.ofNat c.toNat).toNat : Int) = c := by
            rw [UInt8.toNat_ofNat']; omega
          rw [e] at this
          exact this
        · cases h
      · cases h
    · refine ⟨by kernel_rfl, ?_⟩
      split at h
      · rename_i bytes hb
        obtain ⟨rfl, hl⟩ := eB_ok hb
        split at h
        · simp only [Option.some.injEq, Prod.mk.injEq] at h
          obtain ⟨rfl, rfl, rfl⟩ := h
          exact eff_WriteString tB_ws bytes _ (by omega)
        · cases h
      · cases h
    · refine ⟨by kernel_rfl, ?_⟩
      split at h
      · rename_i bytes hb
        obtain ⟨rfl, hl⟩ := eB_ok hb
        simp only [Option.some.injEq, Prod.mk.injEq] at h
        obtain ⟨rfl, rfl, rfl⟩ := h
        exact eff_Len Tryd.lays170 bytes
      · cases h
    · refine ⟨by kernel_rfl, ?_⟩
      split at h
      · rename_i bytes hb
        obtain ⟨rfl, hl⟩ := eB_ok hb
        simp only [Option.some.injEq, Prod.mk.injEq] at h
        obtain ⟨rfl, rfl, rfl⟩ := h
        exact eff_String Tryd.lays169 Tryd.Builder_Extra_169 bytes
      · cases h
    · cases h
end Go.Vm
end

section
namespace Go.Vm
set_option maxRecDepth 100000
open Go.Proofs Go.RowKit

noncomputable def K1 (m : Int) : Cx := cxO (KS m (KZ m)) 60 TS 40
noncomputable def K2 (m : Int) : Cx := cxO (KS m (K1 m)) 60 TS 60
def tI : List D := [.int .i64 1, .str [], .sl 3 []]
def tF (a b : List D) : List D := [.int .i64 3, .str [], .sl 3 [a, b]]
def tL (a : List D) : List D := [.int .i64 4, .str [76, 105, 115, 116], .sl 3 [a]]
def vT (l : List D) : V := .agg (l.map (V.d false))
def szV (n e : Int) : Option (V × List Blk) := some (.tup [.d false (.int .i64 n), .d false (.int .i64 e)], [])
theorem sz0 (m : Int) : (K2 m).call 7 [vT tI] = szV 2 0 := by kernel_rfl
theorem sz1 (m : Int) : (K2 m).call 7 [vT (tL tI)] = szV 4 0 := by kernel_rfl
theorem sz2 (m : Int) : (K2 m).call 7 [vT (tF tI tI)] = szV 3 0 := by kernel_rfl
theorem sz3 (m : Int) : (K2 m).call 7 [vT (tF tI (tF tI tI))] = szV 6 0 := by kernel_rfl
theorem sz4 (m : Int) : (K2 m).call 7 [vT (tF (tF tI tI) tI)] = szV 4 0 := by kernel_rfl
theorem sz6 (m : Int) : (K2 m).call 7 [vT (tF (tL tI) tI)] = szV 5 0 := by kernel_rfl
theorem sz7 (m : Int) : (K2 m).call 7 [vT (tF tI (tL tI))] = szV 10 0 := by kernel_rfl
theorem sz10 (m : Int) : (K2 m).call 7 [vT (tL (tF tI tI))] = szV 4 0 := by kernel_rfl
theorem sz5 (m : Int) : (K2 m).call 7 [vT (tF tI (tF tI (tF tI tI)))] = szV 20 0 := by kernel_rfl
theorem sz8 (m : Int) : (K2 m).call 7 [vT (tF (tL tI) (tL tI))] = szV 35 0 := by kernel_rfl
theorem sz9 (m : Int) : (K2 m).call 7 [vT (tF tI (tF (tL tI) (tL tI)))] = szV 0 140 := by kernel_rfl
end Go.Vm
end

section
namespace Go.Vm
set_option maxRecDepth 100000
open Go.Proofs Go.RowKit

def tabS : List (V × (V × List Blk)) := [(vT tI, (.tup [.d false (.int .i64 2), .d false (.int .i64 0)], [])), (vT (tL tI), (.tup [.d false (.int .i64 4), .d false (.int .i64 0)], [])), (vT (tF tI tI), (.tup [.d false (.int .i64 3), .d false (.int .i64 0)], [])),
  (vT (tF tI (tF tI tI)), (.tup [.d false (.int .i64 6), .d false (.int .i64 0)], [])), (vT (tF (tF tI tI) tI), (.tup [.d false (.int .i64 4), .d false (.int .i64 0)], [])), (vT (tF tI (tF tI (tF tI tI))), (.tup [.d false (.int .i64 20), .d false (.int .i64 0)], [])),
  (vT (tF (tL tI) tI), (.tup [.d false (.int .i64 5), .d false (.int .i64 0)], [])), (vT (tF tI (tL tI)), (.tup [.d false (.int .i64 10), .d false (.int .i64 0)], [])), (vT (tF (tL tI) (tL tI)), (.tup [.d false (.int .i64 35), .d false (.int .i64 0)], [])),
  (vT (tF tI (tF (tL tI) (tL tI))), (.tup [.d false (.int .i64 0), .d false (.int .i64 140)], [])), (vT (tL (tF tI tI)), (.tup [.d false (.int .i64 4), .d false (.int .i64 0)], []))]
theorem K1_sound (m : Int) : (K1 m).Sound Tryd.prog := cxO_sound (KS_sound m (KZ_sound m) rfl) TS_ok (fun _ => rfl) 40
theorem K1_glob (m : Int) : (K1 m).glob = Gm m := cxO_glob _ _ _ _
theorem K2_sound (m : Int) : (K2 m).Sound Tryd.prog := cxO_sound (KS_sound m (K1_sound m) (K1_glob m)) TS_ok (fun _ => rfl) 60
theorem K2_glob (m : Int) : (K2 m).glob = Gm m := cxO_glob _ _ _ _
theorem tab_all (F : List V → Option (V × List Blk)) (h0 : F [vT tI] = szV 2 0) (h1 : F [vT (tL tI)] = szV 4 0) (h2 : F [vT (tF tI tI)] = szV 3 0) (h3 : F [vT (tF tI (tF tI tI))] = szV 6 0) (h4 : F [vT (tF (tF tI tI) tI)] = szV 4 0) (h5 : F [vT (tF tI (tF tI (tF tI tI)))] = szV 20 0) (h6 : F [vT (tF (tL tI) tI)] = szV 5 0) (h7 : F [vT (tF tI (tL tI))] = szV 10 0) (h8 : F [vT (tF (tL tI) (tL tI))] = szV 35 0) (h9 : F [vT (tF tI (tF (tL tI) (tL tI)))] = szV 0 140) (h10 : F [vT (tL (tF tI tI))] = szV 4 0) : ∀ q ∈ tabS, F [q.1] = some q.2 := by
  intro q hq
  simp only [tabS, List.mem_cons, List.not_mem_nil, or_false] at hq
  rcases hq with rfl | rfl | rfl | rfl | rfl | rfl | rfl | rfl | rfl | rfl | rfl
  · exact h0
  · exact h1
  · exact h2
  · exact h3
  · exact h4
  · exact h5
  · exact h6
  · exact h7
  · exact h8
  · exact h9
  · exact h10
theorem tab_ok (m : Int) : ∀ q ∈ tabS, (K2 m).call 7 [q.1] = some q.2 := tab_all _ (sz0 m) (sz1 m) (sz2 m) (sz3 m) (sz4 m) (sz5 m) (sz6 m) (sz7 m) (sz8 m) (sz9 m) (sz10 m)
def lookV : List (V × (V × List Blk)) → V → Option (V × List Blk)
  | [], _ => none
  | q :: l, v => if v.eqb q.1 then some q.2 else lookV l v
theorem lookV_ok : ∀ {l : List (V × (V × List Blk))} {v : V} {r : V × List Blk}, lookV l v = some r → ∃ q ∈ l, v = q.1 ∧ r = q.2
  | [], _, _, h => by cases h
  | q :: l, v, r, h => by
    simp only [lookV] at h
    split at h
    · rename_i he
      exact ⟨q, by simp, (V.eqb_ok he).1, (Option.some.inj h).symm⟩
    · obtain ⟨q', h1, h2⟩ := lookV_ok h
      exact ⟨q', List.mem_cons_of_mem _ h1, h2⟩
def c7 : FuncId → List V → Option (V × List Blk)
  | 7, [v] => lookV tabS v
  | _, _ => none
def KT (m : Int) : Cx := ⟨c7, fun _ _ _ => none, Gm m, fun _ => false⟩
theorem KT_sound (m : Int) : (KT m).Sound Tryd.prog := by
  refine ⟨fun f args r news h => ?_, fun f args r news h => (by cases h), fun f args blks r blks' mv h => (by cases h)⟩
  simp only [KT] at h ⊢
  unfold c7 at h
  split at h
  · obtain ⟨q, hq, rfl, hr⟩ := lookV_ok h
    have := (K2_sound m).pure 7 [q.1] q.2.1 q.2.2 (tab_ok m q hq)
    rw [K2_glob] at this
    rw [← hr] at this
    exact this
  · cases h
def T3 : List Row := [⟨3, 0, 0, f3⟩, ⟨4, 0, 0, f4⟩, ⟨5, 0, 1, f5⟩, ⟨6, 0, 2, f6⟩]
theorem T3_ok : ∀ r ∈ T3, funOk Go.Proofs.Tryd.prog r.f r.m r.n r.g = true := by
  intro r hr
  simp only [T3, List.mem_cons, List.not_mem_nil, or_false] at hr
  rcases hr with rfl | rfl | rfl | rfl
  · exact f3_ok
  · exact f4_ok
  · exact f5_ok
  · exact f6_ok
theorem sizes_ev (m : Int) : (cxK (KT m) 60 T3 6).call 3 [] = some (.bool true, []) := by kernel_rfl
theorem law_sizes (m : Int) : PureCall Tryd.prog (Gm m) 3 [] (.bool true) [] :=
  ((cxK_sound mixedD (KT_sound m) T3_ok (fun _ _ h => by cases h) 6).pure 3 [] _ _ (sizes_ev m)).2
end Go.Vm
end

section
namespace Go.Proofs.YtlabpphbiglofaaDoor.latticeSizes
open Go.ChangeShapes Go.WideShapes Go.ChangeAt Go.RowKit Go.Vm Go.ChangeMaps
set_option linter.unusedVariables false

theorem ownD : ownKnob Tryd.prog.godebug = none := by kernel_rfl
def laidL : List (String × DataW Unit) := [("math/bits.deBruijn32tab", Rows.laid_math_bits_deBruijn32tab), ("math/bits.deBruijn64tab", Rows.laid_math_bits_deBruijn64tab), ("internal/strconv.uint64pow10", Rows.laid_internal_strconv_uint64pow10), ("unicode/utf8.acceptRanges", Rows.laid_unicode_utf8_acceptRanges), ("unicode/utf8.first", Rows.laid_unicode_utf8_first)]
def flatN : Nat → DataW Unit → List Value
  | _, .lit (.int k n) => [.int k n]
  | n + 1, .agg ps => ps.flatMap (flatN n)
  | _, _ => []
def lay (g : Nat) (d : DataW Unit) (h : Array Obj) : Array Obj := h.modify g fun
  | .cells _ t frozen => .cells (flatN 3 d).toArray t frozen
  | o => o
noncomputable def laidWorld (os : Os) : World :=
  { World.holding Tryd.prog os ⟨#[], #[], []⟩ with heap := lay 5 Rows.laid_unicode_utf8_acceptRanges (lay 4 Rows.laid_unicode_utf8_first (lay 3 Rows.laid_math_bits_deBruijn64tab (lay 2 Rows.laid_math_bits_deBruijn32tab (lay 0 Rows.laid_internal_strconv_uint64pow10 (World.holding Tryd.prog os ⟨#[], #[], []⟩).heap)))) }
set_option maxRecDepth 100000 in
theorem laid_met (os : Os) (args : Array Value) : laidMet Tryd.prog laidL ((laidWorld os).forCall (fun _ _ => 0) ⟨#[], args, []⟩).memory :=
  (LaidIn.of_run [0, 2, 3, 4, 5] 8 (by kernel_rfl) (by kernel_rfl) (by kernel_rfl) (by kernel_rfl)).met

theorem int_of_shape {P : Program} {w : World} {g : Nat} {t : TypeId} {zero : Array Value} (h : w.ShapedOpen P) (hg : g < P.globals.size)
    (h0 : ((begin P (fun _ _ => 0) default).world.heap[g]?).bind Obj.row? = some (zero, t)) (hz : zero.size = 1)
    (hb : P.buildable t = true) (hc : P.cellTypes P.depth t = some [t]) (hu : P.underlying t = some (.int .i64)) : ∃ m : Int, w.heap[g]? = some (.cells #[.int .i64 m] t) := by
  obtain ⟨cs, hh, hs, hr⟩ := h.1 g zero t hg h0
  obtain ⟨ts, hts, _, hall⟩ := hr hb
  rw [hc] at hts
  cases hts
  rw [hz] at hs
  obtain ⟨l⟩ := cs
  match l, hs with
  | [x], _ =>
    obtain ⟨u, hu', hok⟩ := hall 0 x (by simp)
    have : u = t := by simpa using hu'.symm
    subst this
    unfold Cell.ok at hok
    rw [hu] at hok
    cases x with
    | int k n =>
      simp at hok
      first
        | (obtain ⟨rfl, _⟩ := hok; exact ⟨n, hh⟩)
        | (subst hok; exact ⟨n, hh⟩)
    | _ => simp at hok
theorem maxLen_is (W : World) (h : W.ShapedOpen Tryd.prog) : ∃ m : Int, W.heap[1]? = some (.cells #[.int .i64 m] 3) :=
  int_of_shape (zero := #[.int .i64 0]) h (of_decide_eq_true (by kernel_rfl)) (by kernel_rfl) rfl (by kernel_rfl) (by kernel_rfl) Tryd.underlying3

theorem glob_is (W : World) (m : Int) (h : W.heap[1]? = some (.cells #[.int .i64 m] 3)) : GlobRel W (There W) (Gm m) := by
  intro g cells hg
  unfold Gm at hg
  split at hg
  · rename_i hg1
    subst hg1
    obtain rfl := Option.some.inj hg
    rw [if_neg (by simp [isHandle])]
    refine ⟨.ptr 1 0 _ (fun _ => .int .i64 m) ?_ (fun j d hd => ?_) (fun j d hd => ?_), _, _, _, h, rfl⟩
    · exact (Array.getElem?_eq_some_iff.1 h).1
    · match j, hd with
      | 0, hd => simp [World.cell?, h]
      | j + 1, hd => simp at hd
    · match j, hd with
      | 0, hd => simp at hd; subst hd; exact .int _ _
      | j + 1, hd => simp at hd
  · cases hg

theorem post_below {H : Type} {enc : TypeId × Value → H} {P : Program} {f : Func} {s : ChangeSpec} {apart fresh handsOn again : Bool} {W W' : World} {args : Array Value} {v : Value} {ds gs : List (DataW H)} {before : List MemPlace}
    (hW : DataW.Whole enc P f.params.toList s.vars apart W args.toList ds gs before) (hb : Below W.heap.size W W')
    (hres : ∀ (b : Nat) (sp : Nat → Bool) (hd : Bool), DataW.TrodAll enc P W' b sp hd f.resultTypes.toList (v.resultList f.resultTypes.size) (s.fn H (ds ++ gs)).results [])
    (hargs : ∀ sp : Nat → Bool, (∀ p ∈ before, sp p.block = true) → DataW.TrodAll enc P W' 0 sp true f.params.toList args.toList (s.fn H (ds ++ gs)).args before)
    (hvars : ∀ sp : Nat → Bool, DataW.TrodVars enc P W' sp s.vars (s.fn H (ds ++ gs)).vars [])
    (hok : ∀ (j : Nat) (t : TypeId) (r : Value), f.resultTypes[j]? = some t → (v.resultList f.resultTypes.size)[j]? = some r → Value.okWide P W' .any 0 t r) :
    s.post enc P f apart fresh handsOn again W args v W' := by
  have hlt := hW.lt
  have hsp : ∀ p ∈ before, (fun b => decide (b < W.heap.size)) p.block = true := fun p hp => decide_eq_true (hlt p hp)
  have all := trodAll_append (hargs (fun _ => true) (fun _ _ => rfl)) (hres 0 (fun _ => true) true)
  rw [List.nil_append] at all
  obtain ⟨_, _, _, _, _, hz, hn⟩ := id hW
  refine ⟨ds, gs, before, [], before, [], hW, hres _ _ _, hargs _ hsp, hvars _, hb.frame _, fun _ => ⟨hok, _, _, before, ⟨before, [], all, hvars _, by simp, fun b off hp => ?_, hn⟩, fun p hp _ => hp⟩⟩
  rw [hb.frozen (hlt _ hp)]
  exact hz b off hp

set_option maxRecDepth 100000 in
theorem contract (H : Type) (enc : TypeId × Value → H) (W : World) (base : Nat) (args : Array Value) (ds gs : List (DataW H)) (before : List MemPlace)
    (hW : DataW.Whole enc Tryd.prog Tryd.f3.params.toList Rows.latticeSizesSpec.vars false W args.toList ds gs before) (hS : W.ShapedOpen Tryd.prog) :
    Calls Tryd.prog 3 args W fun e W' => ∃ v, e = .returned v ∧ Rows.latticeSizesSpec.post enc Tryd.prog Tryd.f3 false true false false W args v W' := by
  have hW' := hW
  obtain ⟨p, q, hA0, hV, rfl, hfz, hnd⟩ := hW
  have hA : DataW.TrodAll enc Tryd.prog W 0 (fun _ => true) true Tryd.f3.params.toList args.toList ds p := hA0
  rw [Tryd.params3] at hA
  obtain ⟨h1, rfl, rfl⟩ := trodAll_nil hA
  obtain rfl : args = #[] := by cases args; simp_all
  obtain ⟨rfl, rfl⟩ := trodVars_none hV
  obtain ⟨m, hm⟩ := maxLen_is W hS
  have hcall := law_sizes m W (There W) #[] (fun b h => h) (glob_is W m hm) ⟨rfl, fun j v x hv hx => by simp at hv⟩
  refine hcall.mono fun e W' ⟨v, F', σ', he, hbel, _, hR, _⟩ => ?_
  have hv := hR.bool_inv
  subst hv
  subst he
  exact ⟨_, rfl, post_below hW' hbel (fun _ _ _ => (trodAll_cons_mk (shut_bool Tryd.underlying4 _) trodAll_mk0)) (fun sp _ => trodAll_mk0) (fun _ => rfl) (ok_one (by kernel_rfl) rfl (okWide_bool_mk Tryd.underlying4 _))⟩

theorem reads (os : Os) {H : Type} (enc : TypeId × Value → H) : ∃ places, DataW.whole enc Tryd.prog ((laidWorld os).forCall (fun _ _ => 0) ⟨#[], #[], []⟩).memory Tryd.f3.params.toList Rows.latticeSizesSpec.vars false (#[] : Array Value).toList 8 = some ([], [], places) :=
  ⟨[], by kernel_rfl⟩

set_option maxRecDepth 100000 in
theorem lifted (os : Os) (started : os.Started) (H : Type) (enc : TypeId × Value → H) (F : Stop.Interp) :
    ReturnsInHanded {} Tryd.checked os 3 .any ((OpenSpec.ofChange Rows.latticeSizesSpec).preRow enc Tryd.prog Tryd.f3 Rows.latticeSizesRow.domain false Rows.latticeSizesRow.laid) (((OpenSpec.ofChange Rows.latticeSizesSpec).at F).post enc Tryd.prog Tryd.f3 false true false false) := by
  obtain ⟨places, hx⟩ := reads os enc
  refine returnsInHanded_of_row (C := Tryd.checked) (s := OpenSpec.ofChange Rows.latticeSizesSpec) ownD started (by kernel_rfl) Tryd.func3
    (witness_row_at (enc := enc) (C := Tryd.checked) false (laidWorld os) #[] rfl (by kernel_rfl) (by kernel_rfl) (by kernel_rfl)
      (OpenSpec.preRow_of_cond 8 hx (by kernel_rfl) (fun k hk => by cases hk) (by kernel_rfl) (laid_met os #[]))) ?_
  intro W base args ds gs before hval hW _ hcond _ hL hS _
  exact contract H enc W base args ds gs before hW hS

theorem said : Rows.LatticeSizesSaid :=
  OpenClaim.holds_of_cond 3 Tryd.f3 rfl rfl rfl rfl rfl rfl rfl ⟨rfl, rfl, rfl, rfl, rfl⟩ rfl rfl rfl rfl rfl (by kernel_rfl) Tryd.func3 (by kernel_rfl)
    (of_decide_eq_true (by kernel_rfl)) (by unfold Func.isWrapper; first | (rw [if_pos (by decide +kernel)]; kernel_rfl) | (rw [if_neg (by decide +kernel)]; exact ⟨rfl, rfl⟩))
    (fun os started H enc _ F => by rw [OpenClaim.pre_eq_preRow]; exact lifted os started H enc F)

theorem plain (f : FuncId) (fn : Func) (hf : Tryd.pinned.checked.prog.funcNamed "sloth/slothlaw14.LatticeSizes" = some f) (hfn : Tryd.pinned.checked.prog.funcs[f]? = some fn) :
    false = Tryd.pinned.checked.prog.looks [] ∧ ∀ (j : Nat) t, fn.params[j]? = some t → Tryd.pinned.checked.prog.wantsStandIn t = false := by
  obtain rfl : f = 3 := Option.some.inj ((show Tryd.prog.funcNamed "sloth/slothlaw14.LatticeSizes" = some 3 by kernel_rfl).symm.trans hf) |>.symm
  obtain rfl : fn = Tryd.f3 := (Option.some.inj (Tryd.func3.symm.trans hfn)).symm
  refine ⟨by kernel_rfl, fun j t ht => ?_⟩
  rw [Tryd.params3] at ht
  simp at ht

theorem card : Rows.LatticeSizesCardSaid :=
  Claim7.holds_tied_plain_at .later [] _ _ _ _ said (fun _ h => by cases h) (by kernel_rfl) (fun _ h => by cases h) latticeSizes_row_tie rfl ⟨rfl, rfl⟩ (by kernel_rfl) rfl plain (by kernel_rfl)
#print axioms card
end Go.Proofs.YtlabpphbiglofaaDoor.latticeSizes
end
