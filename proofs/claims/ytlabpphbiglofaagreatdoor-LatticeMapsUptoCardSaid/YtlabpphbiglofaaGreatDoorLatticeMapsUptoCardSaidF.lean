/-
  LatticeMaps comes to true, whatever the input (of bulk at most 1048576); the input reads as it did.
 Conditions: the listed package-level tables read as the program's text lays them (tied by the card).
-/
import Derived.Test.YtlabpphbiglofaaGreatDoorLatticeMapsUptoCardSaidE
import Derived.Test.YtlabpphbiglofaaGreatDoorCards
import Derived.Test.YtlabpphbiglofaaGreatDoorTie
set_option linter.unusedVariables false
set_option linter.unusedSimpArgs false

section
namespace Go.Proofs.YtlabpphbiglofaaGreatDoor.latticeMaps
open Go.ChangeShapes Go.WideShapes Go.ChangeAt Go.RowKit Go.Vm Go.ChangeMaps
set_option linter.unusedVariables false
theorem bulk4 {H:Type} {a b c d:DataW H} (h:Rows.uptoSmall H ([a,b,c,d]++[])=true):Rows.uptoBulk a≤1048576:=by
 have h:=of_decide_eq_true h
 simp only [List.append_nil,Rows.uptoBulkAll,Nat.add_zero] at h
 omega
set_option maxRecDepth 100000 in
theorem contract (H:Type) (enc:TypeId×Value→H) (W:World) (base:Nat) (args:Array Value) (ds gs:List (DataW H)) (before:List MemPlace)
  (hval:∀ (j:Nat) t v,Tryz.f5.params[j]? = some t→args[j]? = some v→Value.okWide Tryz.prog W .any base t v)
  (hW:DataW.Whole enc Tryz.prog Tryz.f5.params.toList Rows.latticeMapsSpec.vars false W args.toList ds gs before) (hk:Rows.uptoSmall H (ds++gs)=true) (hL:laidMetH Tryz.prog laidLz W) (hS:W.ShapedOpen Tryz.prog) :
  Calls Tryz.prog 5 args W fun e W'=>∃ v,e=.returned v∧Rows.latticeMapsSpec.post enc Tryz.prog Tryz.f5 false true false false W args v W':=by
 have hW':=hW
 obtain ⟨p,q,hA0,hV,rfl,hfz,hnd⟩:=hW
 have hA:DataW.TrodAll enc Tryz.prog W 0 (fun _=>true) true Tryz.f5.params.toList args.toList ds p:=hA0
 rw [Tryz.params5] at hA hval
 obtain ⟨v0,vs0,d0,ds0,p0,q0,hargs,rfl,rfl,h0,r0⟩:=trodAll_cons hA
 obtain ⟨v1,vs1,d1,ds1,p1,q1,rfl,rfl,rfl,h1,r1⟩:=trodAll_cons r0
 obtain ⟨v2,vs2,d2,ds2,p2,q2,rfl,rfl,rfl,h2,r2⟩:=trodAll_cons r1
 obtain ⟨v3,vs3,d3,ds3,p3,q3,rfl,rfl,rfl,h3,r3⟩:=trodAll_cons r2
 obtain ⟨rfl,rfl,rfl⟩:=trodAll_nil r3
 obtain rfl:args = #[v0,v1,v2,v3]:=by cases args;simp_all
 obtain ⟨rfl,rfl⟩:=trodVars_none hV
 obtain ⟨n1,rfl,rfl,rfl,g1⟩:=open_int Tryz.underlying3 (hval 1 3 v1 rfl rfl) h1
 obtain ⟨n2,rfl,rfl,rfl,g2⟩:=open_int Tryz.underlying3 (hval 2 3 v2 rfl rfl) h2
 obtain ⟨n3,rfl,rfl,rfl,g3⟩:=open_int Tryz.underlying3 (hval 3 3 v3 rfl rfl) h3
 clear hA0
 simp only [List.append_nil] at hW'
 have hb:=bulk4 hk
 obtain ⟨nn,dl,hty,hr0⟩:=arg_repT isT_ok bulk_ok hb (by decide) (hval 0 24 v0 rfl rfl) h0 (base:=W.heap.size)
 obtain ⟨t,rfl,ht⟩:=typed_ty nn _ hty
 have ha:argV (aggOf Tryz.prog 24) t.d=tyW t:=by
  have:aggOf Tryz.prog 24=true:=by kernel_rfl
  rw [this]
  obtain ⟨k,nm,l⟩:=t
  simp [argV,Ty.d,tyW,dL_map]
 rw [ha] at hr0
 obtain ⟨m,hG⟩:=glob_of_laidz hL hS
 have hcall:=law_maps (gz_ok m) t ht n1 n2 n3 W (There W) #[v0,.int .i64 n1,.int .i64 n2,.int .i64 n3] (fun b h=>h) hG ⟨rfl,fun j v x hv hx=>by
  match j,hv,hx with
  | 0,hv,hx=>simp at hv hx;subst hv;subst hx;exact hr0
  | 1,hv,hx=>simp at hv hx;subst hv;subst hx;exact .d _ _ _ (.int _ _)
  | 2,hv,hx=>simp at hv hx;subst hv;subst hx;exact .d _ _ _ (.int _ _)
  | 3,hv,hx=>simp at hv hx;subst hv;subst hx;exact .d _ _ _ (.int _ _)
  | j+4,hv,hx=>simp at hv⟩
 refine hcall.mono fun e W' ⟨v,F',σ',he,hbel,_,hR,_⟩=>?_
 have hv:=hR.bool_inv
 subst hv
 subst he
 have hlt:∀ x∈p0,x.block < W.heap.size:=fun x hx=>hW'.lt x (by simp [hx])
 exact ⟨_,rfl,post_below hW' hbel (fun _ _ _=>(trodAll_cons_mk (shut_bool Tryz.underlying4 _) trodAll_mk0))
  (fun sp hsp=>by
   have:=trodAll_cons_mk (WideElems.Trod_stays laidOutZ (by kernel_rfl) (of_decide_eq_true (by kernel_rfl)) h0 (fun x hx=>hbel.same (hlt x hx)) (fun x hx=>hsp x (by simp [hx])))
    (trodAll_cons_mk (shut_int Tryz.underlying3 g1) (trodAll_cons_mk (shut_int Tryz.underlying3 g2) (trodAll_cons_mk (shut_int Tryz.underlying3 g3) trodAll_mk0)))
   have this':DataW.TrodAll enc Tryz.prog W' 0 sp true [24,3,3,3] [v0,.int .i64 n1,.int .i64 n2,.int .i64 n3] [d0,.lit (.int .i64 n1),.lit (.int .i64 n2),.lit (.int .i64 n3)] p0:=by simpa using this
   simpa [Rows.latticeMapsSpec] using this')
  (fun _=>rfl) (ok_one (by kernel_rfl) rfl (okWide_bool_mk Tryz.underlying4 _))⟩
def wargs:Array Value:=#[.agg #[.int .i64 1,.string ⟨#[]⟩,.slice none 0 0],.int .i64 0,.int .i64 0,.int .i64 0]
theorem reads (os:Os) {H:Type} (enc:TypeId×Value→H):∃ places,DataW.whole enc Tryz.prog ((laidWorldz os).forCall (fun _ _=>0) ⟨#[],wargs,[]⟩).memory Tryz.f5.params.toList Rows.latticeMapsSpec.vars false wargs.toList 8=some ([.agg [.lit (.int .i64 1),.lit (.string []),.nil],.lit (.int .i64 0),.lit (.int .i64 0),.lit (.int .i64 0)],[],places):=
 ⟨[],by kernel_rfl⟩
set_option maxRecDepth 100000 in
theorem liftedUpto (os:Os) (started:os.Started) (H:Type) (enc:TypeId×Value→H) (F:Stop.Interp) :
  ReturnsInHanded {} Tryz.checked os 5 .any ((Rows.OpenSpec.upto Rows.latticeMapsSpec).preRow enc Tryz.prog Tryz.f5 Rows.latticeMapsUptoRow.domain false Rows.latticeMapsUptoRow.laid) (((Rows.OpenSpec.upto Rows.latticeMapsSpec).at F).post enc Tryz.prog Tryz.f5 false true false false):=by
 obtain ⟨places,hx⟩:=reads os enc
 refine returnsInHanded_of_row (C:=Tryz.checked) (s:=Rows.OpenSpec.upto Rows.latticeMapsSpec) ownZ started (by kernel_rfl) Tryz.func5
  (witness_row_at (enc:=enc) (C:=Tryz.checked) false (laidWorldz os) wargs rfl (by kernel_rfl) (by kernel_rfl) (by kernel_rfl)
   (OpenSpec.preRow_of_cond 8 hx (by kernel_rfl) (fun k hk=>by cases hk;kernel_rfl) (by kernel_rfl) (laid_metz os wargs))) ?_
 intro W base args ds gs before hval hW _ hcond _ hL hS _
 exact contract H enc W base args ds gs before hval hW (hcond _ rfl) hL hS
theorem saidUpto:Rows.LatticeMapsUptoSaid:=
 OpenClaim.holds_of_cond 5 Tryz.f5 rfl rfl rfl rfl rfl rfl rfl ⟨rfl,rfl,rfl,rfl,rfl⟩ rfl rfl rfl rfl rfl (by kernel_rfl) Tryz.func5 (by kernel_rfl)
  (of_decide_eq_true (by kernel_rfl)) (by unfold Func.isWrapper;first | (rw [if_pos (by decide +kernel)];kernel_rfl) | (rw [if_neg (by decide +kernel)];exact ⟨rfl,rfl⟩))
  (fun os started H enc _ F=>by rw [OpenClaim.pre_eq_preRow];exact liftedUpto os started H enc F)
theorem plain (f:FuncId) (fn:Func) (hf:Tryz.pinned.checked.prog.funcNamed "sloth/slothlaw14.LatticeMaps" = some f) (hfn:Tryz.pinned.checked.prog.funcs[f]? = some fn) :
  false=Tryz.pinned.checked.prog.looks []∧∀ (j:Nat) t,fn.params[j]? = some t→Tryz.pinned.checked.prog.wantsStandIn t=false:=by
 obtain rfl:f=5:=Option.some.inj ((show Tryz.prog.funcNamed "sloth/slothlaw14.LatticeMaps" = some 5 by kernel_rfl).symm.trans hf) |>.symm
 obtain rfl:fn=Tryz.f5:=(Option.some.inj (Tryz.func5.symm.trans hfn)).symm
 refine ⟨by kernel_rfl,fun j t ht=>?_⟩
 rw [Tryz.params5] at ht
 have h24:Tryz.prog.wantsStandIn 24=false:=by kernel_rfl
 have h3:Tryz.prog.wantsStandIn 3=false:=by kernel_rfl
 match j,ht with
 | 0,ht=>simp at ht;subst ht;exact h24
 | 1,ht=>simp at ht;subst ht;exact h3
 | 2,ht=>simp at ht;subst ht;exact h3
 | 3,ht=>simp at ht;subst ht;exact h3
 | j+4,ht=>simp at ht
theorem cardUpto:Rows.LatticeMapsUptoCardSaid:=
 Claim7.holds_tied_plain_at .later [] _ _ _ _ saidUpto (fun _ h=>by cases h) (by kernel_rfl) (fun _ h=>by cases h) latticeMapsUpto_row_tie rfl ⟨rfl,rfl⟩ (by kernel_rfl) rfl plain (by kernel_rfl)
#print axioms cardUpto
end Go.Proofs.YtlabpphbiglofaaGreatDoor.latticeMaps
end
