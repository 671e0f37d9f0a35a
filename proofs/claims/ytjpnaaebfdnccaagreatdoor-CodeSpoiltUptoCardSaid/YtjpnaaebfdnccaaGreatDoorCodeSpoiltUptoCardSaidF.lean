/-
  CodeSpoilt comes to true, whatever it is told (of bulk at most 1048576); the input reads as it did.
 Conditions: the listed package-level tables read as the program's text lays them (tied by the card).
-/
import Derived.Test.YtjpnaaebfdnccaaGreatDoorCodeSpoiltUptoCardSaidE
import Derived.Test.YtjpnaaebfdnccaaGreatDoorRows
import Derived.ProofKit
import Derived.OpenShut
import Derived.Deep.DeepHandedRow
import Derived.Lib.LaidTab
import Derived.Lib.LaidIn
import Derived.ChangeMaps5
import Derived.LaidHandle
import Derived.Test.YtjpnaaebfdnccaaGreatDoorCards
import Derived.Test.YtjpnaaebfdnccaaGreatDoorTie
set_option linter.unusedVariables false
set_option linter.unusedSimpArgs false

section
namespace Go.Vm
open Go.Proofs Go.Proofs.YtjpnaaebfdnccaaGreatDoor
set_option maxRecDepth 100000
theorem z4A{H:Type}{d:DataW H}{l:List (DataW H)}(h:d∈l):Rows.uptoBulk d≤Rows.uptoBulkAll l:=by
  induction l with
  |nil=>cases h
  |cons x r ih=>
    simp only[Rows.uptoBulkAll]
    cases List.mem_cons.1 h with
    |inl e=>subst e;omega
    |inr e=>have:=ih e;omega
theorem j06{H:Type}(d:DataW H):1≤Rows.uptoBulk d:=by
  cases d with
  |lit l=>cases l <;> simp [Rows.uptoBulk]
  |nil=>simp [Rows.uptoBulk]
  |ptr d=>simp [Rows.uptoBulk]
  |slice elems spare=>simp [Rows.uptoBulk]
  |agg parts=>simp [Rows.uptoBulk]
  |iface t d=>simp [Rows.uptoBulk]
  |map entries=>simp [Rows.uptoBulk]
  |held h=>simp [Rows.uptoBulk]
theorem j07{H:Type}(l:List (DataW H)):l.length≤Rows.uptoBulkAll l:=by
  induction l with
  |nil=>simp [Rows.uptoBulkAll]
  |cons x r ih=>have:=j06 x;simp only[Rows.uptoBulkAll,List.length_cons];omega
theorem q9o{H:Type}:BulkOk (Rows.uptoBulk (H:=H)):=
  ⟨fun l=>by simp only[Rows.uptoBulk];omega,fun elems spare=>⟨by have:=j07 elems;simp only[Rows.uptoBulk];omega,fun e he=>by have:=z4A he;simp only[Rows.uptoBulk];omega⟩,
   fun parts e he=>by have:=z4A he;simp only[Rows.uptoBulk];omega⟩
structure SmN(t:Table):Prop where
  sm:Sm t
  sn:∀ s∈t.shapes,s.name.length≤1048576
  gn:∀ g∈t.globals,g.name.length≤1048576
theorem q23{n:Nat}{ds:List D}(h:q1q Tryz.prog 1048576 (n+1) 3 ds):∃ m,ds=[.int .i64 m]∧I64 m:=by
  simp only[q1q,Tryz.underlying3] at h
  obtain⟨m,h1,h2⟩:=h
  exact⟨m,h1,j4g h2⟩
theorem q9H{n:Nat}{ds:List D}(h:q1q Tryz.prog 1048576 (n+1) 9 ds):∃ s,ds=[.str s]∧s.length≤1048576:=by
  simp only[q1q,Tryz.underlying9] at h
  exact h
theorem z1a{n:Nat}{ds:List D}(h:q1q Tryz.prog 1048576 (n+2) 53 ds):∃ x,ds=q0J x∧InI x:=by
  rw[q1q] at h
  simp only[Tryz.underlying53,q7O] at h
  obtain⟨a,r,rfl,_,h1,b,r2,rfl,_,h2,c,r3,rfl,_,h3,rfl⟩:=h
  obtain⟨x,rfl,hx⟩:=q23 h1
  obtain⟨y,rfl,hy⟩:=q23 h2
  obtain⟨z,rfl,hz⟩:=q23 h3
  exact⟨⟨x,y,z⟩,rfl,⟨hx,hy,hz⟩⟩
theorem z09{n:Nat}{ds:List D}(h:q1q Tryz.prog 1048576 (n+2) 62 ds):∃ x,ds=q0k x∧InS x∧x.name.length≤1048576:=by
  rw[q1q] at h
  simp only[Tryz.underlying62,q7O] at h
  obtain⟨a,r,rfl,_,h1,b,r2,rfl,_,h2,rfl⟩:=h
  obtain⟨x,rfl,hx⟩:=q9H h1
  obtain⟨y,rfl,hy⟩:=q23 h2
  exact⟨⟨x,y⟩,rfl,⟨by simp only;omega,hy⟩,hx⟩
theorem z2Q{n:Nat}{ds:List D}(h:q1q Tryz.prog 1048576 (n+3) 48 ds):∃ l:List Instr,ds=[.sl 3 (l.map q0J)]∧l.length≤1048576∧∀ x∈l,InI x:=by
  rw[q1q] at h
  simp only[Tryz.underlying48,j3e] at h
  obtain⟨rows,rfl,hl,hr⟩:=h
  obtain⟨l,rfl,h2⟩:=q6d (e:=q0J) (Q:=InI) rows (fun r h=>z1a (hr r h).2)
  rw[List.length_map] at hl
  exact⟨l,rfl,hl,h2⟩
theorem z2P{n:Nat}{ds:List D}(h:q1q Tryz.prog 1048576 (n+4) 50 ds):∃ x,ds=q00 x∧InG x∧x.name.length≤1048576∧x.code.length≤1048576:=by
  rw[q1q] at h
  simp only[Tryz.underlying50,q7O] at h
  obtain⟨a,r,rfl,_,h1,b,r2,rfl,_,h2,c,r3,rfl,_,h3,rfl⟩:=h
  obtain⟨x,rfl,hx⟩:=q9H h1
  obtain⟨y,rfl,hy⟩:=q23 h2
  obtain⟨z,rfl,hz,hz2⟩:=z2Q h3
  exact⟨⟨x,y,z⟩,rfl,⟨by simp only;omega,hy,by simp only;omega,hz2⟩,hx,hz⟩
theorem z08{n:Nat}{ds:List D}(h:q1q Tryz.prog 1048576 (n+6) 25 ds):∃ t:Table,ds=[.sl 2 (t.shapes.map q0k),.sl 3 (t.globals.map q00)]∧InT t∧SmN t:=by
  rw[q1q] at h
  simp only[Tryz.underlying25,q7O] at h
  obtain⟨a,r,rfl,_,h1,b,r2,rfl,_,h2,rfl⟩:=h
  rw[q1q] at h1 h2
  simp only[Tryz.underlying22,Tryz.underlying23,j3d,j3f] at h1 h2
  obtain⟨rows,rfl,hl,hr⟩:=h1
  obtain⟨rows2,rfl,hl2,hr2⟩:=h2
  obtain⟨l,rfl,h3⟩:=q6d (e:=q0k) (Q:=fun x=>InS x∧x.name.length≤1048576) rows (fun r h=>z09 (hr r h).2)
  obtain⟨l2,rfl,h4⟩:=q6d (e:=q00) (Q:=fun x=>InG x∧x.name.length≤1048576∧x.code.length≤1048576) rows2 (fun r h=>z2P (hr2 r h).2)
  rw[List.length_map] at hl hl2
  exact⟨⟨l,l2⟩,rfl,⟨by simp only;omega,by simp only;omega,fun s hs=>(h3 s hs).1,fun g hg=>(h4 g hg).1⟩,⟨⟨hl,hl2,fun g hg=>(h4 g hg).2.2⟩,fun s hs=>(h3 s hs).2,fun g hg=>(h4 g hg).2.1⟩⟩
end Go.Vm
end

section
namespace Go.Vm
open Go.Proofs
set_option maxRecDepth 100000
theorem j4Z:Tryz.prog.cellsOf 5=1:=by kernel_rfl
theorem u8_wf{n:Int}(h:(Lit.int .u8 n).wf=true):0≤n∧n≤255:=by
 simp only[Lit.wf,Bool.and_eq_true,decide_eq_true_eq] at h
 have e1:IntKind.u8.min=0:=by decide
 have e2:IntKind.u8.max=255:=by decide
 rw[e1,e2] at h
 exact h
theorem z07{n:Nat}{ds:List D}(h:q1q Tryz.prog 1048576 (n+1) 5 ds):∃ m:UInt8,ds=eU m:=by
 simp only[q1q,Tryz.underlying5] at h
 obtain⟨m,rfl,h2⟩:=h
 have:=u8_wf h2
 refine⟨UInt8.ofNat m.toNat,?_⟩
 rw[z88 (by omega)]
 congr 2
 omega
theorem z1b{n:Nat}{ds:List D}(h:q1q Tryz.prog 1048576 (n+2) 40 ds):∃ l:Bs,ds=[.sl 1 (l.map eU)]∧l.length≤1048576:=by
 rw[q1q] at h
 simp only[Tryz.underlying40,j4Z] at h
 obtain⟨rows,rfl,hl,hr⟩:=h
 obtain⟨l,rfl,_⟩:=q6d (e:=eU) (Q:=fun _=>True) rows (fun r h=>by
  obtain⟨m,hm⟩:=z07 (hr r h).2
  exact⟨m,hm,trivial⟩)
 rw[List.length_map] at hl
 exact⟨l,rfl,hl⟩
theorem j3N:q4r Tryz.prog 1 5=true:=by kernel_rfl
theorem j2f:q4r Tryz.prog 2 40=true:=by kernel_rfl
end Go.Vm
end

section
namespace Go.Vm
open Go.ChangeShapes Go.WideShapes Go.ChangeAt Go.RowKit Go.Proofs Go.Proofs.YtjpnaaebfdnccaaGreatDoor
set_option linter.unusedVariables false
set_option maxRecDepth 100000
theorem ownZ:ownKnob Tryz.prog.godebug=none:=by kernel_rfl
theorem q6t:laidOutB Tryz.prog=true:=by kernel_rfl
def z3g:List (String×DataW Unit):=[("math/bits.deBruijn32tab",Rows.laid_math_bits_deBruijn32tab),("math/bits.deBruijn64tab",Rows.laid_math_bits_deBruijn64tab),("internal/strconv.uint64pow10",Rows.laid_internal_strconv_uint64pow10),("unicode/utf8.acceptRanges",Rows.laid_unicode_utf8_acceptRanges),("strconv.ErrRange",Rows.laid_strconv_ErrRange),("strconv.ErrSyntax",Rows.laid_strconv_ErrSyntax),("unicode/utf8.first",Rows.laid_unicode_utf8_first)]
def j5c(P:Program)(w:World)(n:String)(d:DataW Unit):Prop:=
 ∃ g t cs fuel p,P.globalNamed n=some g∧(P.globals[g]?).map (·.type)=some t∧w.var? P n=some cs∧DataW.trod (fun _=>()) P w 0 (fun _=>true) false fuel t cs.toList=some (d,p)
theorem z3T{P:Program}{w:World}:∀ {l:List (String×DataW Unit)}{ps:List MemPlace},DataW.LaidVars P w l ps→∀ n d,(n,d)∈l→j5c P w n d
 |[],_,_,_,_,hm=>by cases hm
 |(n',d') :: r,ps,h,n,d,hm=>by
  obtain⟨g,t,cs,fuel,p,q,h1,h2,h3,h4,h5,_⟩:=h
  rcases List.mem_cons.1 hm with e|e
  ·cases e
   exact⟨g,t,cs,fuel,p,h1,h2,h3,h4⟩
  ·exact z3T h5 n d e
theorem z1g{P:Program}{W:World}{name:String}{k:IntKind}{zs:List Int}{g:Nat}{t e:TypeId}{n:Nat}
  (hg:P.globalNamed name=some g) (hty:(P.globals[g]?).map (·.type)=some t) (ht:P.underlying t=some (.array n e)) (he:P.underlying e=some (.int k)) (hce:P.cellsOf e=1) (hct:P.cellsOf t=n)
  (h:j5c P W name (Lib.tabData k zs)):Lib.TabIs P W name k zs:=by
 obtain⟨g',t',cs,fuel,p,hg',ht',hvar,hd⟩:=h
 obtain rfl:=Option.some.inj (hg.symm.trans hg')
 obtain rfl:=Option.some.inj (hty.symm.trans ht')
 unfold Lib.TabIs
 rw[hvar,←Lib.cells_of_tab ht he hce hct hd]
theorem gP10T:(Tryz.prog.globals[0]?).map (·.type)=some 167:=by kernel_rfl
theorem j2i:(Rows.laid_internal_strconv_uint64pow10:DataW Unit)=Lib.tabData .u64 Lib.pow10Tab:=by kernel_rfl
theorem z3n{W:World}{name:String}{k:IntKind}{zs:List Int}{g:Nat}(h:Lib.TabIs Tryz.prog W name k zs)(hg:Tryz.prog.globalNamed name=some g) :
  RepD W (z2B W) (.pointer (some ⟨g,0,none⟩)) (.ptr (zs.map fun z=>.int k z))∧∃ cs t fz,W.heap[g]? = some (.cells cs t fz)∧cs.size=(zs.map fun z=>D.int k z).length:=by
 have hb:∃ cs t fz,W.heap[g]? = some (.cells cs t fz)∧cs.size=(zs.map fun z=>D.int k z).length:=by
  unfold Lib.TabIs World.var? at h
  rw[hg] at h
  replace h:(match W.heap[g]? with|some (.cells cs _ _)=>some cs|_=>none)=some (zs.map fun z=>Value.int k z).toArray:=h
  split at h
  ·rename_i cs t fz hh
   obtain rfl:=Option.some.inj h
   exact⟨_,t,fz,hh,by simp⟩
  ·cases h
 refine⟨?_,hb⟩
 obtain⟨cs,t,fz,hh,hsz⟩:=hb
 refine .ptr g 0 _ (fun j=>.int k (zs.getD j 0)) ?_ (fun j d hd=>?_) (fun j d hd=>?_)
 ·show g<W.heap.size
  rcases Nat.lt_or_ge g W.heap.size with h'|h'
  ·exact h'
  ·simp [Array.getElem?_eq_none h'] at hh
 ·have hj:j<zs.length:=by
   rcases Nat.lt_or_ge j zs.length with h'|h'
   ·exact h'
   ·rw[List.getElem?_eq_none (by simpa using h')] at hd;cases hd
  rw[Nat.zero_add]
  exact h.cell hg j hj
 ·rw[List.getElem?_map,Option.map_eq_some_iff] at hd
  obtain⟨z,hz,rfl⟩:=hd
  have:zs.getD j 0=z:=by rw[List.getD_eq_getElem?_getD,hz];rfl
  rw[this]
  exact .int k z
theorem z0F{W:World}(h:laidMetH Tryz.prog z3g W):GlobRel W (z2B W) GT:=by
 have h':laidMet Tryz.prog z3g W:=h
 obtain⟨ps,hv,_⟩:laidMet Tryz.prog z3g W:=h'
 have h0:=z3T hv "internal/strconv.uint64pow10" Rows.laid_internal_strconv_uint64pow10 (by simp [z3g])
 rw[j2i] at h0
 have t0:=z1g gP10 gP10T Tryz.underlying167 Tryz.underlying105 (by kernel_rfl) (by kernel_rfl) h0
 intro g cells hg
 match g,hg with
 |0,hg=>
  obtain rfl:=Option.some.inj hg
  rw[if_neg (show ¬ q74 (Lib.pow10Tab.map fun z=>D.int .u64 z)=true from fun e=>Bool.noConfusion (show false=true from e))]
  exact z3n t0 gP10
 |n+1,hg=>cases hg
def j4k:Nat→DataW Unit→List Value
 |_,.lit (.int k n)=>[.int k n]
 |n+1,.agg ps=>ps.flatMap (j4k n)
 |_,_=>[]
def lay(g:Nat)(d:DataW Unit)(h:Array Obj):Array Obj:=h.modify g fun
 |.cells _ t frozen=>.cells (j4k 3 d).toArray t frozen
 |o=>o
def j1m(g n:Nat)(h:Array Obj):Array Obj:=h.modify g fun
 |.cells _ t frozen=>.cells #[.iface 193 (.pointer (some ⟨n,0,none⟩))] t frozen
 |o=>o
def pushE(h:Array Obj):Array Obj:=((j1m 5 h.size (j1m 4 (h.size+1) h)).push (.cells #[.string ⟨#[118,97,108,117,101,32,111,117,116,32,111,102,32,114,97,110,103,101]⟩] 195 (0,0))).push (.cells #[.string ⟨#[105,110,118,97,108,105,100,32,115,121,110,116,97,120]⟩] 195 (0,0))
noncomputable def q7f(os:Os):World:=
 { World.holding Tryz.prog os ⟨#[],#[],[]⟩ with heap:=pushE (lay 7 Rows.laid_math_bits_deBruijn64tab (lay 6 Rows.laid_math_bits_deBruijn32tab (lay 3 Rows.laid_unicode_utf8_acceptRanges (lay 2 Rows.laid_unicode_utf8_first (lay 0 Rows.laid_internal_strconv_uint64pow10 (World.holding Tryz.prog os ⟨#[],#[],[]⟩).heap))))) }
theorem z8c(os:Os)(args:Array Value):laidMetH Tryz.prog z3g ((q7f os).forCall (fun _ _=>0) ⟨#[],args,[]⟩).memory:=
 laidMetH_of_parts (show laidMet Tryz.prog z3g _ from(LaidIn.of_run (List.range 20) 8 (by kernel_rfl) (by kernel_rfl) (by kernel_rfl) (by kernel_rfl)).met) (by kernel_rfl)
end Go.Vm
end

section
namespace Go.Proofs.YtjpnaaebfdnccaaGreatDoor.codeSpoilt
open Go.ChangeShapes Go.WideShapes Go.ChangeAt Go.RowKit Go.Vm Go.ChangeMaps
set_option linter.unusedVariables false
theorem z5m{H:Type}{enc:TypeId×Value→H}{P:Program}{f:Func}{s:ChangeSpec}{apart fresh handsOn again:Bool}{W W':World}{args:Array Value}{v:Value}{ds gs:List (DataW H)}{before:List MemPlace}
  (hW:DataW.Whole enc P f.params.toList s.vars apart W args.toList ds gs before) (hb:Below W.heap.size W W')
  (hres:∀(b:Nat) (sp:Nat→Bool) (hd:Bool),DataW.TrodAll enc P W' b sp hd f.resultTypes.toList (v.resultList f.resultTypes.size) (s.fn H (ds++gs)).results [])
  (hargs:∀ sp:Nat→Bool,(∀ p∈before,sp p.block=true)→DataW.TrodAll enc P W' 0 sp true f.params.toList args.toList (s.fn H (ds++gs)).args before)
  (hvars:∀ sp:Nat→Bool,DataW.TrodVars enc P W' sp s.vars (s.fn H (ds++gs)).vars [])
  (hok:∀(j:Nat) (t:TypeId) (r:Value),f.resultTypes[j]? = some t→(v.resultList f.resultTypes.size)[j]? = some r→Value.okWide P W' .any 0 t r) :
  s.post enc P f apart fresh handsOn again W args v W':=by
 have hlt:=hW.lt
 have hsp:∀ p∈before,(fun b=>decide (b<W.heap.size)) p.block=true:=fun p hp=>decide_eq_true (hlt p hp)
 have all:=trodAll_append (hargs (fun _=>true) (fun _ _=>rfl)) (hres 0 (fun _=>true) true)
 rw[List.nil_append] at all
 obtain⟨_,_,_,_,_,hz,hn⟩:=id hW
 refine⟨ds,gs,before,[],before,[],hW,hres _ _ _,hargs _ hsp,hvars _,hb.frame _,fun _=>⟨hok,_,_,before,⟨before,[],all,hvars _,by simp,fun b off hp=>?_,hn⟩,fun p hp _=>hp⟩⟩
 rw[hb.frozen (hlt _ hp)]
 exact hz b off hp
theorem bulk5{H:Type}{a b c d e:DataW H}(h:Rows.uptoSmall H ([a,b,c,d,e]++[])=true):Rows.uptoBulk a≤1048576∧Rows.uptoBulk b≤1048576∧Rows.uptoBulk c≤1048576∧Rows.uptoBulk d≤1048576∧Rows.uptoBulk e≤1048576:=by
 have h:=of_decide_eq_true h
 simp only[List.append_nil,Rows.uptoBulkAll,Nat.add_zero] at h
 omega
set_option maxRecDepth 100000 in
theorem contract(H:Type)(enc:TypeId×Value→H)(W:World)(base:Nat)(args:Array Value)(ds gs:List (DataW H))(before:List MemPlace)
  (hval:∀(j:Nat) t v,Tryz.f9.params[j]? = some t→args[j]? = some v→Value.okWide Tryz.prog W .any base t v)
  (hW:DataW.Whole enc Tryz.prog Tryz.f9.params.toList Rows.codeSpoiltSpec.vars false W args.toList ds gs before) (hk:Rows.uptoSmall H (ds++gs)=true) (hL:laidMetH Tryz.prog z3g W) :
  Calls Tryz.prog 9 args W fun e W'=>∃ v,e=.returned v∧Rows.codeSpoiltSpec.post enc Tryz.prog Tryz.f9 false true false false W args v W':=by
 have hW':=hW
 obtain⟨p,q,hA0,hV,rfl,hfz,hnd⟩:=hW
 have hA:DataW.TrodAll enc Tryz.prog W 0 (fun _=>true) true Tryz.f9.params.toList args.toList ds p:=hA0
 rw[Tryz.params9] at hA hval
 obtain⟨v0,vs0,d0,ds0,p0,q0,hargs,rfl,rfl,h0,r0⟩:=trodAll_cons hA
 obtain⟨v1,vs1,d1,ds1,p1,q1,rfl,rfl,rfl,h1,r1⟩:=trodAll_cons r0
 obtain⟨v2,vs2,d2,ds2,p2,q2,rfl,rfl,rfl,h2,r2⟩:=trodAll_cons r1
 obtain⟨v3,vs3,d3,ds3,p3,q3,rfl,rfl,rfl,h3,r3⟩:=trodAll_cons r2
 obtain⟨v4,vs4,d4,ds4,p4,q4,rfl,rfl,rfl,h4,r4⟩:=trodAll_cons r3
 obtain⟨rfl,rfl,rfl⟩:=trodAll_nil r4
 obtain rfl:args = #[v0,v1,v2,v3,v4]:=by cases args;simp_all
 obtain⟨rfl,rfl⟩:=trodVars_none hV
 clear hA0
 simp only[List.append_nil] at hW'
 obtain⟨b0,b1,b2,b3,b4⟩:=bulk5 hk
 obtain⟨e0,ht0,hr0⟩:=q6T q9o b0 j2g (hval 0 25 v0 rfl rfl) h0 (base:=W.heap.size)
 obtain⟨e1,ht1,hr1⟩:=q6T q9o b1 j1p (hval 1 3 v1 rfl rfl) h1 (base:=W.heap.size)
 obtain⟨e2,ht2,hr2⟩:=q6T q9o b2 j3N (hval 2 5 v2 rfl rfl) h2 (base:=W.heap.size)
 obtain⟨e3,ht3,hr3⟩:=q6T q9o b3 j1p (hval 3 3 v3 rfl rfl) h3 (base:=W.heap.size)
 obtain⟨e4,ht4,hr4⟩:=q6T q9o b4 j2f (hval 4 40 v4 rfl rfl) h4 (base:=W.heap.size)
 obtain⟨t,rfl,hin,hsm⟩:=z08 (n:=0) ht0
 obtain⟨k,rfl,hk1⟩:=q23 (n:=0) ht1
 obtain⟨m,rfl⟩:=z07 (n:=0) ht2
 obtain⟨c,rfl,hc1⟩:=q23 (n:=0) ht3
 obtain⟨l,rfl,hl1⟩:=z1b (n:=0) ht4
 have g25:z3F Tryz.prog 25=true:=by kernel_rfl
 have g3:z3F Tryz.prog 3=false:=by kernel_rfl
 have g5:z3F Tryz.prog 5=false:=by kernel_rfl
 have g40:z3F Tryz.prog 40=false:=by kernel_rfl
 rw[g25] at hr0
 rw[g3] at hr1 hr3
 rw[g5] at hr2
 rw[g40] at hr4
 have hcall:=(z5y t hin.ok hsm.sm.sh k c hk1.2 hc1.2 m l (by omega)).2 W (z2B W) #[v0,v1,v2,v3,v4] (fun b h=>h) (z0F hL) ⟨rfl,fun j v x hv hx=>by
  match j,hv,hx with
  |0,hv,hx=>simp at hv hx;subst hv;subst hx;exact hr0
  |1,hv,hx=>simp at hv hx;subst hv;subst hx;exact hr1
  |2,hv,hx=>simp at hv hx;subst hv;subst hx;exact hr2
  |3,hv,hx=>simp at hv hx;subst hv;subst hx;exact hr3
  |4,hv,hx=>simp at hv hx;subst hv;subst hx;exact hr4
  |j+5,hv,hx=>simp at hv⟩
 refine hcall.mono fun e W' ⟨v,F',σ',he,hb,_,hR,_⟩=>?_
 have hv:=hR.bool_inv
 subst hv
 subst he
 have hlt:∀ x∈p0++(p1++(p2++(p3++p4))),x.block<W.heap.size:=fun x hx=>by simpa using hW'.lt x (by simpa using hx)
 refine⟨_,rfl,z5m hW' hb (fun _ _ _=>(trodAll_cons_mk (shut_bool Tryz.underlying4 _) trodAll_mk0))
  (fun sp hsp=>?_) (fun _=>rfl) (ok_one (by kernel_rfl) rfl (okWide_bool_mk Tryz.underlying4 _))⟩
 have k0:=WideElems.Trod_stays q6t (by kernel_rfl) (of_decide_eq_true (by kernel_rfl)) h0 (fun x hx=>hb.same (hlt x (by simp [hx]))) (fun x hx=>hsp x (by simp [hx]))
 have k1:=WideElems.Trod_stays q6t (by kernel_rfl) (of_decide_eq_true (by kernel_rfl)) h1 (fun x hx=>hb.same (hlt x (by simp [hx]))) (fun x hx=>hsp x (by simp [hx]))
 have k2:=WideElems.Trod_stays q6t (by kernel_rfl) (of_decide_eq_true (by kernel_rfl)) h2 (fun x hx=>hb.same (hlt x (by simp [hx]))) (fun x hx=>hsp x (by simp [hx]))
 have k3:=WideElems.Trod_stays q6t (by kernel_rfl) (of_decide_eq_true (by kernel_rfl)) h3 (fun x hx=>hb.same (hlt x (by simp [hx]))) (fun x hx=>hsp x (by simp [hx]))
 have k4:=WideElems.Trod_stays q6t (by kernel_rfl) (of_decide_eq_true (by kernel_rfl)) h4 (fun x hx=>hb.same (hlt x (by simp [hx]))) (fun x hx=>hsp x (by simp [hx]))
 exact trodAll_cons_mk k0 (trodAll_cons_mk k1 (trodAll_cons_mk k2 (trodAll_cons_mk k3 (trodAll_mk1 k4))))
def wargs:Array Value:=#[.agg #[.slice none 0 0,.slice none 0 0],.int .i64 0,.int .u8 0,.int .i64 0,.slice none 0 0]
theorem reads(os:Os){H:Type}(enc:TypeId×Value→H):∃ places,DataW.whole enc Tryz.prog ((q7f os).forCall (fun _ _=>0) ⟨#[],wargs,[]⟩).memory Tryz.f9.params.toList Rows.codeSpoiltSpec.vars false wargs.toList 8=some ([.agg [.nil,.nil],.lit (.int .i64 0),.lit (.int .u8 0),.lit (.int .i64 0),.nil],[],places):=
 ⟨[],by kernel_rfl⟩
set_option maxRecDepth 100000 in
theorem liftedUpto(os:Os)(started:os.Started)(H:Type)(enc:TypeId×Value→H)(F:Stop.Interp) :
  ReturnsInHanded {} Tryz.checked os 9 .any ((Rows.OpenSpec.upto Rows.codeSpoiltSpec).preRow enc Tryz.prog Tryz.f9 Rows.codeSpoiltUptoRow.domain false Rows.codeSpoiltUptoRow.laid) (((Rows.OpenSpec.upto Rows.codeSpoiltSpec).at F).post enc Tryz.prog Tryz.f9 false true false false):=by
 obtain⟨places,hx⟩:=reads os enc
 refine returnsInHanded_of_row (C:=Tryz.checked) (s:=Rows.OpenSpec.upto Rows.codeSpoiltSpec) ownZ started (by kernel_rfl) Tryz.func9
  (witness_row_at (enc:=enc) (C:=Tryz.checked) false (q7f os) wargs rfl (by kernel_rfl) (by kernel_rfl) (by kernel_rfl)
   (OpenSpec.preRow_of_cond 8 hx (by kernel_rfl) (fun k hk=>by cases hk;kernel_rfl) (by kernel_rfl) (z8c os wargs))) ?_
 intro W base args ds gs before hval hW _ hcond _ hL _ _
 exact contract H enc W base args ds gs before hval hW (hcond _ rfl) hL
theorem saidUpto:Rows.CodeSpoiltUptoSaid:=
 OpenClaim.holds_of_cond 9 Tryz.f9 rfl rfl rfl rfl rfl rfl rfl ⟨rfl,rfl,rfl,rfl,rfl⟩ rfl rfl rfl rfl rfl (by kernel_rfl) Tryz.func9 (by kernel_rfl)
  (of_decide_eq_true (by kernel_rfl)) (by unfold Func.isWrapper;first|(rw[if_pos (by decide +kernel)];kernel_rfl)|(rw[if_neg (by decide +kernel)];exact⟨rfl,rfl⟩))
  (fun os started H enc _ F=>by rw[OpenClaim.pre_eq_preRow];exact liftedUpto os started H enc F)
theorem plain(f:FuncId)(fn:Func)(hf:Tryz.pinned.checked.prog.funcNamed "sloth/slothlaw17.CodeSpoilt" = some f) (hfn:Tryz.pinned.checked.prog.funcs[f]? = some fn) :
  true=Tryz.pinned.checked.prog.looks []∧∀(j:Nat) t,fn.params[j]? = some t→Tryz.pinned.checked.prog.wantsStandIn t=false:=by
 obtain rfl:f=9:=Option.some.inj ((show Tryz.prog.funcNamed "sloth/slothlaw17.CodeSpoilt" = some 9 by kernel_rfl).symm.trans hf) |>.symm
 obtain rfl:fn=Tryz.f9:=(Option.some.inj (Tryz.func9.symm.trans hfn)).symm
 refine⟨by kernel_rfl,fun j t ht=>?_⟩
 rw[Tryz.params9] at ht
 have h25:Tryz.prog.wantsStandIn 25=false:=by kernel_rfl
 have h3:Tryz.prog.wantsStandIn 3=false:=by kernel_rfl
 have h5:Tryz.prog.wantsStandIn 5=false:=by kernel_rfl
 have h40:Tryz.prog.wantsStandIn 40=false:=by kernel_rfl
 match j,ht with
 |0,ht=>simp at ht;subst ht;exact h25
 |1,ht=>simp at ht;subst ht;exact h3
 |2,ht=>simp at ht;subst ht;exact h5
 |3,ht=>simp at ht;subst ht;exact h3
 |4,ht=>simp at ht;subst ht;exact h40
 |j+5,ht=>simp at ht
theorem cardUpto:Rows.CodeSpoiltUptoCardSaid:=
 Claim7.holds_tied_plain_at .later [] _ _ _ _ saidUpto (fun _ h=>by cases h) (by kernel_rfl) (fun _ h=>by cases h) codeSpoiltUpto_row_tie rfl ⟨rfl,rfl⟩ (by kernel_rfl) rfl plain (by kernel_rfl)
#print axioms cardUpto
end Go.Proofs.YtjpnaaebfdnccaaGreatDoor.codeSpoilt
end
