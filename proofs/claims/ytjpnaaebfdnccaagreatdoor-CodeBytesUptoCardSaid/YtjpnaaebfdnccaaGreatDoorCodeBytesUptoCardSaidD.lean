/-
  Parts of the proof: Functions that defer one closure: no panic, the closure does nothing. The machine by reckoning: functions whose text goes with any number of blocks. The closures that code.Read and code.Load defer: without a panic they do nothing. The functions that both slothlaw17.awake and the document's Check run through, as the machine's text. What slothlaw17.awake runs through, as the machine's text; what is known of the library. The document's bytes of codes: numbers. The sum behind the bytes of a code. code.forms. A table in memory of its own, with marks behind its lists: shapes, codes. A table in memory of its own, with marks behind its lists: globals. A table in memory of its own, with marks behind its lists: what comes of it. The document's writer of codes: an instruction's text. A table's blocks handed on: what comes out of a function, what is handed to one. The marks behind a table's lists stand. A table that was lent is turned: numbers. Are two tables the same? A table that was lent: how it reads, and what a call leaves of it. The document's words on one instruction, and the program's. What code.Check comes to: plain definitions. code.Check. Functions of package code: what they come to. Conditions: none.
-/
import Derived.Test.YtjpnaaebfdnccaaGreatDoorCodeBytesUptoCardSaidC
import Derived.Recover
import Derived.Test.YtjpnaaebfdnccaaGreatDoorChecked
import Derived.KernelRfl
import Derived.Test.YtjpnaaebfdnccaaGreatDoorProg
set_option linter.unusedVariables false
set_option linter.unusedSimpArgs false

section
namespace Go.Vm
open Go.RowKit
variable {P:Program}
def Cx.later(K:Cx)(ds:List Deferred):Cx:=⟨K.call,K.eff,K.glob,K.loc,ds⟩
theorem Cx.later_sound{K:Cx}(h:K.Sound P)(ds:List Deferred):(K.later ds).Sound P:=⟨h.1,h.2,h.3⟩
theorem z88(K:Cx)(ds:List Deferred)(s:S):∀ e,ev (K.later ds) s e=ev K s e:=by
 intro e
 induction e <;> simp only[ev, *] <;> rfl
theorem StRel.later{K:Cx}{X:Nat→Nat→Prop}{base:Nat}{w0:World}{F0:Nat→Prop}{m:Nat}{σ0:Nat→Option Loc}{n:Nat}{s:S}{a a':Act}{w:World}{F:Nat→Prop}{σ:Nat→Option Loc}
  (h:StRel K X base w0 F0 m σ0 n s a w F σ) {ds:List Deferred} (hs:a'.tmps.size=n) (hd:a'.defers=ds) (ht:∀ t v,look s.rho t=some v→a'.tmps.getD t undef=a.tmps.getD t undef):StRel (K.later ds) X base w0 F0 m σ0 n s a' w F σ:=
 ⟨h.heap,h.glob,h.le,h.frame,h.frz,hs,hd,fun t v hv=>by rw[ht t v hv];exact h.rho t v hv,h.dom,h.stab,h.nxm,h.xm,h.sub⟩
theorem z6L{K:Cx}{fn:Func}{own:Bool}{res:List E}{m:Nat}{w w':World}{F F':Nat→Prop}{σ σ':Nat→Option Loc}{s:S}{a:Act}{vs:List V}{r:V}{news:List Blk}{mv:List Nat}
  (hres:mapO (resE P) fn.results.toList=some res) (hs:StRel K (OwnB σ) w.heap.size w F m σ fn.ntmps s a w' F' σ') (hvs:mapO (ev K s) res=some vs) (hfin:finish m own s (q0b vs)=some (r,news,mv)) :
  ∃ v,(results fn a.tmps).run P w'=.ok v w'∧∃ v' F' σ',Ending.returned v=.returned v'∧Frame (OwnB σ) w.heap.size w w'∧(∀ b,F b→F' b)∧(∀ b,F' b→F b∨w.heap.size≤b)∧
   RepV w' F' w.heap.size σ' v' r∧HeapRel w' F' (OwnB σ) w.heap.size σ' news.length (indexed news)∧∀ i l,i<m→σ i=some l→i∉mv→σ' i=some l:=by
 obtain⟨v,h1,h2⟩:=q5J hs hres hvs
 unfold finish at hfin
 simp only at hfin
 generalize (if own=true then q1N s.heap (refN s.heap+64) [] (List.range m++(q0b vs).refs) else List.range m)=bs at hfin
 split at hfin
 case isFalse=>cases hfin
 rename_i hc2
 simp only[Bool.and_eq_true,decide_eq_true_eq] at hc2
 obtain⟨hnd,hpre⟩:=hc2
 cases h3:finV (m==0) bs s.heap (q0b vs) with
 |none=>simp [h3] at hfin
 |some r'=>
  cases h4:mapO (finB (m==0) bs s.heap) bs with
  |none=>simp [h3,h4] at hfin
  |some news'=>
   simp only[h3,h4,Option.some.injEq,Prod.mk.injEq] at hfin
   obtain⟨rfl,rfl,rfl⟩:=hfin
   have hpin:∀ b,b<m→bs[b]? = some b:=fun b hb'=>by
    have:(bs.take m)[b]? = some b:=by rw[hpre];simp [hb']
    simpa [List.getElem?_take,hb'] using this
   have hX:∀ b k,OwnB σ b k→bs[b]? = some b:=fun b k hx=>hpin b (hs.xm b k hx)
   have hy:z4y (OwnB σ) w.heap.size bs σ':=by
    intro i l hl
    obtain⟨hni,hl'⟩:=q5h hl
    rcases(hs.heap.own i l hl').2.2.1 with h|h
    ·exact h
    ·have:=List.mem_of_getElem? (hX i _ h)
     simp [this] at hni
   refine⟨v,h1,v,FZ F' bs σ',outs bs σ',rfl,hs.frame,fun b hb'=>.inl (hs.sub b hb'),fun b hb'=>?_,q81 hs.heap hy h3 h2,z0Q hs.heap hy hnd hX h4,fun i l hi hl hm'=>?_⟩
   ·rcases hb' with hb'|⟨i,l,hl,rfl⟩
    ·exact hs.frz b hb'
    ·exact .inr (hy i l hl)
   ·unfold outs
    rw[hpin i hi]
    exact hs.stab i l hi hl (fun hc=>hm' (List.mem_filter.2 ⟨List.mem_range.2 hi,by simpa [List.contains_eq_mem] using hc⟩))
def z8N(k G:Nat)(cap:List Nat):Code→Bool
 |.region _ ops draw=>!draw&&match ops.toList with
  |[o,p]=>o.dst==some k&&o.guard.isNone&&p.dst==none&&p.guard.isNone &&
   (match o.op with|.makeFunc (.func g) f c=>g==G&&f.toList.isEmpty&&decide (c.toList.map (fun x=>match x with|.tmp t=>some t|_=>none)=cap.map some)|_=>false) &&
   (match p.op with|.defer c=>c.args.toList.isEmpty&&(match c.callee with|.value (.tmp t)=>t==k|_=>false)|_=>false)
  |_=>false
 |_=>false
theorem j0r{l:List Operand}{cap:List Nat}(h:l.map (fun x=>match x with|.tmp t=>some t|_=>none)=cap.map some):l=cap.map Operand.tmp:=by
 induction l generalizing cap with
 |nil=>cases cap <;> simp_all
 |cons x l ih=>
  cases cap with
  |nil=>simp at h
  |cons t cap=>
   simp only[List.map_cons,List.cons.injEq] at h
   rw[ih h.2]
   cases x <;> simp_all
theorem j2h{k G:Nat}{cap:List Nat}{code:Code}(h:z8N k G cap code=true){Q:Exit→Act→World→Prop}{a:Act}{w:World}(hk:k<a.tmps.size)
  (hQ:Q .normal { tmps:=a.tmps.setIfInBounds k (.func (.func G) #[] (cap.map fun t=>a.tmps.getD t undef).toArray),defers:={ target:=.fn (.func G) (cap.map fun t=>a.tmps.getD t undef).toArray,args:=#[] } :: a.defers } w):code.wp P Q a w:=by
 cases code with
 |region id ops draw=>
  simp only[z8N,Bool.and_eq_true,Bool.not_eq_true'] at h
  obtain⟨rfl,h⟩:=h
  split at h
  ·rename_i o p hops
   simp only[Bool.and_eq_true,beq_iff_eq,Option.isNone_iff_eq_none] at h
   obtain⟨⟨⟨⟨⟨h1,h2⟩,h3⟩,h4⟩,h5⟩,h6⟩:=h
   obtain⟨od,oo,ot,op,oa,og⟩:=o
   obtain⟨pd,po,pt,pp,pa,pg⟩:=p
   simp only at h1 h2 h3 h4 h5 h6
   subst h1;subst h2;subst h3;subst h4
   split at h5
   case h_2=>cases h5
   rename_i g f c
   simp only[Bool.and_eq_true,beq_iff_eq,List.isEmpty_iff,decide_eq_true_eq] at h5
   obtain⟨⟨rfl,hf⟩,hc⟩:=h5
   have hc:=j0r hc
   obtain⟨c⟩:=c
   obtain⟨f⟩:=f
   simp only at hf hc
   subst hf;subst hc
   split at h6
   case h_2=>cases h6
   rename_i d
   obtain⟨dc,da,dt⟩:=d
   simp only[Bool.and_eq_true,List.isEmpty_iff] at h6
   obtain⟨h7,h8⟩:=h6
   split at h8
   case h_2=>cases h8
   rename_i t
   simp only[beq_iff_eq] at h8
   subst h8
   obtain⟨da⟩:=da
   simp only at h7
   subst h7
   obtain⟨ops⟩:=ops
   simp only at hops
   subst hops
   refine wp_region ?_
   have hmf:∀(fn:Fn) (first cap:Array Value) (w:World),(Instr.makeFunc fn first cap).run P w=.ok (.func fn first cap) w:=fun _ _ _ _=>rfl
   have e:a.eval ∘ Operand.tmp=fun t=>a.tmps.getD t undef:=rfl
   simp only[List.size_toArray,List.length_cons,List.length_nil,List.range_succ,List.range_zero,List.nil_append,List.cons_append]
   simp [wpOps,Region.wanted,Oper.wp,Oper.upon,execOp,Act.put,Act.eval,resolve,Deferred.ofValue,go_sem,hmf,hk,e]
   left
   left
   simpa using hQ
  ·cases h
 |_=>simp [z8N] at h
structure DfrF where
 c0:C
 ca:C
 cb:C
 res:List E
 k:Nat
 G:Nat
 cap:List Nat
def z9s(P:Program)(f:FuncId)(n:Nat)(g:DfrF):Bool:=match P.funcs[f]? with
 |some fn=>match fn.body with
  |some (.seq c0 (.seq ca (.seq r cb)))=>chk P 0 fn.ntmps g.c0 c0&&chk P 0 fn.ntmps g.ca ca&&z8N g.k g.G g.cap r&&decide (g.k<fn.ntmps)&&chk P 0 fn.ntmps g.cb cb &&
    decide (mapO (resE P) fn.results.toList=some g.res)&&decide (n≤fn.ntmps)&&(fn.name != "runtime.NumGoroutine")&&q0S P g.G
  |_=>false
 |none=>false
inductive DfrRun(K:Cx)(g:DfrF)(args:List V)(r:V)(news:List Blk):Prop where
 |early (s0 s1:S) (vs:List V) (mv:List Nat) (h0:exec K g.c0 (startS args [])=some (.nrm,s0)) (h1:exec K g.ca s0=some (.ret,s1)) (hv:mapO (ev K s1) g.res=some vs) (hf:finish 0 false s1 (q0b vs)=some (r,news,mv))
 |late (s0 s1:S) (h0:exec K g.c0 (startS args [])=some (.nrm,s0)) (h1:exec K g.ca s0=some (.nrm,s1)) (hk:look s1.rho g.k=none) (h2:∀ ds,∃ s2 vs mv,exec (K.later ds) g.cb s1=some (.ret,s2)∧mapO (ev (K.later ds) s2) g.res=some vs∧finish 0 false s2 (q0b vs)=some (r,news,mv))
def j1I(P:Program)(G n:Nat):Prop:=∀(cap:Array Value)(w:World),cap.size=n→CallsD P G cap .returning w fun e u' w'=>u'=.returning∧e=.returned (.tuple #[])∧w'=w
theorem q8j(hm:P.follows .mixedOrders=true){K:Cx}(hK:K.Sound P){f:FuncId}{g:DfrF}{args:List V}{r:V}{news:List Blk}(hok:z9s P f args.length g=true)(hq:j1I P g.G g.cap.length)(hr:DfrRun K g args r news)(hd0:K.dfr=[]:=by rfl) :
  q0S P f=true∧q2s P K.glob f args r news:=by
 unfold z9s at hok
 cases hf:P.funcs[f]? with
 |none=>simp [hf] at hok
 |some fn=>
  simp only[hf] at hok
  split at hok
  case h_2=>cases hok
  rename_i c0 ca rg cb hb
  simp only[Bool.and_eq_true,decide_eq_true_eq] at hok
  obtain⟨⟨⟨⟨⟨⟨⟨⟨k0,ka⟩,kr⟩,kk⟩,kb⟩,hres⟩,hn⟩,hname⟩,hG⟩:=hok
  refine⟨by simp [q0S,hf,hb,hname],fun w F vals hF hGl hargs=>?_⟩
  have hX:∀ b k,¬ OwnB (fun _=>none) b k:=by rintro b k ⟨l,h,_⟩;cases h
  have hH:HeapRel w F (OwnB fun _=>none) w.heap.size (fun _=>none) ([]:List Blk).length (indexed []):=⟨fun b blk h=>by simp [indexed,look] at h,fun b b' l l' h=>(by cases h),fun b l h=>(by cases h),hF⟩
  refine calls_of_wp_defers hf hb ?_
  have hst:StRel K (OwnB fun _=>none) w.heap.size w F 0 (fun _=>none) fn.ntmps (startS args []) { tmps:=vals++Array.replicate (fn.ntmps - vals.size) undef,defers:=[] } w F (fun _=>none):=by
   refine⟨hH,hGl,Nat.le_refl _,.refl _ _ _,fun b hb=>.inl hb,?_,hd0.symm,fun t v hv=>?_,fun b blk h=>?_,fun _ _ _ h _=>h,Nat.le_refl _,fun b k hx=>?_,fun _ h=>h⟩
   ·have:=hargs.1
    simp;omega
   ·obtain⟨_,hv'⟩:=z0z args 0 t v hv
    rw[Nat.sub_zero] at hv'
    have ht:t<vals.size:=by rw[hargs.1];exact(List.getElem?_eq_some_iff.1 hv').1
    have hget:(vals++Array.replicate (fn.ntmps - vals.size) undef).getD t undef=vals[t]:=by
     rw[Array.getD_eq_getD_getElem?,Array.getElem?_append_left ht]
     simp [ht]
    show RepV w F w.heap.size _ ((vals++Array.replicate (fn.ntmps - vals.size) undef).getD t undef) v
    rw[hget]
    exact hargs.2 t _ v (by simp [ht]) hv'
   ·simp [startS,indexed,look] at h
   ·exact absurd hx (hX b k)
  have shut:∀(s:S) (a:Act) (w':World) (F':Nat→Prop) (σ':Nat→Option Loc) (vs:List V) (mv:List Nat) (K1:Cx),StRel K1 (OwnB fun _=>none) w.heap.size w F 0 (fun _=>none) fn.ntmps s a w' F' σ'→mapO (ev K1 s) g.res=some vs→finish 0 false s (q0b vs)=some (r,news,mv)→
    ∃ v,(results fn a.tmps).run P w'=.ok v w'∧(∃ v' F' σ',Ending.returned v=.returned v'∧Below w.heap.size w w'∧(∀ b,F' b→F b∨w.heap.size≤b)∧
     RepV w' F' w.heap.size σ' v' r∧HeapRel w' F' (fun _ _=>False) w.heap.size σ' news.length (indexed news)):=by
   intro s a w' F' σ' vs mv K1 hs hvs hfin
   obtain⟨v,h1,v',F'',σ'',he,hfr,_,hF',hR,hHr,_⟩:=z6L hres hs hvs hfin
   refine⟨v,h1,v',F'',σ'',he,⟨hfr.os,hfr.tape,hfr.output,hfr.size,fun k hk=>hfr.block k hk (fun b=>hX b k)⟩,hF',hR,⟨hHr.blk,hHr.inj,fun b l hb=>?_,hHr.fro⟩⟩
   obtain⟨o1,o2,o3,o4⟩:=hHr.own b l hb
   exact⟨o1,o2,o3.imp id (fun hx=>hX b _ hx),o4⟩
  have hev:∀ ds (s:S),mapO (ev (K.later ds) s) g.res=mapO (ev K s) g.res:=fun ds s=>by
   have:ev (K.later ds) s=ev K s:=funext fun e=>z88 K ds s e
   rw[this]
  cases hr with
  |early s0 s1 vs mv h0 h1 hv hfn=>
   refine wp_seq (wp_mono (q3j hm hK g.c0 c0 _ _ _ _ _ _ k0 h0 hst) fun e a w1 hp=>?_)
   obtain⟨rfl,F1,σ1,hs1⟩:=hp
   refine wp_seq (wp_mono (q3j hm hK g.ca ca _ _ _ _ _ _ ka h1 hs1) fun e a w2 hp=>?_)
   obtain⟨rfl,F2,σ2,hs2⟩:=hp
   obtain⟨v,q1,q2⟩:=shut s1 a w2 F2 σ2 vs mv K hs2 hv hfn
   show Leaves P fn a.tmps _ a.defers .returning w2
   rw[hs2.dfr,hd0]
   exact⟨v,q1,q2⟩
  |late s0 s1 h0 h1 hk h2=>
   refine wp_seq (wp_mono (q3j hm hK g.c0 c0 _ _ _ _ _ _ k0 h0 hst) fun e a w1 hp=>?_)
   obtain⟨rfl,F1,σ1,hs1⟩:=hp
   refine wp_seq (wp_mono (q3j hm hK g.ca ca _ _ _ _ _ _ ka h1 hs1) fun e a w2 hp=>?_)
   obtain⟨rfl,F2,σ2,hs2⟩:=hp
   refine wp_seq (j2h kr (by rw[hs2.size];exact kk) ?_)
   have hdf:a.defers=[]:=hs2.dfr.trans hd0
   rw[hdf]
   generalize hcap:(g.cap.map fun t=>a.tmps.getD t undef).toArray=cap
   have hcs:cap.size=g.cap.length:=by rw[←hcap];simp
   have hs3:StRel (K.later [{ target:=.fn (.func g.G) cap,args:=#[] }]) (OwnB fun _=>none) w.heap.size w F 0 (fun _=>none) fn.ntmps s1 { tmps:=a.tmps.setIfInBounds g.k (.func (.func g.G) #[] cap),defers:=[{ target:=.fn (.func g.G) cap,args:=#[] }] } w2 F2 σ2:=
    hs2.later (by simp [hs2.size]) rfl fun t v ht=>by
     have hne:t≠g.k:=by rintro rfl;rw[hk] at ht;cases ht
     simp only[Array.getD_eq_getD_getElem?]
     rw[Array.getElem?_setIfInBounds_ne (by omega)]
   obtain⟨s2,vs,mv,h2,hv,hfn⟩:=h2 [{ target:=.fn (.func g.G) cap,args:=#[] }]
   refine wp_mono (q3j hm (Cx.later_sound hK _) g.cb cb _ _ _ _ _ _ kb h2 hs3) fun e a3 w3 hp=>?_
   obtain⟨rfl,F3,σ3,hs4⟩:=hp
   obtain⟨v,q1,q2⟩:=shut s2 a3 w3 F3 σ3 vs mv _ hs4 hv hfn
   show Leaves P fn a3.tmps _ a3.defers .returning w3
   rw[hs4.dfr]
   refine leaves_cons (f:=g.G) (args:=cap) (by simp) ?_ ((hq cap w3 hcs).mono ?_)
   ·have:=q6K (w:=w3) hG cap
    simpa [invoke] using this
   ·rintro e u' w4 ⟨rfl,rfl,rfl⟩
    exact⟨v,q1,q2⟩
end Go.Vm
end

section
namespace Go.Vm
open Go.RowKit
variable {P:Program}
def z6J:List Row→FuncId→Nat→Option Row
 |[],_,_=>none
 |r :: l,f,m=>if r.f=f∧r.m=m then some r else z6J l f m
theorem q75{T:List Row}{f:FuncId}{m:Nat}{r:Row}(h:z6J T f m=some r):r∈T∧r.f=f:=by
 induction T with
 |nil=>cases h
 |cons q T ih=>
  simp only[z6J] at h
  split at h
  ·rename_i he
   obtain rfl:=Option.some.inj h
   exact⟨by simp,he.1⟩
  ·exact⟨List.mem_cons_of_mem _ (ih h).1,(ih h).2⟩
def cxM(K0:Cx)(N:Nat)(T:List Row):Nat→Cx
 |0=>K0
 |n+1=>⟨fun f vs=>match z6J T f 0 with
   |some r=>if r.m=0∧r.n=vs.length then match q7z N (cxM K0 N T n) r.g vs [] with
    |some (v,blks,_)=>some (v,blks)
    |none=>none
    else none
   |none=>K0.call f vs,
  fun f vs bs=>match z6J T f bs.length with
   |some r=>if r.m=bs.length∧r.n=vs.length then q7z N (cxM K0 N T n) r.g vs bs else none
   |none=>K0.eff f vs bs,K0.glob,K0.loc,[]⟩
theorem z19{K0:Cx}(h:K0.dfr=[])(N:Nat)(T:List Row)(n:Nat):(cxM K0 N T n).dfr=[]:=by cases n;exact h;rfl
theorem q7f(K0:Cx)(N:Nat)(T:List Row)(n:Nat):(cxM K0 N T n).glob=K0.glob:=by cases n <;> rfl
theorem z7n(hm:P.follows .mixedOrders=true){K0:Cx}(h0:K0.Sound P){N:Nat}{T:List Row}(hT:∀ r∈T,q09 P r.f r.m r.n r.g=true)(hl:∀ r∈T,K0.loc r.f=true→K0.glob=fun _=>none)(hd0:K0.dfr=[]:=by rfl):∀ n,(cxM K0 N T n).Sound P:=by
 intro n
 induction n with
 |zero=>exact h0
 |succ n ih=>
  have call:∀ f args r news,(cxM K0 N T (n+1)).call f args=some (r,news)→q0S P f=true∧q2s P K0.glob f args r news:=by
   intro f args r news h
   simp only[cxM] at h
   split at h
   ·rename_i q hq
    obtain⟨h1,rfl⟩:=q75 hq
    split at h
    ·rename_i hc
     split at h
     ·rename_i v blks mv hr
      simp only[Option.some.injEq,Prod.mk.injEq] at h
      obtain⟨rfl,rfl⟩:=h
      have ok:=hT q h1
      rw[hc.1,hc.2] at ok
      have:=q42 hm ih ok (q6j hr) (z19 hd0 ..)
      rw[q7f] at this
      exact this
     ·cases h
    ·cases h
   ·exact h0.pure f args r news h
  refine⟨fun f args r news h=>?_,fun f args r news hl' h=>?_,fun f args blks r blks' mv h=>?_⟩
  ·have:=call f args r news h
   rw[←q7f K0 N T (n+1)] at this
   exact this
  ·have hl2:K0.loc f=true:=hl'
   have h2:=h
   simp only[cxM] at h2
   split at h2
   ·rename_i q hq
    obtain⟨h1,rfl⟩:=q75 hq
    have e:=hl q h1 hl2
    have:=(call q.f args r news h).2
    rw[e] at this
    exact this
   ·exact h0.loc f args r news hl2 h2
  ·have h2:=h
   simp only[cxM] at h2
   split at h2
   ·rename_i q hq
    obtain⟨h1,rfl⟩:=q75 hq
    split at h2
    ·rename_i hc
     have ok:=hT q h1
     rw[hc.1,hc.2] at ok
     have:=z0Y hm ih ok (q6j h2) (z19 hd0 ..)
     rw[q7f] at this
     exact this
    ·cases h2
   ·exact h0.eff f args blks r blks' mv h2
def j1U(N:Nat)(K:Cx)(g:DfrF)(s1:S):Option (V×List Blk):=match execC N K g.cb s1 with
 |some (.ret,s2)=>match mapO (ev K s2) g.res with
  |some vs=>match finish 0 false s2 (q0b vs) with
   |some (r,news,_)=>some (r,news)
   |none=>none
  |none=>none
 |_=>none
theorem z7k{N:Nat}{K:Cx}{g:DfrF}{args:List V}{s0 s1:S}{r:V}{news:List Blk}(h0:execC N K g.c0 (startS args [])=some (.nrm,s0))(h1:execC N K g.ca s0=some (.nrm,s1))(hk:look s1.rho g.k=none)
  (h2:∀ ds,j1U N (K.later ds) g s1=some (r,news)):DfrRun K g args r news:=by
 refine .late s0 s1 ((q7b N K g.c0).1 _ _ h0) ((q7b N K g.ca).1 _ _ h1) hk fun ds=>?_
 have h:=h2 ds
 unfold j1U at h
 split at h
 case h_2=>cases h
 rename_i s2 he
 split at h
 case h_2=>cases h
 rename_i vs hv
 split at h
 case h_2=>cases h
 rename_i r' news' mv hf
 simp only[Option.some.injEq,Prod.mk.injEq] at h
 obtain⟨rfl,rfl⟩:=h
 exact⟨s2,vs,mv,(q7b N _ g.cb).1 _ _ he,hv,hf⟩
end Go.Vm
end

section
namespace Go.Vm
open Go.Proofs
theorem j0I:j1I Tryz.prog 59 2:=by
 intro cap w hcap
 obtain⟨l⟩:=cap
 match l,hcap with
 |[p,q],_=>
  refine(callsD_of_wpS (R:=fun e u' w'=>u'=.returning∧e=.returned (.tuple #[])∧w'=w) Tryz.func59 rfl fun c₀ cs hu=>?_)
  apply wpS_seq
  apply wpS_region
  simp [wpOpsS,go_sem,recoverD,hu,Tryz.ntmps59,Exit.thenS]
  apply wpS_seq
  apply wpS_region
  simp [wpOpsS,go_sem,recoverD,hu,Tryz.ntmps59,Exit.thenS]
  refine wpS_cond (t:=false) (by simp [Act.eval,Array.replicate]) ?_
  simp only[Bool.false_eq_true,if_false]
  refine wpS_of_wp (wp_skip ?_)
  cases c₀
  simp_all [bodyPostS,results,Tryz.results59]
theorem z5L:j1I Tryz.prog 76 2:=by
 intro cap w hcap
 obtain⟨l⟩:=cap
 match l,hcap with
 |[p,q],_=>
  refine(callsD_of_wpS (R:=fun e u' w'=>u'=.returning∧e=.returned (.tuple #[])∧w'=w) Tryz.func76 rfl fun c₀ cs hu=>?_)
  apply wpS_seq
  apply wpS_region
  simp [wpOpsS,go_sem,recoverD,hu,Tryz.ntmps76,Exit.thenS]
  apply wpS_seq
  apply wpS_region
  simp [wpOpsS,go_sem,recoverD,hu,Tryz.ntmps76,Exit.thenS]
  refine wpS_cond (t:=false) (by simp [Act.eval,Array.replicate]) ?_
  simp only[Bool.false_eq_true,if_false]
  refine wpS_of_wp (wp_skip ?_)
  cases c₀
  simp_all [bodyPostS,results,Tryz.results76]
end Go.Vm
end

section
namespace Go.Vm
set_option maxRecDepth 100000
/- 'sloth/code.Check' -/
def f13_L0:C:= (.seq (.reg [⟨[],[(20,(.bin .lss (.sl 19) (.sl 18)))],[],none,[1,3,17,18,19],1,[],[],[]⟩]) (.seq (.cond (.sl 20) .skip (.seq (.tidy 0 [1,3]) (.exit 0))) (.seq (.block 1 (.seq (.reg [⟨[(5,.box (.agg (.cons (.str []) (.cons (.int .i64 0) .nil))))],[],[],some (none,.store 2 (.sl 5) (.ld 2 true (.ia 2 (.sl 17) (.sl 19)))),[1,3,5,17,18,19],4,[],[],[]⟩]) (.seq (.seq (.reg [⟨[],[(43,(.or (.or (.or (.un .not (.call 35 (.cons (.ld 1 false (.fa 0 (.sl 5))) .nil))) (.bin .gtr (.lkp false 2 (.int .i64 0) (.sl 3) (.ld 1 false (.fa 0 (.sl 5)))) (.int .i64 0))) (.bin .lss (.ld 1 false (.fa 1 (.sl 5))) (.int .i64 0))) (.bin .gtr (.ld 1 false (.fa 1 (.sl 5))) (.int .i64 8))))],[],none,[1,3,5,17,18,19],21,[],[],[]⟩]) (.cond (.sl 43) (.seq (.reg [⟨[],[(2,(.int .i64 172))],[],none,[],1,[],[],[]⟩]) (.seq (.tidy 0 [2]) .ret)) .skip)) (.reg [⟨[],[],[],some (none,.mset 2 (.sl 3) (.ld 1 false (.fa 0 (.sl 5))) (.int .i64 1)),[1,3,17,18,19],4,[],[],[]⟩])))) (.reg [⟨[],[(19,(.bin .add (.sl 19) (.int .i64 1)))],[],none,[1,3,17,18],2,[],[],[]⟩]))))
def f13_L1:C:= (.seq (.reg [⟨[],[(51,(.bin .lss (.sl 50) (.sl 49)))],[],none,[1,3,48,49,50],1,[],[],[]⟩]) (.seq (.cond (.sl 51) .skip (.seq (.tidy 0 [1,3]) (.exit 2))) (.seq (.block 3 (.seq (.reg [⟨[(7,.box (.agg (.cons (.str []) (.cons (.int .i64 0) .nil))))],[(6,(.sl 50))],[],some (none,.store 2 (.sl 7) (.ld 2 true (.ia 2 (.sl 48) (.sl 50)))),[1,3,7,48,49,50],6,[],[],[]⟩]) (.seq (.reg [⟨[],[(68,(.or (.bin .geq (.sl 6) (.len false (.ld 1 false (.fa 0 (.sl 1))))) (.eqs true true [2,0] (.ld 2 true (.ia 2 (.ld 1 false (.fa 0 (.sl 1))) (.sl 6))) (.ld 2 true (.sl 7)))))],[],none,[1,3,48,49,50],14,[[],[],[1],[1,2],[2,1,3,0],[0,3,1,2,4],[4,2,1,3,0,5],[5,0,3,1,2,4,6],[4,2,1,3,0,5],[8,6,4,2,1,3,0,5,7],[7,5,0,3,1,2,4,6,8,9],[4,2,1,3,0,5],[11,9,8,6,4,2,1,3,0,5,7,10],[10,7,6,8,9,11,12,4,2,1,3,0,5]],[],[]⟩]) (.cond (.sl 68) (.seq (.reg [⟨[],[(2,(.int .i64 172))],[],none,[],1,[],[],[]⟩]) (.seq (.tidy 0 [2]) .ret)) .skip)))) (.reg [⟨[],[(50,(.bin .add (.sl 50) (.int .i64 1)))],[],none,[1,3,48,49],2,[],[],[]⟩]))))
def f13_L2:C:= (.seq (.reg [⟨[],[(75,(.bin .lss (.sl 74) (.sl 73)))],[],none,[1,3,72,73,74],1,[],[],[]⟩]) (.seq (.cond (.sl 75) .skip (.seq (.tidy 0 [1]) (.exit 4))) (.seq (.block 5 (.seq (.reg [⟨[(9,.box (.agg (.cons (.str []) (.cons (.int .i64 0) (.cons (.nilsl 3) .nil)))))],[],[],some (none,.store 3 (.sl 9) (.ld 3 true (.ia 3 (.sl 72) (.sl 74)))),[1,3,9,72,73,74],4,[],[],[]⟩]) (.seq (.seq (.reg [⟨[],[(98,(.or (.or (.or (.un .not (.call 35 (.cons (.ld 1 false (.fa 0 (.sl 9))) .nil))) (.bin .gtr (.lkp false 2 (.int .i64 0) (.sl 3) (.ld 1 false (.fa 0 (.sl 9)))) (.int .i64 0))) (.bin .lss (.ld 1 false (.fa 1 (.sl 9))) (.int .i64 0))) (.bin .gtr (.ld 1 false (.fa 1 (.sl 9))) (.int .i64 24))))],[],none,[1,3,9,72,73,74],21,[],[],[]⟩]) (.cond (.sl 98) (.seq (.reg [⟨[],[(2,(.int .i64 172))],[],none,[],1,[],[],[]⟩]) (.seq (.tidy 0 [2]) .ret)) .skip)) (.reg [⟨[],[],[],some (none,.mset 2 (.sl 3) (.ld 1 false (.fa 0 (.sl 9))) (.int .i64 1)),[1,3,72,73,74],4,[],[],[]⟩])))) (.reg [⟨[],[(74,(.bin .add (.sl 74) (.int .i64 1)))],[],none,[1,3,72,73],2,[],[],[]⟩]))))
def f13_L3:C:= (.seq (.reg [⟨[],[(107,(.bin .lss (.sl 106) (.sl 105)))],[],none,[1,104,105,106],1,[],[],[]⟩]) (.seq (.cond (.sl 107) .skip (.seq (.tidy 0 []) (.exit 6))) (.seq (.block 7 (.seq (.reg [⟨[(11,.box (.agg (.cons (.str []) (.cons (.int .i64 0) (.cons (.nilsl 3) .nil)))))],[],[],some (none,.store 3 (.sl 11) (.ld 3 true (.ia 3 (.sl 104) (.sl 106)))),[1,11,104,105,106],4,[],[],[]⟩]) (.seq (.reg [⟨[],[(12,(.call 37 (.cons (.ld 2 true (.sl 1)) (.cons (.ld 3 true (.sl 11)) .nil))))],[],none,[1,104,105,106],4,[],[],[]⟩]) (.seq (.reg [⟨[],[(114,(.bin .neq (.sl 12) (.int .i64 0)))],[],none,[1,12,104,105,106],2,[],[],[]⟩]) (.cond (.sl 114) (.seq (.reg [⟨[],[(2,(.sl 12))],[],none,[],2,[],[],[]⟩]) (.seq (.tidy 0 [2]) .ret)) .skip))))) (.reg [⟨[],[(106,(.bin .add (.sl 106) (.int .i64 1)))],[],none,[1,104,105],2,[],[],[]⟩]))))
def f13:Fun:=⟨ (.seq (.reg [⟨[(1,.box (.sl 0))],[],[(.int .i64 0)],none,[1],2,[],[],[]⟩]) (.seq (.seq (.reg [⟨[],[(14,(.call 34 (.cons (.ld 2 true (.sl 1)) .nil)))],[],none,[1],2,[],[],[]⟩]) (.cond (.sl 14) (.seq (.reg [⟨[],[(2,(.int .i64 4))],[],none,[],1,[],[],[]⟩]) (.seq (.tidy 0 [2]) .ret)) .skip)) (.seq (.reg [⟨[(15,.mkm)],[(3,(.sl 15))],[],none,[1],2,[],[],[]⟩]) (.seq (.seq (.reg [⟨[],[(17,(.ld 1 false (.fa 0 (.sl 1)))),(18,(.len false (.ld 1 false (.fa 0 (.sl 1))))),(19,(.int .i64 0))],[],none,[1,3],4,[],[],[]⟩]) (.block 0 (.seq (.tidy 0 [1,3,17,18,19]) (.loop (.seq (.tidy 0 [1,3,17,18,19]) f13_L0))))) (.seq (.seq (.reg [⟨[(48,.callo 36 .nil)],[(49,(.len false (.sl 48))),(50,(.int .i64 0))],[],none,[1,3,48],3,[],[],[]⟩]) (.block 2 (.seq (.tidy 0 [1,3,48,49,50]) (.loop (.seq (.tidy 0 [1,3,48,49,50]) f13_L1))))) (.seq (.reg [⟨[],[],[],some (none,.mclr (.sl 3)),[1,3],2,[],[],[]⟩]) (.seq (.seq (.reg [⟨[],[(72,(.ld 1 false (.fa 1 (.sl 1)))),(73,(.len false (.ld 1 false (.fa 1 (.sl 1))))),(74,(.int .i64 0))],[],none,[1,3],4,[],[],[]⟩]) (.block 4 (.seq (.tidy 0 [1,3,72,73,74]) (.loop (.seq (.tidy 0 [1,3,72,73,74]) f13_L2))))) (.seq (.seq (.reg [⟨[],[(104,(.ld 1 false (.fa 1 (.sl 1)))),(105,(.len false (.ld 1 false (.fa 1 (.sl 1))))),(106,(.int .i64 0))],[],none,[1],4,[],[],[]⟩]) (.block 6 (.seq (.tidy 0 [1,104,105,106]) (.loop (.seq (.tidy 0 [1,104,105,106]) f13_L3))))) (.seq (.reg [⟨[],[(2,(.int .i64 0))],[],none,[],1,[],[],[]⟩]) (.seq (.tidy 0 [2]) .ret)))))))))), [(.sl 2)],false⟩
theorem j3E:q09 Go.Proofs.Tryz.prog 13 0 1 f13=true:=by kernel_rfl
/- 'sloth/code.great' -/
def f34_L0:C:= (.seq (.reg [⟨[],[(10,(.bin .lss (.sl 9) (.sl 8)))],[],none,[1,3,7,8,9],1,[],[],[]⟩]) (.seq (.cond (.sl 10) .skip (.seq (.tidy 0 [1,3]) (.exit 0))) (.seq (.block 1 (.seq (.reg [⟨[(5,.box (.agg (.cons (.str []) (.cons (.int .i64 0) (.cons (.nilsl 3) .nil)))))],[],[],some (none,.store 3 (.sl 5) (.ld 3 true (.ia 3 (.sl 7) (.sl 9)))),[1,3,5,7,8,9],4,[],[],[]⟩]) (.seq (.reg [⟨[],[(3,(.bin .add (.sl 3) (.len false (.ld 1 false (.fa 2 (.sl 5))))))],[],none,[1,5,7,8,9],6,[],[],[]⟩]) (.seq (.reg [⟨[],[(21,(.bin .gtr (.len false (.ld 1 false (.fa 2 (.sl 5)))) (.int .i64 8000)))],[],none,[1,3,7,8,9],4,[],[],[]⟩]) (.cond (.sl 21) (.seq (.reg [⟨[],[(2,(.bool true))],[],none,[],1,[],[],[]⟩]) (.seq (.tidy 0 [2]) .ret)) .skip))))) (.reg [⟨[],[(9,(.bin .add (.sl 9) (.int .i64 1)))],[],none,[1,3,7,8],2,[],[],[]⟩]))))
def f34:Fun:=⟨ (.seq (.reg [⟨[(1,.box (.sl 0))],[],[(.bool false)],none,[1],2,[],[],[]⟩]) (.seq (.reg [⟨[],[(3,(.int .i64 0))],[],none,[1],1,[],[],[]⟩]) (.seq (.seq (.reg [⟨[],[(7,(.ld 1 false (.fa 1 (.sl 1)))),(8,(.len false (.ld 1 false (.fa 1 (.sl 1))))),(9,(.int .i64 0))],[],none,[1,3],4,[],[],[]⟩]) (.block 0 (.seq (.tidy 0 [1,3,7,8,9]) (.loop (.seq (.tidy 0 [1,3,7,8,9]) f34_L0))))) (.seq (.reg [⟨[],[(2,(.or (.or (.bin .gtr (.len false (.ld 1 false (.fa 0 (.sl 1)))) (.int .i64 2000)) (.bin .gtr (.len false (.ld 1 false (.fa 1 (.sl 1)))) (.int .i64 2000))) (.bin .gtr (.sl 3) (.int .i64 200000))))],[],none,[],15,[],[],[]⟩]) (.seq (.tidy 0 [2]) .ret))))), [(.sl 2)],false⟩
theorem j3r:q09 Go.Proofs.Tryz.prog 34 0 1 f34=true:=by kernel_rfl
/- 'sloth/code.isName' -/
def f35_L0:C:= (.seq (.reg [⟨[],[(7,(.bin .lss (.sl 6) (.sl 5)))],[],none,[0,5,6],1,[],[],[]⟩]) (.seq (.cond (.sl 7) .skip (.seq (.tidy 0 [0]) (.exit 0))) (.seq (.block 1 (.seq (.reg [⟨[],[(3,(.sl 6))],[],none,[0,5,6],2,[],[],[]⟩]) (.seq (.reg [⟨[],[(18,(.or (.bin .lss (.ix (.sl 0) (.sl 3)) (.int .u8 32)) (.bin .gtr (.ix (.sl 0) (.sl 3)) (.int .u8 126))))],[],none,[0,5,6],10,[],[],[]⟩]) (.cond (.sl 18) (.seq (.reg [⟨[],[(2,(.bool false))],[],none,[],1,[],[],[]⟩]) (.seq (.tidy 0 [2]) .ret)) .skip)))) (.reg [⟨[],[(6,(.bin .add (.sl 6) (.int .i64 1)))],[],none,[0,5],2,[],[],[]⟩]))))
def f35:Fun:=⟨ (.seq (.reg [⟨[],[],[(.bool false)],none,[0],1,[],[],[]⟩]) (.seq (.seq (.reg [⟨[],[(5,(.len true (.sl 0))),(6,(.int .i64 0))],[],none,[0],3,[],[],[]⟩]) (.block 0 (.seq (.tidy 0 [0,5,6]) (.loop (.seq (.tidy 0 [0,5,6]) f35_L0))))) (.seq (.reg [⟨[],[(2,(.and (.bin .geq (.len true (.sl 0)) (.int .i64 1)) (.bin .leq (.len true (.sl 0)) (.int .i64 4096))))],[],none,[],9,[],[],[]⟩]) (.seq (.tidy 0 [2]) .ret)))), [(.sl 2)],false⟩
theorem j3q:q09 Go.Proofs.Tryz.prog 35 0 1 f35=true:=by kernel_rfl
/- 'sloth/code.given' -/
def f36:Fun:=⟨ (.seq (.reg [⟨[],[],[(.nilsl 2)],none,[],1,[],[],[]⟩]) (.seq (.reg [⟨[(8,.lits 2 (.cons (.set 0 1 (.str [70,97,108,115,101]) (.agg (.cons (.str []) (.cons (.int .i64 0) .nil)))) (.cons (.set 0 1 (.str [84,114,117,101]) (.agg (.cons (.str []) (.cons (.int .i64 0) .nil)))) (.cons (.set 0 1 (.str [85,110,105,116]) (.agg (.cons (.str []) (.cons (.int .i64 0) .nil)))) (.cons (.set 0 1 (.str [78,105,108]) (.agg (.cons (.str []) (.cons (.int .i64 0) .nil)))) (.cons (.set 1 1 (.int .i64 2) (.set 0 1 (.str [67,111,110,115]) (.agg (.cons (.str []) (.cons (.int .i64 0) .nil))))) (.cons (.set 1 1 (.int .i64 2) (.set 0 1 (.str [80,97,105,114]) (.agg (.cons (.str []) (.cons (.int .i64 0) .nil))))) (.cons (.set 1 1 (.int .i64 3) (.set 0 1 (.str [84,114,105,112,108,101]) (.agg (.cons (.str []) (.cons (.int .i64 0) .nil))))) .nil))))))))],[(0,(.sl 8))],[],none,[],9,[],[],[]⟩]) (.seq (.tidy 0 [0]) .ret))), [(.sl 0)],true⟩
theorem j3p:q09 Go.Proofs.Tryz.prog 36 0 0 f36=true:=by kernel_rfl
/- 'sloth/code.checkCode' -/
def f37_L0:C:= (.seq (.reg [⟨[],[(23,(.bin .lss (.sl 22) (.sl 21)))],[],none,[2,3,20,21,22],1,[],[],[]⟩]) (.seq (.cond (.sl 23) .skip (.seq (.tidy 0 [2,3]) (.exit 0))) (.seq (.block 1 (.seq (.reg [⟨[(6,.box (.agg (.cons (.int .i64 0) (.cons (.int .i64 0) (.cons (.int .i64 0) .nil)))))],[(5,(.sl 22))],[],some (none,.store 3 (.sl 6) (.ld 3 true (.ia 3 (.sl 20) (.sl 22)))),[2,3,6,20,21,22],6,[],[],[]⟩]) (.seq (.reg [⟨[(7,.box (.agg (.cons (.str []) (.cons (.int .i64 0) (.cons (.int .i64 0) .nil)))))],[(32,(.ext 1 (.call 79 (.cons (.ld 1 false (.fa 0 (.sl 6))) .nil))))],[],some (none,.store 3 (.sl 7) (.ext 0 (.call 79 (.cons (.ld 1 false (.fa 0 (.sl 6))) .nil)))),[2,3,5,6,7,20,21,22],8,[],[],[]⟩,⟨[],[(8,(.sl 32))],[],none,[2,3,5,6,7,20,21,22],1,[],[],[]⟩]) (.seq (.seq (.reg [⟨[],[(34,(.un .not (.sl 8)))],[],none,[2,3,5,6,7,20,21,22],2,[],[],[]⟩]) (.cond (.sl 34) (.seq (.reg [⟨[],[(4,(.int .i64 172))],[],none,[],1,[],[],[]⟩]) (.seq (.tidy 0 [4]) .ret)) .skip)) (.seq (.reg [⟨[],[(9,(.call 80 (.cons (.ld 2 true (.sl 2)) (.cons (.ld 3 true (.sl 3)) (.cons (.sl 5) (.cons (.ld 1 false (.fa 1 (.sl 6))) (.cons (.ld 1 false (.fa 1 (.sl 7))) .nil))))))),(10,(.call 80 (.cons (.ld 2 true (.sl 2)) (.cons (.ld 3 true (.sl 3)) (.cons (.sl 5) (.cons (.ld 1 false (.fa 2 (.sl 6))) (.cons (.ld 1 false (.fa 2 (.sl 7))) .nil)))))))],[],none,[2,3,20,21,22],18,[[],[],[],[],[3],[],[5],[5,6,3,4,2,1,0],[],[],[],[],[11],[],[13],[0,1,2,4,3,6,5,7,13,14,11,12,10,9,8],[8,9,10,12,11,14,13,15,0,1,2,4,3,6,5,7],[16,8,9,10,12,11,14,13,7,5,6,3,4,2,1,0,15]],[],[]⟩]) (.seq (.seq (.reg [⟨[],[(56,(.or (.bin .eql (.sl 9) (.int .i64 172)) (.bin .eql (.sl 10) (.int .i64 172))))],[],none,[2,3,9,10,20,21,22],6,[],[],[]⟩]) (.cond (.sl 56) (.seq (.reg [⟨[],[(4,(.int .i64 172))],[],none,[],1,[],[],[]⟩]) (.seq (.tidy 0 [4]) .ret)) .skip)) (.seq (.reg [⟨[],[(62,(.or (.bin .neq (.sl 9) (.int .i64 0)) (.bin .neq (.sl 10) (.int .i64 0))))],[],none,[2,3,20,21,22],6,[],[],[]⟩]) (.cond (.sl 62) (.seq (.reg [⟨[],[(4,(.int .i64 174))],[],none,[],1,[],[],[]⟩]) (.seq (.tidy 0 [4]) .ret)) .skip)))))))) (.reg [⟨[],[(22,(.bin .add (.sl 22) (.int .i64 1)))],[],none,[2,3,20,21],2,[],[],[]⟩]))))
def f37_L1:C:= (.seq (.reg [⟨[],[(81,(.bin .lss (.sl 80) (.sl 79)))],[],none,[2,3,11,78,79,80],1,[],[],[]⟩]) (.seq (.cond (.sl 81) .skip (.seq (.tidy 0 []) (.exit 2))) (.seq (.block 3 (.seq (.reg [⟨[(13,.box (.agg (.cons (.int .i64 0) (.cons (.int .i64 0) (.cons (.int .i64 0) .nil)))))],[(12,(.sl 80))],[],some (none,.store 3 (.sl 13) (.ld 3 true (.ia 3 (.sl 78) (.sl 80)))),[2,3,11,13,78,79,80],6,[],[],[]⟩]) (.seq (.reg [⟨[],[(14,(.ld 1 false (.ia 1 (.sl 11) (.sl 12))))],[],none,[2,3,11,12,13,78,79,80],5,[],[],[]⟩]) (.seq (.seq (.reg [⟨[],[(90,(.bin .eql (.sl 14) (.int .i64 0)))],[],none,[2,3,11,12,13,14,78,79,80],2,[],[],[]⟩]) (.cond (.sl 90) (.seq (.reg [⟨[],[(4,(.int .i64 174))],[],none,[],1,[],[],[]⟩]) (.seq (.tidy 0 [4]) .ret)) .skip)) (.seq (.reg [⟨[],[(15,(.ext 0 (.call 81 (.cons (.ld 2 true (.sl 2)) (.cons (.ld 3 true (.sl 13)) (.cons (.sl 14) .nil)))))),(16,(.ext 1 (.call 81 (.cons (.ld 2 true (.sl 2)) (.cons (.ld 3 true (.sl 13)) (.cons (.sl 14) .nil))))))],[],none,[2,3,11,12,13,78,79,80],9,[],[],[]⟩]) (.seq (.seq (.reg [⟨[],[(99,(.un .not (.sl 16)))],[],none,[2,3,11,12,13,15,78,79,80],2,[],[],[]⟩]) (.cond (.sl 99) (.seq (.reg [⟨[],[(4,(.int .i64 173))],[],none,[],1,[],[],[]⟩]) (.seq (.tidy 0 [4]) .ret)) .skip)) (.seq (.reg [⟨[],[(17,(.and (.and (.bin .neq (.ld 1 false (.fa 0 (.sl 13))) (.int .i64 13)) (.bin .neq (.ld 1 false (.fa 0 (.sl 13))) (.int .i64 16))) (.bin .neq (.ld 1 false (.fa 0 (.sl 13))) (.int .i64 17))))],[],none,[2,3,11,12,13,15,78,79,80],14,[],[],[]⟩]) (.seq (.seq (.reg [⟨[],[(121,(.and (.sl 17) (.bin .eql (.bin .add (.sl 12) (.int .i64 1)) (.len false (.ld 1 false (.fa 2 (.sl 3)))))))],[],none,[2,3,11,12,13,15,17,78,79,80],9,[],[],[]⟩]) (.cond (.sl 121) (.seq (.reg [⟨[],[(4,(.int .i64 174))],[],none,[],1,[],[],[]⟩]) (.seq (.tidy 0 [4]) .ret)) .skip)) (.seq (.seq (.reg [⟨[],[(123,(.sl 17))],[],some (some 128,.calle 82 (.cons (.sl 11) (.cons (.bin .add (.sl 12) (.int .i64 1)) (.cons (.sl 15) .nil)))),[2,3,11,13,15,78,79,80],7,[],[((.sl 17),true)],[]⟩,⟨[],[(130,(.and (.sl 123) (.un .not (.sl 128))))],[],none,[2,3,11,13,15,78,79,80],2,[],[],[]⟩]) (.cond (.sl 130) (.seq (.reg [⟨[],[(4,(.int .i64 173))],[],none,[],1,[],[],[]⟩]) (.seq (.tidy 0 [4]) .ret)) .skip)) (.seq (.reg [⟨[],[(18,(.int .i64 0))],[],none,[2,3,11,13,15,78,79,80],1,[],[],[]⟩]) (.seq (.seq (.reg [⟨[],[(132,(.ld 1 false (.fa 0 (.sl 13))))],[],none,[2,3,11,13,15,18,78,79,80],2,[],[],[]⟩]) (.block 4 (.seq (.reg [⟨[],[(133,(.bin .eql (.sl 132) (.int .i64 13)))],[],none,[2,3,11,13,15,18,78,79,80,132],2,[],[],[]⟩]) (.cond (.sl 133) (.reg [⟨[],[(18,(.ld 1 false (.fa 1 (.sl 13))))],[],none,[2,3,11,15,78,79,80],3,[],[],[]⟩]) (.seq (.seq (.reg [⟨[],[(137,(.bin .eql (.sl 132) (.int .i64 14)))],[],none,[2,3,11,13,15,18,78,79,80,132],2,[],[],[]⟩]) (.cond (.sl 137) .skip (.reg [⟨[],[(137,(.bin .eql (.sl 132) (.int .i64 15)))],[],none,[2,3,11,13,15,18,78,79,80],2,[],[],[]⟩]))) (.cond (.sl 137) (.reg [⟨[],[(18,(.ld 1 false (.fa 2 (.sl 13))))],[],none,[2,3,11,15,78,79,80],3,[],[],[]⟩]) .skip)))))) (.seq (.reg [⟨[],[(144,(.bin .gtr (.sl 18) (.int .i64 0)))],[],some (some 148,.calle 82 (.cons (.sl 11) (.cons (.sl 18) (.cons (.sl 15) .nil)))),[2,3,11,78,79,80],7,[],[((.bin .gtr (.sl 18) (.int .i64 0)),true)],[]⟩,⟨[],[(150,(.and (.sl 144) (.un .not (.sl 148))))],[],none,[2,3,11,78,79,80],2,[],[],[]⟩]) (.cond (.sl 150) (.seq (.reg [⟨[],[(4,(.int .i64 173))],[],none,[],1,[],[],[]⟩]) (.seq (.tidy 0 [4]) .ret)) .skip))))))))))))) (.reg [⟨[],[(80,(.bin .add (.sl 80) (.int .i64 1)))],[],none,[2,3,11,78,79],2,[],[],[]⟩]))))
def f37:Fun:=⟨ (.seq (.reg [⟨[(2,.box (.sl 0)),(3,.box (.sl 1))],[],[(.int .i64 0)],none,[2,3],3,[],[],[]⟩]) (.seq (.seq (.reg [⟨[],[(20,(.ld 1 false (.fa 2 (.sl 3)))),(21,(.len false (.ld 1 false (.fa 2 (.sl 3))))),(22,(.int .i64 0))],[],none,[2,3],4,[],[],[]⟩]) (.block 0 (.seq (.tidy 0 [2,3,20,21,22]) (.loop (.seq (.tidy 0 [2,3,20,21,22]) f37_L0))))) (.seq (.seq (.reg [⟨[],[(67,(.bin .eql (.len false (.ld 1 false (.fa 2 (.sl 3)))) (.int .i64 0)))],[],none,[2,3],4,[],[],[]⟩]) (.cond (.sl 67) (.seq (.reg [⟨[],[(4,(.int .i64 174))],[],none,[],1,[],[],[]⟩]) (.seq (.tidy 0 [4]) .ret)) .skip)) (.seq (.reg [⟨[(71,.mks 1 (.cons (.int .i64 0) .nil) (.len false (.ld 1 false (.fa 2 (.sl 3)))) (.len false (.ld 1 false (.fa 2 (.sl 3)))))],[(11,(.sl 71))],[],none,[2,3],5,[],[],[]⟩]) (.seq (.reg [⟨[],[],[],some (none,.store 1 (.ia 1 (.sl 11) (.int .i64 0)) (.bin .add (.ld 1 false (.fa 1 (.sl 3))) (.int .i64 1))),[2,3,11],6,[],[],[]⟩]) (.seq (.seq (.reg [⟨[],[(78,(.ld 1 false (.fa 2 (.sl 3)))),(79,(.len false (.ld 1 false (.fa 2 (.sl 3))))),(80,(.int .i64 0))],[],none,[2,3,11],4,[],[],[]⟩]) (.block 2 (.seq (.tidy 0 [2,3,11,78,79,80]) (.loop (.seq (.tidy 0 [2,3,11,78,79,80]) f37_L1))))) (.seq (.reg [⟨[],[(4,(.int .i64 0))],[],none,[],1,[],[],[]⟩]) (.seq (.tidy 0 [4]) .ret)))))))), [(.sl 4)],false⟩
theorem j3o:q09 Go.Proofs.Tryz.prog 37 0 2 f37=true:=by kernel_rfl
/- 'sloth/slothref17.Shapes' -/
def f78:Fun:=⟨ (.seq (.reg [⟨[],[],[(.nilsl 2)],none,[],1,[],[],[]⟩]) (.seq (.reg [⟨[(8,.lits 2 (.cons (.set 0 1 (.str [70,97,108,115,101]) (.agg (.cons (.str []) (.cons (.int .i64 0) .nil)))) (.cons (.set 0 1 (.str [84,114,117,101]) (.agg (.cons (.str []) (.cons (.int .i64 0) .nil)))) (.cons (.set 0 1 (.str [85,110,105,116]) (.agg (.cons (.str []) (.cons (.int .i64 0) .nil)))) (.cons (.set 0 1 (.str [78,105,108]) (.agg (.cons (.str []) (.cons (.int .i64 0) .nil)))) (.cons (.set 1 1 (.int .i64 2) (.set 0 1 (.str [67,111,110,115]) (.agg (.cons (.str []) (.cons (.int .i64 0) .nil))))) (.cons (.set 1 1 (.int .i64 2) (.set 0 1 (.str [80,97,105,114]) (.agg (.cons (.str []) (.cons (.int .i64 0) .nil))))) (.cons (.set 1 1 (.int .i64 3) (.set 0 1 (.str [84,114,105,112,108,101]) (.agg (.cons (.str []) (.cons (.int .i64 0) .nil))))) .nil))))))))],[(0,(.sl 8))],[],none,[],9,[],[],[]⟩]) (.seq (.tidy 0 [0]) .ret))), [(.sl 0)],true⟩
theorem j2V:q09 Go.Proofs.Tryz.prog 78 0 0 f78=true:=by kernel_rfl
/- 'sloth/code.forms' -/
def f79:Fun:=⟨ (.seq (.reg [⟨[(2,.box (.agg (.cons (.str []) (.cons (.int .i64 0) (.cons (.int .i64 0) .nil)))))],[],[(.bool false)],none,[0,2],2,[],[],[]⟩]) (.seq (.reg [⟨[(4,.box (.agg (.cons (.str []) (.cons (.int .i64 0) (.cons (.int .i64 0) (.cons (.str []) (.cons (.int .i64 0) (.cons (.int .i64 0) (.cons (.str []) (.cons (.int .i64 0) (.cons (.int .i64 0) (.cons (.str []) (.cons (.int .i64 0) (.cons (.int .i64 0) (.cons (.str []) (.cons (.int .i64 0) (.cons (.int .i64 0) (.cons (.str []) (.cons (.int .i64 0) (.cons (.int .i64 0) (.cons (.str []) (.cons (.int .i64 0) (.cons (.int .i64 0) (.cons (.str []) (.cons (.int .i64 0) (.cons (.int .i64 0) (.cons (.str []) (.cons (.int .i64 0) (.cons (.int .i64 0) (.cons (.str []) (.cons (.int .i64 0) (.cons (.int .i64 0) (.cons (.str []) (.cons (.int .i64 0) (.cons (.int .i64 0) (.cons (.str []) (.cons (.int .i64 0) (.cons (.int .i64 0) (.cons (.str []) (.cons (.int .i64 0) (.cons (.int .i64 0) (.cons (.str []) (.cons (.int .i64 0) (.cons (.int .i64 0) (.cons (.str []) (.cons (.int .i64 0) (.cons (.int .i64 0) (.cons (.str []) (.cons (.int .i64 0) (.cons (.int .i64 0) (.cons (.str []) (.cons (.int .i64 0) (.cons (.int .i64 0) (.cons (.str []) (.cons (.int .i64 0) (.cons (.int .i64 0) .nil))))))))))))))))))))))))))))))))))))))))))))))))))))))))],[],[],some (none,.store 54 (.sl 4) (.set 51 3 (.set 2 1 (.int .i64 0) (.set 1 1 (.int .i64 0) (.set 0 1 (.str [117,110,119,105,110,100]) (.agg (.cons (.str []) (.cons (.int .i64 0) (.cons (.int .i64 0) .nil))))))) (.set 48 3 (.set 2 1 (.int .i64 0) (.set 1 1 (.int .i64 7) (.set 0 1 (.str [102,97,105,108]) (.agg (.cons (.str []) (.cons (.int .i64 0) (.cons (.int .i64 0) .nil))))))) (.set 45 3 (.set 2 1 (.int .i64 8) (.set 1 1 (.int .i64 3) (.set 0 1 (.str [116,101,115,116,105,110,116]) (.agg (.cons (.str []) (.cons (.int .i64 0) (.cons (.int .i64 0) .nil))))))) (.set 42 3 (.set 2 1 (.int .i64 8) (.set 1 1 (.int .i64 5) (.set 0 1 (.str [116,101,115,116,99,111,110]) (.agg (.cons (.str []) (.cons (.int .i64 0) (.cons (.int .i64 0) .nil))))))) (.set 39 3 (.set 2 1 (.int .i64 0) (.set 1 1 (.int .i64 8) (.set 0 1 (.str [106,117,109,112]) (.agg (.cons (.str []) (.cons (.int .i64 0) (.cons (.int .i64 0) .nil))))))) (.set 36 3 (.set 2 1 (.int .i64 0) (.set 1 1 (.int .i64 6) (.set 0 1 (.str [97,114,105,116,104]) (.agg (.cons (.str []) (.cons (.int .i64 0) (.cons (.int .i64 0) .nil))))))) (.set 33 3 (.set 2 1 (.int .i64 0) (.set 1 1 (.int .i64 0) (.set 0 1 (.str [101,118,97,108]) (.agg (.cons (.str []) (.cons (.int .i64 0) (.cons (.int .i64 0) .nil))))))) (.set 30 3 (.set 2 1 (.int .i64 0) (.set 1 1 (.int .i64 5) (.set 0 1 (.str [115,112,108,105,116]) (.agg (.cons (.str []) (.cons (.int .i64 0) (.cons (.int .i64 0) .nil))))))) (.set 27 3 (.set 2 1 (.int .i64 0) (.set 1 1 (.int .i64 5) (.set 0 1 (.str [112,97,99,107]) (.agg (.cons (.str []) (.cons (.int .i64 0) (.cons (.int .i64 0) .nil))))))) (.set 24 3 (.set 2 1 (.int .i64 0) (.set 1 1 (.int .i64 1) (.set 0 1 (.str [97,108,108,111,99]) (.agg (.cons (.str []) (.cons (.int .i64 0) (.cons (.int .i64 0) .nil))))))) (.set 21 3 (.set 2 1 (.int .i64 0) (.set 1 1 (.int .i64 2) (.set 0 1 (.str [117,112,100,97,116,101]) (.agg (.cons (.str []) (.cons (.int .i64 0) (.cons (.int .i64 0) .nil))))))) (.set 18 3 (.set 2 1 (.int .i64 0) (.set 1 1 (.int .i64 0) (.set 0 1 (.str [97,112,112,108,121]) (.agg (.cons (.str []) (.cons (.int .i64 0) (.cons (.int .i64 0) .nil))))))) (.set 15 3 (.set 2 1 (.int .i64 0) (.set 1 1 (.int .i64 1) (.set 0 1 (.str [115,108,105,100,101]) (.agg (.cons (.str []) (.cons (.int .i64 0) (.cons (.int .i64 0) .nil))))))) (.set 12 3 (.set 2 1 (.int .i64 0) (.set 1 1 (.int .i64 1) (.set 0 1 (.str [112,111,112]) (.agg (.cons (.str []) (.cons (.int .i64 0) (.cons (.int .i64 0) .nil))))))) (.set 9 3 (.set 2 1 (.int .i64 0) (.set 1 1 (.int .i64 3) (.set 0 1 (.str [105,110,116]) (.agg (.cons (.str []) (.cons (.int .i64 0) (.cons (.int .i64 0) .nil))))))) (.set 6 3 (.set 2 1 (.int .i64 0) (.set 1 1 (.int .i64 4) (.set 0 1 (.str [103,108,111,98]) (.agg (.cons (.str []) (.cons (.int .i64 0) (.cons (.int .i64 0) .nil))))))) (.set 3 3 (.set 2 1 (.int .i64 0) (.set 1 1 (.int .i64 1) (.set 0 1 (.str [112,117,115,104]) (.agg (.cons (.str []) (.cons (.int .i64 0) (.cons (.int .i64 0) .nil))))))) (.set 0 3 (.agg (.cons (.str []) (.cons (.int .i64 0) (.cons (.int .i64 0) .nil)))) (.agg (.cons (.str []) (.cons (.int .i64 0) (.cons (.int .i64 0) (.cons (.str []) (.cons (.int .i64 0) (.cons (.int .i64 0) (.cons (.str []) (.cons (.int .i64 0) (.cons (.int .i64 0) (.cons (.str []) (.cons (.int .i64 0) (.cons (.int .i64 0) (.cons (.str []) (.cons (.int .i64 0) (.cons (.int .i64 0) (.cons (.str []) (.cons (.int .i64 0) (.cons (.int .i64 0) (.cons (.str []) (.cons (.int .i64 0) (.cons (.int .i64 0) (.cons (.str []) (.cons (.int .i64 0) (.cons (.int .i64 0) (.cons (.str []) (.cons (.int .i64 0) (.cons (.int .i64 0) (.cons (.str []) (.cons (.int .i64 0) (.cons (.int .i64 0) (.cons (.str []) (.cons (.int .i64 0) (.cons (.int .i64 0) (.cons (.str []) (.cons (.int .i64 0) (.cons (.int .i64 0) (.cons (.str []) (.cons (.int .i64 0) (.cons (.int .i64 0) (.cons (.str []) (.cons (.int .i64 0) (.cons (.int .i64 0) (.cons (.str []) (.cons (.int .i64 0) (.cons (.int .i64 0) (.cons (.str []) (.cons (.int .i64 0) (.cons (.int .i64 0) (.cons (.str []) (.cons (.int .i64 0) (.cons (.int .i64 0) (.cons (.str []) (.cons (.int .i64 0) (.cons (.int .i64 0) .nil)))))))))))))))))))))))))))))))))))))))))))))))))))))))))))))))))))))))))),[0,2,4],21,[],[],[]⟩]) (.seq (.seq (.reg [⟨[],[(29,(.or (.bin .lss (.sl 0) (.int .i64 1)) (.bin .geq (.sl 0) (.int .i64 18))))],[],none,[0,2,4],6,[],[],[]⟩]) (.cond (.sl 29) (.seq (.reg [⟨[],[],[],some (none,.store 3 (.sl 2) (.agg (.cons (.str []) (.cons (.int .i64 0) (.cons (.int .i64 0) .nil))))),[2],2,[],[],[]⟩,⟨[],[(3,(.bool false))],[],none,[2],1,[],[],[]⟩]) (.seq (.tidy 0 [2,3]) .ret)) .skip)) (.seq (.reg [⟨[],[],[],some (none,.store 3 (.sl 2) (.ld 3 true (.aa 18 3 (.sl 4) (.sl 0)))),[2],4,[],[],[]⟩,⟨[],[(3,(.bool true))],[],none,[2],1,[],[],[]⟩]) (.seq (.tidy 0 [2,3]) .ret))))), [(.ld 3 true (.sl 2)),(.sl 3)],false⟩
theorem j2U:q09 Go.Proofs.Tryz.prog 79 0 1 f79=true:=by kernel_rfl
/- 'sloth/code.number' -/
def f80:Fun:=⟨ (.seq (.reg [⟨[(5,.box (.sl 0)),(6,.box (.sl 1))],[],[(.int .i64 0)],none,[2,3,4,5,6],3,[],[],[]⟩]) (.seq (.reg [⟨[],[(11,(.bool true))],[],none,[2,3,4,5,6],1,[],[],[]⟩]) (.seq (.seq (.reg [⟨[],[(12,(.sl 4))],[],none,[2,3,5,6,11],1,[],[],[]⟩]) (.block 0 (.seq (.reg [⟨[],[(13,(.bin .eql (.sl 12) (.int .i64 0)))],[],none,[2,3,5,6,11,12],2,[],[],[]⟩]) (.cond (.sl 13) (.reg [⟨[],[(11,(.bin .eql (.sl 3) (.int .i64 0)))],[],none,[],3,[],[],[]⟩]) (.seq (.reg [⟨[],[(17,(.bin .eql (.sl 12) (.int .i64 1)))],[],none,[2,3,5,6,11,12],2,[],[],[]⟩]) (.cond (.sl 17) (.reg [⟨[],[(11,(.bin .geq (.sl 3) (.int .i64 0)))],[],none,[],3,[],[],[]⟩]) (.seq (.reg [⟨[],[(21,(.bin .eql (.sl 12) (.int .i64 2)))],[],none,[2,3,5,6,11,12],2,[],[],[]⟩]) (.cond (.sl 21) (.reg [⟨[],[(11,(.bin .geq (.sl 3) (.int .i64 1)))],[],none,[],3,[],[],[]⟩]) (.seq (.reg [⟨[],[(25,(.bin .eql (.sl 12) (.int .i64 3)))],[],none,[2,3,5,6,11,12],2,[],[],[]⟩]) (.cond (.sl 25) (.reg [⟨[],[(11,(.and (.bin .geq (.sl 3) (.int .i64 (-4611686018427387904))) (.bin .leq (.sl 3) (.int .i64 4611686018427387903))))],[],none,[],7,[],[],[]⟩]) (.seq (.reg [⟨[],[(33,(.bin .eql (.sl 12) (.int .i64 4)))],[],none,[2,3,5,6,11,12],2,[],[],[]⟩]) (.cond (.sl 33) (.reg [⟨[],[(11,(.and (.bin .geq (.sl 3) (.int .i64 0)) (.bin .lss (.sl 3) (.len false (.ld 1 false (.fa 1 (.sl 5)))))))],[],none,[],10,[],[],[]⟩]) (.seq (.reg [⟨[],[(44,(.bin .eql (.sl 12) (.int .i64 5)))],[],none,[2,3,5,6,11,12],2,[],[],[]⟩]) (.cond (.sl 44) (.reg [⟨[],[(11,(.and (.bin .geq (.sl 3) (.int .i64 0)) (.bin .lss (.sl 3) (.len false (.ld 1 false (.fa 0 (.sl 5)))))))],[],none,[],10,[],[],[]⟩]) (.seq (.reg [⟨[],[(55,(.bin .eql (.sl 12) (.int .i64 6)))],[],none,[2,3,6,11,12],2,[],[],[]⟩]) (.cond (.sl 55) (.reg [⟨[],[(11,(.and (.bin .geq (.sl 3) (.int .i64 1)) (.bin .leq (.sl 3) (.int .i64 11))))],[],none,[],7,[],[],[]⟩]) (.seq (.reg [⟨[],[(63,(.bin .eql (.sl 12) (.int .i64 7)))],[],none,[2,3,6,11,12],2,[],[],[]⟩]) (.cond (.sl 63) (.reg [⟨[],[(11,(.and (.bin .geq (.sl 3) (.int .i64 1)) (.bin .leq (.sl 3) (.int .i64 4))))],[],none,[],7,[],[],[]⟩]) (.seq (.reg [⟨[],[(71,(.bin .eql (.sl 12) (.int .i64 8)))],[],none,[2,3,6,11],2,[],[],[]⟩]) (.cond (.sl 71) (.seq (.reg [⟨[],[(82,(.or (.bin .leq (.sl 3) (.sl 2)) (.bin .geq (.sl 3) (.len false (.ld 1 false (.fa 2 (.sl 6)))))))],[],none,[11],10,[],[],[]⟩]) (.cond (.sl 82) (.seq (.reg [⟨[],[(10,(.int .i64 174))],[],none,[],1,[],[],[]⟩]) (.seq (.tidy 0 [10]) .ret)) .skip)) .skip)))))))))))))))))))) (.seq (.seq (.reg [⟨[],[(84,(.un .not (.sl 11)))],[],none,[],2,[],[],[]⟩]) (.cond (.sl 84) (.seq (.reg [⟨[],[(10,(.int .i64 172))],[],none,[],1,[],[],[]⟩]) (.seq (.tidy 0 [10]) .ret)) .skip)) (.seq (.reg [⟨[],[(10,(.int .i64 0))],[],none,[],1,[],[],[]⟩]) (.seq (.tidy 0 [10]) .ret)))))), [(.sl 10)],false⟩
theorem j2T:q09 Go.Proofs.Tryz.prog 80 0 5 f80=true:=by kernel_rfl
/- 'sloth/code.stacked' -/
def f81:Fun:=⟨ (.seq (.reg [⟨[(3,.box (.sl 0)),(4,.box (.sl 1))],[],[(.bool false),(.int .i64 0)],none,[2,3,4],4,[],[],[]⟩]) (.seq (.reg [⟨[],[(8,(.bool true)),(9,(.sl 2))],[],none,[2,3,4],3,[],[],[]⟩]) (.seq (.seq (.reg [⟨[],[(13,(.ld 1 false (.fa 0 (.sl 4))))],[],none,[2,3,4,8,9],2,[],[],[]⟩]) (.block 0 (.seq (.reg [⟨[],[(14,(.bin .eql (.sl 13) (.int .i64 1)))],[],none,[2,3,4,8,9,13],2,[],[],[]⟩]) (.cond (.sl 14) (.reg [⟨[],[(8,(.bin .lss (.ld 1 false (.fa 1 (.sl 4))) (.sl 2))),(9,(.bin .add (.sl 2) (.int .i64 1)))],[],none,[],8,[],[],[]⟩]) (.seq (.seq (.reg [⟨[],[(22,(.bin .eql (.sl 13) (.int .i64 2)))],[],none,[2,3,4,8,9,13],2,[],[],[]⟩]) (.cond (.sl 22) .skip (.reg [⟨[],[(22,(.bin .eql (.sl 13) (.int .i64 3)))],[],none,[2,3,4,8,9,13],2,[],[],[]⟩]))) (.cond (.sl 22) (.reg [⟨[],[(9,(.bin .add (.sl 2) (.int .i64 1)))],[],none,[8],3,[],[],[]⟩]) (.seq (.reg [⟨[],[(27,(.bin .eql (.sl 13) (.int .i64 4)))],[],none,[2,3,4,8,9,13],2,[],[],[]⟩]) (.cond (.sl 27) (.reg [⟨[],[(8,(.bin .lss (.ld 1 false (.fa 1 (.sl 4))) (.sl 2))),(9,(.bin .sub (.sl 2) (.ld 1 false (.fa 1 (.sl 4)))))],[],none,[],10,[[],[0],[],[2,0,1],[],[],[5],[5,6,4],[1,0,2,3],[3,2,0,1,8,4,6,5,7]],[],[]⟩]) (.seq (.reg [⟨[],[(37,(.bin .eql (.sl 13) (.int .i64 5)))],[],none,[2,3,4,8,9,13],2,[],[],[]⟩]) (.cond (.sl 37) (.reg [⟨[],[(8,(.bin .lss (.ld 1 false (.fa 1 (.sl 4))) (.bin .sub (.sl 2) (.int .i64 1)))),(9,(.bin .sub (.sl 2) (.ld 1 false (.fa 1 (.sl 4)))))],[],none,[],11,[[],[0],[],[2],[2,3,0,1],[],[],[6],[6,7,5],[1,0,3,2,4],[4,2,3,0,1,9,5,7,6,8]],[],[]⟩]) (.seq (.seq (.reg [⟨[],[(48,(.bin .eql (.sl 13) (.int .i64 6)))],[],none,[2,3,4,8,9,13],2,[],[],[]⟩]) (.cond (.sl 48) .skip (.reg [⟨[],[(48,(.bin .eql (.sl 13) (.int .i64 12)))],[],none,[2,3,4,8,9,13],2,[],[],[]⟩]))) (.cond (.sl 48) (.reg [⟨[],[(8,(.bin .gtr (.sl 2) (.int .i64 2))),(9,(.bin .sub (.sl 2) (.int .i64 1)))],[],none,[],6,[],[],[]⟩]) (.seq (.reg [⟨[],[(55,(.bin .eql (.sl 13) (.int .i64 7)))],[],none,[2,3,4,8,9,13],2,[],[],[]⟩]) (.cond (.sl 55) (.reg [⟨[],[(8,(.bin .lss (.ld 1 false (.fa 1 (.sl 4))) (.sl 2))),(9,(.bin .sub (.sl 2) (.int .i64 1)))],[],none,[],8,[],[],[]⟩]) (.seq (.reg [⟨[],[(63,(.bin .eql (.sl 13) (.int .i64 8)))],[],none,[2,3,4,8,9,13],2,[],[],[]⟩]) (.cond (.sl 63) (.reg [⟨[],[(8,(.bin .leq (.ld 1 false (.fa 1 (.sl 4))) (.int .i64 8000))),(9,(.bin .add (.sl 2) (.cond (.and (.bin .eql (.bin .and (.int .i64 8000) (.int .i64 0)) (.bin .and (.int .i64 8000) (.int .i64 0))) (.bin .lss (.int .i64 8000) (.ld 1 false (.fa 1 (.sl 4))))) (.int .i64 8000) (.ld 1 false (.fa 1 (.sl 4))))))],[],none,[],10,[[],[0],[0,1],[],[],[4],[4,5],[5,4,6,3],[1,0,2],[2,0,1,8,3,6,4,5,7]],[],[]⟩]) (.seq (.reg [⟨[],[(73,(.bin .eql (.sl 13) (.int .i64 9)))],[],none,[2,3,4,8,9,13],2,[],[],[]⟩]) (.cond (.sl 73) (.seq (.reg [⟨[],[(10,(.ld 1 false (.fa 1 (.ia 2 (.ld 1 false (.fa 0 (.sl 3))) (.ld 1 false (.fa 1 (.sl 4)))))))],[],none,[2],8,[],[],[]⟩]) (.reg [⟨[],[(8,(.bin .lss (.sl 10) (.sl 2))),(9,(.bin .add (.bin .sub (.sl 2) (.sl 10)) (.int .i64 1)))],[],none,[],9,[],[],[]⟩])) (.seq (.reg [⟨[],[(89,(.bin .eql (.sl 13) (.int .i64 10)))],[],none,[2,3,4,8,9,13],2,[],[],[]⟩]) (.cond (.sl 89) (.reg [⟨[],[(8,(.bin .gtr (.sl 2) (.int .i64 1))),(9,(.bin .add (.bin .sub (.sl 2) (.int .i64 1)) (.ld 1 false (.fa 1 (.ia 2 (.ld 1 false (.fa 0 (.sl 3))) (.ld 1 false (.fa 1 (.sl 4))))))))],[],none,[],14,[[],[0],[],[2],[],[4],[],[6],[6,7,4,5],[5,4,7,6,8],[8,6,7,4,5,9],[9,5,4,7,6,8,10,2,3],[0,1],[1,0,12,3,2,10,8,6,7,4,5,9,11]],[],[]⟩]) (.seq (.seq (.reg [⟨[],[(103,(.bin .eql (.sl 13) (.int .i64 11)))],[],none,[2,8,9,13],2,[],[],[]⟩]) (.cond (.sl 103) .skip (.seq (.reg [⟨[],[(103,(.bin .eql (.sl 13) (.int .i64 14)))],[],none,[2,8,9,13],2,[],[],[]⟩]) (.cond (.sl 103) .skip (.reg [⟨[],[(103,(.bin .eql (.sl 13) (.int .i64 15)))],[],none,[2,8,9,13],2,[],[],[]⟩]))))) (.cond (.sl 103) (.reg [⟨[],[(8,(.bin .gtr (.sl 2) (.int .i64 1)))],[],none,[9],3,[],[],[]⟩]) (.seq (.reg [⟨[],[(109,(.bin .eql (.sl 13) (.int .i64 17)))],[],none,[2,8,9],2,[],[],[]⟩]) (.cond (.sl 109) (.reg [⟨[],[(8,(.bin .eql (.sl 2) (.int .i64 1)))],[],none,[9],3,[],[],[]⟩]) .skip)))))))))))))))))))))))) (.seq (.reg [⟨[],[(6,(.sl 9)),(7,(.and (.sl 8) (.bin .leq (.sl 9) (.int .i64 8000))))],[],none,[],8,[],[],[]⟩]) (.seq (.tidy 0 [6,7]) .ret))))), [(.sl 6),(.sl 7)],false⟩
theorem j2S:q09 Go.Proofs.Tryz.prog 81 0 3 f81=true:=by kernel_rfl
/- 'sloth/code.reach' -/
def f82:Fun:=⟨ (.seq (.reg [⟨[],[],[(.bool false)],none,[0,1,2],1,[],[],[]⟩]) (.seq (.seq (.reg [⟨[],[(11,(.bin .eql (.ld 1 false (.ia 1 (.sl 0) (.sl 1))) (.int .i64 0)))],[],none,[0,1,2],5,[],[],[]⟩]) (.cond (.sl 11) (.reg [⟨[],[],[],some (none,.store 1 (.ia 1 (.sl 0) (.sl 1)) (.sl 2)),[0,1,2],5,[],[],[]⟩]) .skip)) (.seq (.reg [⟨[],[(6,(.bin .eql (.ld 1 false (.ia 1 (.sl 0) (.sl 1))) (.sl 2)))],[],none,[],7,[],[],[]⟩]) (.seq (.tidy 1 [6]) .ret)))), [(.sl 6)],false⟩
theorem j2R:q09 Go.Proofs.Tryz.prog 82 1 3 f82=true:=by kernel_rfl
end Go.Vm
end

section
namespace Go.Vm
set_option maxRecDepth 100000
open Go.RowKit Go.Shelf Go.Proofs
/- 'sloth/slothlaw17.awake' -/
def f11:Fun:=⟨ (.seq (.reg [⟨[],[],[(.bool false)],none,[],1,[],[],[]⟩]) (.seq (.reg [⟨[],[(1,(.str [115,104,97,112,101,32,34,70,97,108,115,101,34,32,48,10,115,104,97,112,101,32,34,84,114,117,101,34,32,48,10,115,104,97,112,101,32,34,85,110,105,116,34,32,48,10,115,104,97,112,101,32,34,78,105,108,34,32,48,10,115,104,97,112,101,32,34,67,111,110,115,34,32,50,10,115,104,97,112,101,32,34,80,97,105,114,34,32,50,10,115,104,97,112,101,32,34,84,114,105,112,108,101,34,32,51,10,103,108,111,98,97,108,32,34,105,100,34,32,49,10,32,32,112,117,115,104,32,48,10,32,32,117,112,100,97,116,101,32,50,10,32,32,112,111,112,32,49,10,32,32,117,110,119,105,110,100,10]))],[],none,[],1,[],[],[]⟩]) (.seq (.reg [⟨[],[(2,(.call 13 (.cons (.call 33 .nil) .nil)))],[],none,[1],3,[],[],[]⟩]) (.seq (.reg [⟨[],[(3,(.ext 0 (.call 19 (.cons (.call 33 .nil) .nil)))),(4,(.ext 1 (.call 19 (.cons (.call 33 .nil) .nil))))],[],none,[1,2],7,[],[],[]⟩]) (.seq (.reg [⟨[(5,.box (.agg (.cons (.nilsl 2) (.cons (.nilsl 3) .nil))))],[(24,(.ext 1 (.call 21 (.cons (.sl 1) .nil))))],[],some (none,.store 2 (.sl 5) (.ext 0 (.call 21 (.cons (.sl 1) .nil)))),[1,2,3,4,5],7,[],[],[]⟩,⟨[],[(6,(.sl 24))],[],none,[1,2,3,4,5],1,[],[],[]⟩]) (.seq (.reg [⟨[],[(7,(.ext 0 (.call 24 (.cons (.call 33 .nil) .nil)))),(8,(.ext 1 (.call 24 (.cons (.call 33 .nil) .nil))))],[],none,[1,2,3,4,5,6],7,[],[],[]⟩]) (.seq (.reg [⟨[(9,.box (.agg (.cons (.nilsl 2) (.cons (.nilsl 3) .nil))))],[(34,(.ext 1 (.call 27 (.cons (.sl 7) .nil))))],[],some (none,.store 2 (.sl 9) (.ext 0 (.call 27 (.cons (.sl 7) .nil)))),[1,2,3,4,5,6,7,8,9],7,[],[],[]⟩,⟨[],[(10,(.sl 34))],[],none,[1,2,3,4,5,6,7,8,9],1,[],[],[]⟩]) (.seq (.reg [⟨[],[(11,(.call 15 (.cons (.ld 2 true (.sl 5)) (.cons (.call 33 .nil) .nil))))],[],none,[1,2,3,4,6,7,8,9,10],4,[[],[],[1,0],[0,1,2]],[],[]⟩]) (.seq (.reg [⟨[],[(12,(.call 15 (.cons (.ld 2 true (.sl 9)) (.cons (.call 33 .nil) .nil))))],[],none,[1,2,3,4,6,7,8,10,11],4,[[],[],[1,0],[0,1,2]],[],[]⟩]) (.seq (.reg [⟨[],[(0,(.and (.and (.and (.and (.and (.and (.and (.and (.bin .eql (.sl 2) (.int .i64 0)) (.bin .eql (.sl 4) (.int .i64 0))) (.bin .eql (.sl 3) (.sl 1))) (.bin .eql (.sl 6) (.int .i64 0))) (.bin .eql (.sl 8) (.int .i64 0))) (.bin .gtr (.len false (.sl 7)) (.int .i64 20))) (.bin .eql (.sl 10) (.int .i64 0))) (.sl 11)) (.sl 12)))],[],none,[],35,[],[],[]⟩]) (.seq (.tidy 0 [0]) .ret))))))))))), [(.sl 0)],false⟩
theorem j3G:q09 Go.Proofs.Tryz.prog 11 0 0 f11=true:=by kernel_rfl
/- 'sloth/slothref17.Same' -/
def f15_L0:C:= (.seq (.seq (.reg [⟨[],[(30,(.bin .lss (.sl 5) (.len false (.ld 1 false (.fa 0 (.sl 2))))))],[],none,[2,3,5],5,[],[],[]⟩]) (.cond (.sl 30) .skip (.seq (.tidy 0 [2,3]) (.exit 0)))) (.seq (.block 1 (.seq (.reg [⟨[],[(43,(.eqs true true [2,0] (.ld 2 true (.ia 2 (.ld 1 false (.fa 0 (.sl 2))) (.sl 5))) (.ld 2 true (.ia 2 (.ld 1 false (.fa 0 (.sl 3))) (.sl 5)))))],[],none,[2,3,5],11,[[],[0],[],[2,0,1],[1,0,2,3],[],[5],[],[7,5,6],[6,5,7,8],[8,7,5,6,9,3,2,0,1,4]],[],[]⟩]) (.cond (.sl 43) (.seq (.reg [⟨[],[(4,(.bool false))],[],none,[],1,[],[],[]⟩]) (.seq (.tidy 0 [4]) .ret)) .skip))) (.reg [⟨[],[(5,(.bin .add (.sl 5) (.int .i64 1)))],[],none,[2,3],3,[],[],[]⟩])))
def f15_L1:C:= (.seq (.seq (.reg [⟨[],[(86,(.bin .lss (.sl 9) (.len false (.ld 1 false (.fa 2 (.sl 7))))))],[],none,[2,3,6,7,8,9],5,[],[],[]⟩]) (.cond (.sl 86) .skip (.seq (.tidy 0 [2,3,6]) (.exit 4)))) (.seq (.block 5 (.seq (.reg [⟨[],[(99,(.eqs true true [0,0,0] (.ld 3 true (.ia 3 (.ld 1 false (.fa 2 (.sl 7))) (.sl 9))) (.ld 3 true (.ia 3 (.ld 1 false (.fa 2 (.sl 8))) (.sl 9)))))],[],none,[2,3,6,7,8,9],11,[[],[0],[],[2,0,1],[1,0,2,3],[],[5],[],[7,5,6],[6,5,7,8],[8,7,5,6,9,3,2,0,1,4]],[],[]⟩]) (.cond (.sl 99) (.seq (.reg [⟨[],[(4,(.bool false))],[],none,[],1,[],[],[]⟩]) (.seq (.tidy 0 [4]) .ret)) .skip))) (.reg [⟨[],[(9,(.bin .add (.sl 9) (.int .i64 1)))],[],none,[2,3,6,7,8],3,[],[],[]⟩])))
def f15_L2:C:= (.seq (.seq (.reg [⟨[],[(48,(.bin .lss (.sl 6) (.len false (.ld 1 false (.fa 1 (.sl 2))))))],[],none,[2,3,6],5,[],[],[]⟩]) (.cond (.sl 48) .skip (.seq (.tidy 0 []) (.exit 2)))) (.seq (.block 3 (.seq (.reg [⟨[(7,.box (.agg (.cons (.str []) (.cons (.int .i64 0) (.cons (.nilsl 3) .nil)))))],[],[],some (none,.store 3 (.sl 7) (.ld 3 true (.ia 3 (.ld 1 false (.fa 1 (.sl 2))) (.sl 6)))),[2,3,6,7],7,[],[],[]⟩]) (.seq (.reg [⟨[(8,.box (.agg (.cons (.str []) (.cons (.int .i64 0) (.cons (.nilsl 3) .nil)))))],[],[],some (none,.store 3 (.sl 8) (.ld 3 true (.ia 3 (.ld 1 false (.fa 1 (.sl 3))) (.sl 6)))),[2,3,6,7,8],7,[],[],[]⟩]) (.seq (.seq (.reg [⟨[],[(81,(.or (.or (.bin .neq (.ld 1 false (.fa 0 (.sl 7))) (.ld 1 false (.fa 0 (.sl 8)))) (.bin .neq (.ld 1 false (.fa 1 (.sl 7))) (.ld 1 false (.fa 1 (.sl 8))))) (.bin .neq (.len false (.ld 1 false (.fa 2 (.sl 7)))) (.len false (.ld 1 false (.fa 2 (.sl 8)))))))],[],none,[2,3,6,7,8],21,[],[],[]⟩]) (.cond (.sl 81) (.seq (.reg [⟨[],[(4,(.bool false))],[],none,[],1,[],[],[]⟩]) (.seq (.tidy 0 [4]) .ret)) .skip)) (.seq (.reg [⟨[],[(9,(.int .i64 0))],[],none,[2,3,6,7,8],1,[],[],[]⟩]) (.block 4 (.seq (.tidy 0 [2,3,6,7,8,9]) (.loop (.seq (.tidy 0 [2,3,6,7,8,9]) f15_L1))))))))) (.reg [⟨[],[(6,(.bin .add (.sl 6) (.int .i64 1)))],[],none,[2,3],3,[],[],[]⟩])))
def f15:Fun:=⟨ (.seq (.reg [⟨[(2,.box (.sl 0)),(3,.box (.sl 1))],[],[(.bool false)],none,[2,3],3,[],[],[]⟩]) (.seq (.seq (.reg [⟨[],[(25,(.or (.bin .neq (.len false (.ld 1 false (.fa 0 (.sl 2)))) (.len false (.ld 1 false (.fa 0 (.sl 3))))) (.bin .neq (.len false (.ld 1 false (.fa 1 (.sl 2)))) (.len false (.ld 1 false (.fa 1 (.sl 3)))))))],[],none,[2,3],16,[],[],[]⟩]) (.cond (.sl 25) (.seq (.reg [⟨[],[(4,(.bool false))],[],none,[],1,[],[],[]⟩]) (.seq (.tidy 0 [4]) .ret)) .skip)) (.seq (.seq (.reg [⟨[],[(5,(.int .i64 0))],[],none,[2,3],1,[],[],[]⟩]) (.block 0 (.seq (.tidy 0 [2,3,5]) (.loop (.seq (.tidy 0 [2,3,5]) f15_L0))))) (.seq (.seq (.reg [⟨[],[(6,(.int .i64 0))],[],none,[2,3],1,[],[],[]⟩]) (.block 2 (.seq (.tidy 0 [2,3,6]) (.loop (.seq (.tidy 0 [2,3,6]) f15_L2))))) (.seq (.reg [⟨[],[(4,(.bool true))],[],none,[],1,[],[],[]⟩]) (.seq (.tidy 0 [4]) .ret)))))), [(.sl 4)],false⟩
theorem j3C:q09 Go.Proofs.Tryz.prog 15 0 2 f15=true:=by kernel_rfl
/- 'sloth/code.Print' -/
def j3B:C:= (.seq (.reg [⟨[],[(21,(.bin .lss (.sl 20) (.sl 19)))],[],none,[1,5,18,19,20],1,[],[],[]⟩]) (.seq (.cond (.sl 21) .skip (.seq (.tidy 0 [1,5]) (.exit 0))) (.seq (.block 1 (.seq (.reg [⟨[(7,.box (.agg (.cons (.str []) (.cons (.int .i64 0) .nil))))],[],[],some (none,.store 2 (.sl 7) (.ld 2 true (.ia 2 (.sl 18) (.sl 20)))),[1,5,7,18,19,20],4,[],[],[]⟩]) (.reg [⟨[],[],[],some (some 34,.calle 47 (.cons (.sl 5) (.cons (.bin .add (.bin .add (.bin .add (.bin .add (.str [115,104,97,112,101,32]) (.call 48 (.cons (.ld 1 false (.fa 0 (.sl 7))) .nil))) (.str [32])) (.call 49 (.cons (.ld 1 false (.fa 1 (.sl 7))) .nil))) (.str [10])) .nil))),[1,5,18,19,20],11,[[],[0],[0,1],[1,0,2],[2,0,1,3],[],[5],[1,0,2,5,6],[6,5,7,3,1,0,2,4],[4,2,0,1,3,7,5,6,8],[8,6,5,7,3,1,0,2,4,9]],[],[]⟩]))) (.reg [⟨[],[(20,(.bin .add (.sl 20) (.int .i64 1)))],[],none,[1,5,18,19],2,[],[],[]⟩]))))
def j3A:C:= (.seq (.reg [⟨[],[(58,(.bin .lss (.sl 57) (.sl 56)))],[],none,[1,5,37,38,39,55,56,57],1,[],[],[]⟩]) (.seq (.cond (.sl 58) .skip (.seq (.tidy 0 [1,5,37,38,39]) (.exit 4))) (.seq (.block 5 (.seq (.reg [⟨[(11,.box (.agg (.cons (.int .i64 0) (.cons (.int .i64 0) (.cons (.int .i64 0) .nil)))))],[],[],some (none,.store 3 (.sl 11) (.ld 3 true (.ia 3 (.sl 55) (.sl 57)))),[1,5,11,37,38,39,55,56,57],4,[],[],[]⟩]) (.reg [⟨[],[],[],some (some 64,.calle 47 (.cons (.sl 5) (.cons (.call 50 (.cons (.ld 2 true (.sl 1)) (.cons (.ld 3 true (.sl 11)) .nil))) .nil))),[1,5,37,38,39,55,56,57],4,[],[],[]⟩]))) (.reg [⟨[],[(57,(.bin .add (.sl 57) (.int .i64 1)))],[],none,[1,5,37,38,39,55,56],2,[],[],[]⟩]))))
def j3z:C:= (.seq (.reg [⟨[],[(40,(.bin .lss (.sl 39) (.sl 38)))],[],none,[1,5,37,38,39],1,[],[],[]⟩]) (.seq (.cond (.sl 40) .skip (.seq (.tidy 0 [5]) (.exit 2))) (.seq (.block 3 (.seq (.reg [⟨[(9,.box (.agg (.cons (.str []) (.cons (.int .i64 0) (.cons (.nilsl 3) .nil)))))],[],[],some (none,.store 3 (.sl 9) (.ld 3 true (.ia 3 (.sl 37) (.sl 39)))),[1,5,9,37,38,39],4,[],[],[]⟩]) (.seq (.reg [⟨[],[],[],some (some 53,.calle 47 (.cons (.sl 5) (.cons (.bin .add (.bin .add (.bin .add (.bin .add (.str [103,108,111,98,97,108,32]) (.call 48 (.cons (.ld 1 false (.fa 0 (.sl 9))) .nil))) (.str [32])) (.call 49 (.cons (.ld 1 false (.fa 1 (.sl 9))) .nil))) (.str [10])) .nil))),[1,5,9,37,38,39],11,[[],[0],[0,1],[1,0,2],[2,0,1,3],[],[5],[1,0,2,5,6],[6,5,7,3,1,0,2,4],[4,2,0,1,3,7,5,6,8],[8,6,5,7,3,1,0,2,4,9]],[],[]⟩]) (.seq (.seq (.reg [⟨[],[(55,(.ld 1 false (.fa 2 (.sl 9)))),(56,(.len false (.ld 1 false (.fa 2 (.sl 9))))),(57,(.int .i64 0))],[],none,[1,5,37,38,39],4,[],[],[]⟩]) (.block 4 (.seq (.tidy 0 [1,5,37,38,39,55,56,57]) (.loop (.seq (.tidy 0 [1,5,37,38,39,55,56,57]) j3A))))) (.seq (.reg [⟨[],[],[],some (some 66,.calle 51 (.cons (.sl 5) .nil)),[1,5,37,38,39],1,[],[],[]⟩,⟨[],[(67,(.bin .gtr (.sl 66) (.int .i64 8388608)))],[],none,[1,5,37,38,39],1,[],[],[]⟩]) (.cond (.sl 67) (.seq (.reg [⟨[],[(2,(.str [])),(3,(.int .i64 4))],[],none,[],2,[],[],[]⟩]) (.seq (.tidy 0 [2,3]) .ret)) .skip)))))) (.reg [⟨[],[(39,(.bin .add (.sl 39) (.int .i64 1)))],[],none,[1,5,37,38],2,[],[],[]⟩]))))
def f19:Fun:=⟨ (.seq (.reg [⟨[(1,.box (.sl 0))],[],[(.int .i64 0),(.str [])],none,[1],3,[],[],[]⟩]) (.seq (.seq (.reg [⟨[],[(4,(.call 13 (.cons (.ld 2 true (.sl 1)) .nil)))],[],none,[1],3,[],[],[]⟩]) (.seq (.reg [⟨[],[(15,(.bin .neq (.sl 4) (.int .i64 0)))],[],none,[1,4],2,[],[],[]⟩]) (.cond (.sl 15) (.seq (.reg [⟨[],[(2,(.str [])),(3,(.sl 4))],[],none,[],3,[],[],[]⟩]) (.seq (.tidy 0 [2,3]) .ret)) .skip))) (.seq (.reg [⟨[(5,.bld 78 5)],[],[],none,[1,5],1,[],[],[]⟩]) (.seq (.seq (.reg [⟨[],[(18,(.ld 1 false (.fa 0 (.sl 1)))),(19,(.len false (.ld 1 false (.fa 0 (.sl 1))))),(20,(.int .i64 0))],[],none,[1,5],4,[],[],[]⟩]) (.block 0 (.seq (.tidy 0 [1,5,18,19,20]) (.loop (.seq (.tidy 0 [1,5,18,19,20]) j3B))))) (.seq (.seq (.reg [⟨[],[(37,(.ld 1 false (.fa 1 (.sl 1)))),(38,(.len false (.ld 1 false (.fa 1 (.sl 1))))),(39,(.int .i64 0))],[],none,[1,5],4,[],[],[]⟩]) (.block 2 (.seq (.tidy 0 [1,5,37,38,39]) (.loop (.seq (.tidy 0 [1,5,37,38,39]) j3z))))) (.seq (.seq (.reg [⟨[],[],[],some (some 69,.calle 51 (.cons (.sl 5) .nil)),[5],1,[],[],[]⟩,⟨[],[(70,(.bin .gtr (.sl 69) (.int .i64 8388608)))],[],none,[5],1,[],[],[]⟩]) (.cond (.sl 70) (.seq (.reg [⟨[],[(2,(.str [])),(3,(.int .i64 4))],[],none,[],2,[],[],[]⟩]) (.seq (.tidy 0 [2,3]) .ret)) .skip)) (.seq (.reg [⟨[],[],[],some (some 71,.calle 52 (.cons (.sl 5) .nil)),[],1,[],[],[]⟩,⟨[],[(2,(.sl 71)),(3,(.int .i64 0))],[],none,[],2,[],[],[]⟩]) (.seq (.tidy 0 [2,3]) .ret)))))))), [(.sl 2),(.sl 3)],false⟩
/- 'sloth/code.Read' -/
def f21:Fun:=⟨ (.seq (.reg [⟨[(2,.box (.agg (.cons (.nilsl 2) (.cons (.nilsl 3) .nil)))),(3,.box (.int .i64 0))],[],[],none,[0,2,3],2,[],[],[]⟩]) (.seq (.seq (.reg [⟨[],[(7,(.bin .gtr (.len true (.sl 0)) (.int .i64 8388608)))],[],none,[0,2,3],3,[],[],[]⟩]) (.cond (.sl 7) (.seq (.reg [⟨[],[],[],some (none,.store 2 (.sl 2) (.agg (.cons (.nilsl 2) (.cons (.nilsl 3) .nil)))),[2,3],2,[],[],[]⟩,⟨[],[],[],some (none,.store 1 (.sl 3) (.int .i64 2)),[2,3],1,[],[],[]⟩]) (.seq (.tidy 0 [2,3]) .ret)) .skip)) (.seq .stuck (.seq (.reg [⟨[(12,.box (.set 0 1 (.sl 0) (.agg (.cons (.str []) (.cons (.int .i64 0) (.cons (.nilsl 3) (.cons (.nilsl 2) (.cons (.nilsl 3) .nil))))))))],[(4,(.sl 12))],[],none,[2,3],4,[],[],[]⟩]) (.seq (.reg [⟨[],[],[],some (some 14,.calle 60 (.cons (.sl 4) .nil)),[2,3,4],2,[],[],[]⟩]) (.seq (.reg [⟨[],[],[],some (some 16,.calle 61 (.cons (.sl 4) .nil)),[2,3,4],2,[],[],[]⟩]) (.seq (.seq (.reg [⟨[],[(21,(.call 34 (.cons (.ld 2 true (.fa 3 (.fa 0 (.sl 4)))) .nil)))],[],none,[2,3,4],5,[],[],[]⟩]) (.cond (.sl 21) (.seq (.reg [⟨[],[],[],some (none,.store 2 (.sl 2) (.agg (.cons (.nilsl 2) (.cons (.nilsl 3) .nil)))),[2,3],2,[],[],[]⟩,⟨[],[],[],some (none,.store 1 (.sl 3) (.int .i64 4)),[2,3],1,[],[],[]⟩]) (.seq (.tidy 0 [2,3]) .ret)) .skip)) (.seq (.reg [⟨[],[],[],some (none,.store 2 (.sl 2) (.ld 2 true (.fa 3 (.fa 0 (.sl 4))))),[2,3],5,[],[],[]⟩,⟨[],[],[],some (none,.store 1 (.sl 3) (.int .i64 0)),[2,3],1,[],[],[]⟩]) (.seq (.tidy 0 [2,3]) .ret))))))))), [(.ld 2 true (.sl 2)),(.ld 1 false (.sl 3))],false⟩
/- 'sloth/code.Bytes' -/
def f24_L0:C:= (.seq (.reg [⟨[],[(28,(.bin .lss (.sl 27) (.sl 26)))],[],none,[1,5,25,26,27],1,[],[],[]⟩]) (.seq (.cond (.sl 28) .skip (.seq (.tidy 0 [1,5]) (.exit 0))) (.seq (.block 1 (.seq (.reg [⟨[(7,.box (.agg (.cons (.str []) (.cons (.int .i64 0) .nil))))],[],[],some (none,.store 2 (.sl 7) (.ld 2 true (.ia 2 (.sl 25) (.sl 27)))),[1,5,7,25,26,27],4,[],[],[]⟩]) (.reg [⟨[],[(37,(.conv .u64 (.ld 1 false (.fa 1 (.sl 7)))))],[],some (some 34,.calle 69 (.cons (.sl 5) (.cons (.ld 1 false (.fa 0 (.sl 7))) .nil))),[1,25,26,27],7,[[],[],[1],[1,2,0],[],[4],[4,5],[5,4,6,0,2,1,3],[3,1,2,0,6,4,5,7]],[],[(.fa 1 (.sl 7)),(.ld 1 false (.fa 1 (.sl 7))),(.conv .u64 (.ld 1 false (.fa 1 (.sl 7))))]⟩,⟨[],[],[],some (some 38,.calle 68 (.cons (.sl 34) (.cons (.sl 37) .nil))),[1,25,26,27],1,[],[],[]⟩,⟨[],[(5,(.sl 38))],[],none,[1,25,26,27],1,[],[],[]⟩]))) (.reg [⟨[],[(27,(.bin .add (.sl 27) (.int .i64 1)))],[],none,[1,5,25,26],2,[],[],[]⟩]))))
def f24_L1:C:= (.seq (.reg [⟨[],[(70,(.bin .lss (.sl 69) (.sl 68)))],[],none,[5,47,48,49,67,68,69],1,[],[],[]⟩]) (.seq (.cond (.sl 70) .skip (.seq (.tidy 0 [5,47,48,49]) (.exit 4))) (.seq (.block 5 (.seq (.reg [⟨[(11,.box (.agg (.cons (.int .i64 0) (.cons (.int .i64 0) (.cons (.int .i64 0) .nil)))))],[],[],some (none,.store 3 (.sl 11) (.ld 3 true (.ia 3 (.sl 67) (.sl 69)))),[5,11,47,48,49,67,68,69],4,[],[],[]⟩]) (.reg [⟨[],[],[],some (some 75,.calle 70 (.cons (.sl 5) (.cons (.ld 3 true (.sl 11)) .nil))),[47,48,49,67,68,69],3,[],[],[]⟩,⟨[],[(5,(.sl 75))],[],none,[47,48,49,67,68,69],1,[],[],[]⟩]))) (.reg [⟨[],[(69,(.bin .add (.sl 69) (.int .i64 1)))],[],none,[5,47,48,49,67,68],2,[],[],[]⟩]))))
def f24_L2:C:= (.seq (.reg [⟨[],[(50,(.bin .lss (.sl 49) (.sl 48)))],[],none,[5,47,48,49],1,[],[],[]⟩]) (.seq (.cond (.sl 50) .skip (.seq (.tidy 0 [5]) (.exit 2))) (.seq (.block 3 (.seq (.reg [⟨[(9,.box (.agg (.cons (.str []) (.cons (.int .i64 0) (.cons (.nilsl 3) .nil)))))],[],[],some (none,.store 3 (.sl 9) (.ld 3 true (.ia 3 (.sl 47) (.sl 49)))),[5,9,47,48,49],4,[],[],[]⟩]) (.seq (.regp [0,1,2,4,5,6,8,9,10,11,3,7,12,13] [⟨[],[],[(.conv .u64 (.len false (.ld 1 false (.fa 2 (.sl 9))))),(.conv .u64 (.ld 1 false (.fa 1 (.sl 9))))],some (some 56,.calle 69 (.cons (.sl 5) (.cons (.ld 1 false (.fa 0 (.sl 9))) .nil))),[9,47,48,49],11,[[],[],[1],[],[3],[3,4],[],[6],[6,7],[7,6,8],[1,2,0],[4,3,5,0,2,1,10],[8,6,7,9,10,1,2,0,5,3,4,11],[11,4,3,5,0,2,1,10,9,7,6,8,12]],[],[(.fa 1 (.sl 9)),(.ld 1 false (.fa 1 (.sl 9))),(.conv .u64 (.ld 1 false (.fa 1 (.sl 9)))),(.fa 2 (.sl 9)),(.ld 1 false (.fa 2 (.sl 9))),(.len false (.ld 1 false (.fa 2 (.sl 9)))),(.conv .u64 (.len false (.ld 1 false (.fa 2 (.sl 9)))))]⟩,⟨[],[],[(.conv .u64 (.len false (.ld 1 false (.fa 2 (.sl 9)))))],some (some 60,.calle 68 (.cons (.sl 56) (.cons (.conv .u64 (.ld 1 false (.fa 1 (.sl 9)))) .nil))),[9,47,48,49],1,[],[],[(.fa 2 (.sl 9)),(.ld 1 false (.fa 2 (.sl 9))),(.len false (.ld 1 false (.fa 2 (.sl 9)))),(.conv .u64 (.len false (.ld 1 false (.fa 2 (.sl 9)))))]⟩,⟨[],[],[],some (some 65,.calle 68 (.cons (.sl 60) (.cons (.conv .u64 (.len false (.ld 1 false (.fa 2 (.sl 9))))) .nil))),[9,47,48,49],1,[],[],[]⟩,⟨[],[(5,(.sl 65))],[],none,[9,47,48,49],1,[],[],[]⟩]) (.seq (.reg [⟨[],[(67,(.ld 1 false (.fa 2 (.sl 9)))),(68,(.len false (.ld 1 false (.fa 2 (.sl 9))))),(69,(.int .i64 0))],[],none,[5,47,48,49],4,[],[],[]⟩]) (.block 4 (.seq (.tidy 0 [5,47,48,49,67,68,69]) (.loop (.seq (.tidy 0 [5,47,48,49,67,68,69]) f24_L1)))))))) (.reg [⟨[],[(49,(.bin .add (.sl 49) (.int .i64 1)))],[],none,[5,47,48],2,[],[],[]⟩]))))
def f24:Fun:=⟨ (.seq (.reg [⟨[(1,.box (.sl 0))],[],[(.int .i64 0),(.nilsl 1)],none,[1],3,[],[],[]⟩]) (.seq (.seq (.reg [⟨[],[(4,(.call 13 (.cons (.ld 2 true (.sl 1)) .nil)))],[],none,[1],3,[],[],[]⟩]) (.seq (.reg [⟨[],[(15,(.bin .neq (.sl 4) (.int .i64 0)))],[],none,[1,4],2,[],[],[]⟩]) (.cond (.sl 15) (.seq (.reg [⟨[],[(2,(.nilsl 1)),(3,(.sl 4))],[],none,[],3,[],[],[]⟩]) (.seq (.tidy 0 [2,3]) .ret)) .skip))) (.seq (.reg [⟨[(17,.lits 1 (.cons (.int .u8 83) (.cons (.int .u8 76) (.cons (.int .u8 84) (.cons (.int .u8 72) .nil)))))],[],[],none,[1,17],1,[],[],[]⟩,⟨[],[],[],some (some 18,.mark (.sl 17)),[1],1,[],[],[]⟩,⟨[],[],[],some (some 23,.calle 68 (.cons (.sl 18) (.cons (.conv .u64 (.len false (.ld 1 false (.fa 0 (.sl 1))))) .nil))),[1],5,[],[],[]⟩,⟨[],[(5,(.sl 23))],[],none,[1],1,[],[],[]⟩]) (.seq (.seq (.reg [⟨[],[(25,(.ld 1 false (.fa 0 (.sl 1)))),(26,(.len false (.ld 1 false (.fa 0 (.sl 1))))),(27,(.int .i64 0))],[],none,[1,5],4,[],[],[]⟩]) (.block 0 (.seq (.tidy 0 [1,5,25,26,27]) (.loop (.seq (.tidy 0 [1,5,25,26,27]) f24_L0))))) (.seq (.reg [⟨[],[],[],some (some 45,.calle 68 (.cons (.sl 5) (.cons (.conv .u64 (.len false (.ld 1 false (.fa 1 (.sl 1))))) .nil))),[1],6,[],[],[]⟩,⟨[],[(5,(.sl 45))],[],none,[1],1,[],[],[]⟩]) (.seq (.seq (.reg [⟨[],[(47,(.ld 1 false (.fa 1 (.sl 1)))),(48,(.len false (.ld 1 false (.fa 1 (.sl 1))))),(49,(.int .i64 0))],[],none,[5],4,[],[],[]⟩]) (.block 2 (.seq (.tidy 0 [5,47,48,49]) (.loop (.seq (.tidy 0 [5,47,48,49]) f24_L2))))) (.seq (.reg [⟨[],[],[],some (some 82,.app 1 (.sl 5) (.call 71 (.cons (.call 72 (.cons (.sl 5) .nil)) .nil))),[],5,[],[],[]⟩,⟨[],[(5,(.sl 82))],[],none,[],1,[],[],[]⟩]) (.seq (.seq (.reg [⟨[],[(85,(.bin .gtr (.len false (.sl 5)) (.int .i64 8388608)))],[],none,[5],3,[],[],[]⟩]) (.cond (.sl 85) (.seq (.reg [⟨[],[(2,(.nilsl 1)),(3,(.int .i64 4))],[],none,[],2,[],[],[]⟩]) (.seq (.tidy 0 [2,3]) .ret)) .skip)) (.seq (.reg [⟨[],[(2,(.sl 5)),(3,(.int .i64 0))],[],none,[],3,[],[],[]⟩]) (.seq (.tidy 0 [2,3]) .ret)))))))))), [(.sl 2),(.sl 3)],false⟩
/- 'sloth/code.Load' -/
def f27:Fun:=⟨ (.seq (.reg [⟨[(2,.box (.agg (.cons (.nilsl 2) (.cons (.nilsl 3) .nil)))),(3,.box (.int .i64 0))],[],[],none,[0,2,3],2,[],[],[]⟩]) (.seq (.seq (.reg [⟨[],[(8,(.bin .gtr (.len false (.sl 0)) (.int .i64 8388608)))],[],none,[0,2,3],3,[],[],[]⟩]) (.cond (.sl 8) (.seq (.reg [⟨[],[],[],some (none,.store 2 (.sl 2) (.agg (.cons (.nilsl 2) (.cons (.nilsl 3) .nil)))),[2,3],2,[],[],[]⟩,⟨[],[],[],some (none,.store 1 (.sl 3) (.int .i64 2)),[2,3],1,[],[],[]⟩]) (.seq (.tidy 0 [2,3]) .ret)) .skip)) (.seq .stuck (.seq (.reg [⟨[],[(4,(.bin .sub (.len false (.sl 0)) (.int .i64 4)))],[],none,[0,2,3],4,[],[],[]⟩]) (.seq (.seq (.reg [⟨[],[(34,(.or (.or (.bin .lss (.sl 4) (.int .i64 4)) (.bin .neq (.b2s (.cut false false true false 1 (.sl 0) .nil (.int .i64 4) .nil)) (.str [83,76,84,72]))) (.bin .neq (.b2s (.call 71 (.cons (.call 72 (.cons (.cut false false true false 1 (.sl 0) .nil (.sl 4) .nil) .nil)) .nil))) (.b2s (.cut false true false false 1 (.sl 0) (.sl 4) .nil .nil)))))],[],none,[0,2,3,4],21,[[],[0],[0,1],[1,0,2],[2,0,1,3],[3,1,0,2,4],[4,2,0,1,3,5],[5,3,4,6,1,0,2],[2,0,1,6,4,3,5,7],[7,5,3,4,6,1,0,2,8],[7,5,3,4,6,1,0,2,8],[10,8,2,0,1,6,4,3,5,7,9],[9,7,5,3,4,6,1,0,2,8,10,11],[11,10,8,2,0,1,6,4,3,5,7,9,12],[12,9,7,5,3,4,6,1,0,2,8,10,11,13],[7,5,3,4,6,1,0,2,8],[7,5,3,4,6,1,0,2,8],[16,8,2,0,1,6,4,3,5,7,15],[15,7,5,3,4,6,1,0,2,8,16,17],[17,16,15,18,13,11,10,8,2,0,1,6,4,3,5,7,9,12,14],[14,12,9,10,11,13,18,15,16,17,19,7,5,3,4,6,1,0,2,8]],[],[]⟩]) (.cond (.sl 34) (.seq (.reg [⟨[],[],[],some (none,.store 2 (.sl 2) (.agg (.cons (.nilsl 2) (.cons (.nilsl 3) .nil)))),[2,3],2,[],[],[]⟩,⟨[],[],[],some (none,.store 1 (.sl 3) (.int .i64 171)),[2,3],1,[],[],[]⟩]) (.seq (.tidy 0 [2,3]) .ret)) .skip)) (.seq (.reg [⟨[(40,.box (.set 0 1 (.cut false true true false 1 (.sl 0) (.int .i64 4) (.sl 4) .nil) (.agg (.cons (.nilsl 1) .nil))))],[(5,(.sl 40))],[],none,[2,3],6,[],[],[]⟩]) (.seq (.reg [⟨[],[],[],some (some 42,.calle 77 (.cons (.sl 5) .nil)),[2,3,5],2,[],[],[]⟩,⟨[],[],[],some (none,.store 2 (.sl 2) (.sl 42)),[2,3,5],1,[],[],[]⟩]) (.seq (.seq (.reg [⟨[],[(53,(.or (.bin .gtr (.len false (.ld 1 false (.fa 0 (.fa 0 (.sl 5))))) (.int .i64 0)) (.bin .neq (.call 13 (.cons (.ld 2 true (.sl 2)) .nil)) (.int .i64 0))))],[],none,[2,3],11,[],[],[]⟩]) (.cond (.sl 53) (.seq (.reg [⟨[],[],[],some (none,.store 2 (.sl 2) (.agg (.cons (.nilsl 2) (.cons (.nilsl 3) .nil)))),[2,3],2,[],[],[]⟩,⟨[],[],[],some (none,.store 1 (.sl 3) (.int .i64 171)),[2,3],1,[],[],[]⟩]) (.seq (.tidy 0 [2,3]) .ret)) .skip)) (.seq (.reg [⟨[],[],[],some (none,.store 2 (.sl 2) (.ld 2 true (.sl 2))),[2,3],2,[],[],[]⟩,⟨[],[],[],some (none,.store 1 (.sl 3) (.int .i64 0)),[2,3],1,[],[],[]⟩]) (.seq (.tidy 0 [2,3]) .ret)))))))))), [(.ld 2 true (.sl 2)),(.ld 1 false (.sl 3))],false⟩
/- 'sloth/slothlaw17.id' -/
def f33:Fun:=⟨ (.seq (.reg [⟨[(0,.box (.agg (.cons (.nilsl 2) (.cons (.nilsl 3) .nil))))],[],[],none,[0],1,[],[],[]⟩]) (.seq (.reg [⟨[(6,.lits 3 (.cons (.set 0 1 (.int .i64 1) (.agg (.cons (.int .i64 0) (.cons (.int .i64 0) (.cons (.int .i64 0) .nil))))) (.cons (.set 1 1 (.int .i64 2) (.set 0 1 (.int .i64 7) (.agg (.cons (.int .i64 0) (.cons (.int .i64 0) (.cons (.int .i64 0) .nil)))))) (.cons (.set 1 1 (.int .i64 1) (.set 0 1 (.int .i64 4) (.agg (.cons (.int .i64 0) (.cons (.int .i64 0) (.cons (.int .i64 0) .nil)))))) (.cons (.set 0 1 (.int .i64 17) (.agg (.cons (.int .i64 0) (.cons (.int .i64 0) (.cons (.int .i64 0) .nil))))) .nil)))))],[(1,(.sl 6))],[],none,[0],6,[],[],[]⟩]) (.seq (.reg [⟨[(7,.callo 78 .nil),(10,.lits 3 (.cons (.set 2 1 (.sl 1) (.set 1 1 (.int .i64 1) (.set 0 1 (.str [105,100]) (.agg (.cons (.str []) (.cons (.int .i64 0) (.cons (.nilsl 3) .nil))))))) .nil))],[],[],some (none,.store 2 (.sl 0) (.set 1 1 (.sl 10) (.set 0 1 (.sl 7) (.agg (.cons (.nilsl 2) (.cons (.nilsl 3) .nil)))))),[0],6,[],[],[]⟩]) (.seq (.tidy 0 [0]) .ret)))), [(.ld 2 true (.sl 0))],false⟩
/- 'sloth/code.quote' -/
def f48:Fun:=⟨ (.seq (.reg [⟨[],[],[(.str [])],none,[0],1,[],[],[]⟩]) (.seq (.reg [⟨[],[(2,(.bin .add (.bin .add (.str [34]) (.call 88 (.cons (.call 88 (.cons (.sl 0) (.cons (.str [92]) (.cons (.str [92,92]) .nil)))) (.cons (.str [34]) (.cons (.str [92,34]) .nil))))) (.str [34])))],[],none,[],6,[],[],[]⟩]) (.seq (.tidy 0 [2]) .ret))), [(.sl 2)],false⟩
/- 'sloth/code.line' -/
def f50:Fun:=⟨ (.seq (.reg [⟨[(2,.box (.sl 0)),(3,.box (.sl 1))],[],[(.str [])],none,[2,3],3,[],[],[]⟩]) (.seq (.reg [⟨[(5,.box (.agg (.cons (.str []) (.cons (.int .i64 0) (.cons (.int .i64 0) .nil)))))],[(13,(.ext 1 (.call 79 (.cons (.ld 1 false (.fa 0 (.sl 3))) .nil))))],[],some (none,.store 3 (.sl 5) (.ext 0 (.call 79 (.cons (.ld 1 false (.fa 0 (.sl 3))) .nil)))),[2,3,5],8,[],[],[]⟩,⟨[],[],[(.sl 13)],none,[2,3,5],1,[],[],[]⟩]) (.seq (.reg [⟨[],[(7,(.str [10]))],[],none,[2,3,5],1,[],[],[]⟩]) (.seq (.block 0 (.seq (.block 3 (.seq (.block 2 (.seq (.block 1 (.seq (.seq (.seq (.reg [⟨[],[(14,(.bin .neq (.ld 1 false (.fa 2 (.sl 5))) (.int .i64 0)))],[],none,[2,3,5,7],4,[],[],[]⟩]) (.cond (.sl 14) (.seq (.tidy 0 [2,3,5,7]) (.exit 1)) .skip)) (.seq (.reg [⟨[],[(18,(.bin .neq (.ld 1 false (.fa 1 (.sl 5))) (.int .i64 0)))],[],none,[2,3,5,7],4,[],[],[]⟩]) (.cond (.sl 18) (.seq (.tidy 0 [2,3,5,7]) (.exit 2)) .skip))) (.seq (.tidy 0 [5,7]) (.exit 3)))) (.reg [⟨[],[(7,(.bin .add (.bin .add (.str [32]) (.call 49 (.cons (.ld 1 false (.fa 2 (.sl 3))) .nil))) (.sl 7)))],[],none,[2,3,5],7,[],[],[]⟩]))) (.reg [⟨[],[(7,(.bin .add (.bin .add (.str [32]) (.call 90 (.cons (.ld 2 true (.sl 2)) (.cons (.ld 1 false (.fa 1 (.sl 5))) (.cons (.ld 1 false (.fa 1 (.sl 3))) .nil))))) (.sl 7)))],[],none,[5],10,[],[],[]⟩]))) (.seq (.reg [⟨[],[(7,(.bin .add (.bin .add (.str [32,32]) (.ld 1 false (.fa 0 (.sl 5)))) (.sl 7)))],[],none,[],6,[],[],[]⟩]) (.seq (.tidy 0 [7]) (.exit 0))))) (.seq (.reg [⟨[],[(4,(.sl 7))],[],none,[],2,[],[],[]⟩]) (.seq (.tidy 0 [4]) .ret)))))), [(.sl 4)],false⟩
/- '(*sloth/code.reader).table' -/
def j3h:C:= (.seq (.seq (.reg [⟨[],[(7,(.bin .eql (.sl 2) (.str [115,104,97,112,101])))],[],none,[0,2],2,[],[],[]⟩]) (.cond (.sl 7) .skip (.seq (.keep [0,2]) (.exit 0)))) (.seq (.block 1 (.regl [⟨[],[],[(.ld 1 false (.fa 0 (.fa 3 (.fa 0 (.sl 0)))))],some (some 17,.calle 97 (.cons (.sl 0) .nil)),[0],9,[[],[],[1],[1,2],[2,1,3],[3,1,2,4],[],[6],[],[6,7,8],[8,9,6,7],[7,6,9,8,10],[10,8,9,6,7,11,4,2,1,3,5],[12,11,10,9,8,7,6,5,4,3,2,1,0],[0,1,2,3,4,5,6,7,8,9,10,11,12,13],[13,12,11,10,9,8,7,6,5,4,3,2,1,0,14],[14,0,1,2,3,4,5,6,7,8,9,10,11,12,13,15]],[],[(.sl 0),(.fa 0 (.sl 0)),(.fa 3 (.fa 0 (.sl 0))),(.fa 0 (.fa 3 (.fa 0 (.sl 0)))),(.ld 1 false (.fa 0 (.fa 3 (.fa 0 (.sl 0)))))]⟩,⟨[],[],[(.ld 1 false (.fa 0 (.fa 3 (.fa 0 (.sl 0)))))],some (some 19,.calle 98 (.cons (.sl 0) .nil)),[0,17],1,[],[],[(.sl 0),(.fa 0 (.sl 0)),(.fa 3 (.fa 0 (.sl 0))),(.fa 0 (.fa 3 (.fa 0 (.sl 0)))),(.ld 1 false (.fa 0 (.fa 3 (.fa 0 (.sl 0)))))]⟩,⟨[(21,.lits 2 (.cons (.set 1 1 (.sl 19) (.set 0 1 (.sl 17) (.agg (.cons (.str []) (.cons (.int .i64 0) .nil))))) .nil))],[],[],some (some 22,.app 2 (.ld 1 false (.fa 0 (.fa 3 (.fa 0 (.sl 0))))) (.sl 21)),[0],3,[],[],[(.sl 0)]⟩,⟨[],[],[],some (none,.store 1 (.fa 0 (.fa 3 (.fa 0 (.sl 0)))) (.sl 22)),[0],4,[],[],[]⟩])) (.reg [⟨[],[],[],some (some 9,.calle 96 (.cons (.sl 0) .nil)),[0],2,[],[],[]⟩,⟨[],[(2,(.sl 9))],[],none,[0],1,[],[],[]⟩])))
def j3g:C:= (.seq (.seq (.reg [⟨[],[(44,(.and (.bin .neq (.sl 2) (.str [])) (.bin .neq (.sl 2) (.str [103,108,111,98,97,108]))))],[],none,[0,2,3],6,[],[],[]⟩]) (.cond (.sl 44) .skip (.seq (.keep [0,2,3]) (.exit 4)))) (.seq (.block 5 (.regl [⟨[],[],[],some (some 60,.calle 99 (.cons (.sl 0) (.cons (.sl 2) (.cons (.len false (.ld 1 false (.fa 1 (.fa 3 (.fa 0 (.sl 0)))))) (.cons (.len false (.ld 1 false (.fa 2 (.sl 3)))) .nil))))),[0,3],14,[[],[0],[],[],[],[4],[4,5],[5,4,6],[6,4,5,7],[7,5,4,6,8],[],[10],[10,11],[11,10,12,8,6,4,5,7,9,3,2],[2,3,9,7,5,4,6,8,12,10,11,13],[13,11,10,12,8,6,4,5,7,9,3,2,14,0,1],[15,14,13,12,11,10,9,8,7,6,5,4,3,2,1,0],[0,1,2,3,4,5,6,7,8,9,10,11,12,13,14,15,16]],[],[(.fa 2 (.sl 3)),(.ld 1 false (.fa 2 (.sl 3)))]⟩,⟨[(61,.lits 3 (.cons (.sl 60) .nil))],[],[],some (some 62,.app 3 (.ld 1 false (.fa 2 (.sl 3))) (.sl 61)),[0,3],2,[],[],[]⟩,⟨[],[],[],some (none,.store 1 (.fa 2 (.sl 3)) (.sl 62)),[0,3],2,[],[],[]⟩])) (.reg [⟨[],[],[],some (some 46,.calle 96 (.cons (.sl 0) .nil)),[0,3],2,[],[],[]⟩,⟨[],[(2,(.sl 46))],[],none,[0,3],1,[],[],[]⟩])))
def j3f:C:= (.seq (.seq (.reg [⟨[],[(27,(.bin .neq (.sl 2) (.str [])))],[],none,[0,2],2,[],[],[]⟩]) (.cond (.sl 27) .skip (.seq (.keep []) (.exit 2)))) (.block 3 (.seq (.seq (.reg [⟨[],[(29,(.bin .neq (.sl 2) (.str [103,108,111,98,97,108])))],[],none,[0],2,[],[],[]⟩]) (.cond (.sl 29) .stuck .skip)) (.seq (.reg [⟨[],[],[],some (some 33,.calle 97 (.cons (.sl 0) .nil)),[0],2,[],[],[]⟩,⟨[],[],[],some (some 35,.calle 98 (.cons (.sl 0) .nil)),[0,33],2,[],[],[]⟩,⟨[(3,.box (.agg (.cons (.str []) (.cons (.int .i64 0) (.cons (.nilsl 3) .nil)))))],[],[],some (none,.store 3 (.sl 3) (.set 1 1 (.sl 35) (.set 0 1 (.sl 33) (.agg (.cons (.str []) (.cons (.int .i64 0) (.cons (.nilsl 3) .nil))))))),[0,3],3,[],[],[]⟩]) (.seq (.seq (.reg [⟨[],[],[],some (some 38,.calle 96 (.cons (.sl 0) .nil)),[0,3],2,[],[],[]⟩,⟨[],[(2,(.sl 38))],[],none,[0,3],1,[],[],[]⟩]) (.block 4 (.seq (.keep [0,2,3]) (.loop (.seq (.keep [0,2,3]) j3g))))) (.regl [⟨[(71,.lits 3 (.cons (.ld 3 true (.sl 3)) .nil))],[],[],some (some 72,.app 3 (.ld 1 false (.fa 1 (.fa 3 (.fa 0 (.sl 0))))) (.sl 71)),[0,2],9,[[],[],[1],[1,2],[2,1,3],[3,1,2,4],[],[6],[6,7,4,2,1,3,5],[8,7,6,5,4,3,2,1,0],[0,1,2,3,4,5,6,7,8,9],[9,8,7,6,5,4,3,2,1,0,10],[10,0,1,2,3,4,5,6,7,8,9,11]],[],[(.sl 0)]⟩,⟨[],[],[],some (none,.store 1 (.fa 1 (.fa 3 (.fa 0 (.sl 0)))) (.sl 72)),[0,2],4,[],[],[]⟩]))))))
def f60:Fun:=⟨ (.seq (.reg [⟨[],[],[],some (some 5,.calle 96 (.cons (.sl 0) .nil)),[0],2,[],[],[]⟩,⟨[],[(2,(.sl 5))],[],none,[0],1,[],[],[]⟩]) (.seq (.block 0 (.seq (.keep [0,2]) (.loop (.seq (.keep [0,2]) j3h)))) (.block 2 (.seq (.keep [0,2]) (.loop (.seq (.keep [0,2]) j3f)))))), [],false⟩
/- '(*sloth/code.reader).resolve' -/
def j3e:C:= (.seq (.reg [⟨[],[(26,(.bin .lss (.sl 25) (.sl 24)))],[],none,[0,2,3,23,24,25],1,[],[],[]⟩]) (.seq (.cond (.sl 26) .skip (.seq (.keep [0,2,3]) (.exit 0))) (.seq (.block 1 (.seq (.reg [⟨[(5,.box (.agg (.cons (.str []) (.cons (.int .i64 0) .nil))))],[(4,(.sl 25))],[],some (none,.store 2 (.sl 5) (.ld 2 true (.ia 2 (.sl 23) (.sl 25)))),[0,2,3,5,23,24,25],6,[],[],[]⟩]) (.seq (.reg [⟨[],[(7,(.ext 1 (.lkp true 2 (.int .i64 0) (.sl 2) (.ld 1 false (.fa 0 (.sl 5))))))],[(.ext 0 (.lkp true 2 (.int .i64 0) (.sl 2) (.ld 1 false (.fa 0 (.sl 5)))))],none,[0,2,3,4,5,23,24,25],9,[],[],[]⟩]) (.seq (.reg [⟨[],[(38,(.un .not (.sl 7)))],[],none,[0,2,3,4,5,23,24,25],2,[],[],[]⟩]) (.cond (.sl 38) (.reg [⟨[],[],[],some (none,.mset 2 (.sl 2) (.ld 1 false (.fa 0 (.sl 5))) (.sl 4)),[0,2,3,23,24,25],5,[],[],[]⟩]) .skip))))) (.reg [⟨[],[(25,(.bin .add (.sl 25) (.int .i64 1)))],[],none,[0,2,3,23,24],2,[],[],[]⟩]))))
def j3d:C:= (.seq (.reg [⟨[],[(51,(.bin .lss (.sl 50) (.sl 49)))],[],none,[0,2,3,48,49,50],1,[],[],[]⟩]) (.seq (.cond (.sl 51) .skip (.seq (.keep [0,2,3]) (.exit 2))) (.seq (.block 3 (.seq (.reg [⟨[(9,.box (.agg (.cons (.str []) (.cons (.int .i64 0) (.cons (.nilsl 3) .nil)))))],[(8,(.sl 50))],[],some (none,.store 3 (.sl 9) (.ld 3 true (.ia 3 (.sl 48) (.sl 50)))),[0,2,3,9,48,49,50],6,[],[],[]⟩]) (.seq (.reg [⟨[],[(11,(.ext 1 (.lkp true 2 (.int .i64 0) (.sl 3) (.ld 1 false (.fa 0 (.sl 9))))))],[(.ext 0 (.lkp true 2 (.int .i64 0) (.sl 3) (.ld 1 false (.fa 0 (.sl 9)))))],none,[0,2,3,8,9,48,49,50],9,[],[],[]⟩]) (.seq (.reg [⟨[],[(63,(.un .not (.sl 11)))],[],none,[0,2,3,8,9,48,49,50],2,[],[],[]⟩]) (.cond (.sl 63) (.reg [⟨[],[],[],some (none,.mset 2 (.sl 3) (.ld 1 false (.fa 0 (.sl 9))) (.sl 8)),[0,2,3,48,49,50],5,[],[],[]⟩]) .skip))))) (.reg [⟨[],[(50,(.bin .add (.sl 50) (.int .i64 1)))],[],none,[0,2,3,48,49],2,[],[],[]⟩]))))
def j3c:C:= (.seq (.reg [⟨[],[(75,(.bin .lss (.sl 74) (.sl 73)))],[],none,[0,2,3,72,73,74],1,[],[],[]⟩]) (.seq (.cond (.sl 75) .skip (.seq (.keep []) (.exit 4))) (.seq (.block 5 (.seq (.reg [⟨[(13,.box (.agg (.cons (.int .i64 0) (.cons (.int .i64 0) (.cons (.str []) .nil)))))],[],[],some (none,.store 3 (.sl 13) (.ld 3 true (.ia 3 (.sl 72) (.sl 74)))),[0,2,3,13,72,73,74],4,[],[],[]⟩]) (.seq (.reg [⟨[],[(14,(.ia 3 (.ld 1 false (.fa 2 (.ia 3 (.ld 1 false (.fa 1 (.fa 3 (.fa 0 (.sl 0))))) (.ld 1 false (.fa 0 (.sl 13)))))) (.ld 1 false (.fa 1 (.sl 13)))))],[],none,[0,2,3,13,72,73,74],14,[[],[0],[0,1],[1,0,2],[2,0,1,3],[],[5],[5,6,3,1,0,2,4],[4,2,0,1,3,6,5,7],[7,5,6,3,1,0,2,4,8],[],[10],[10,11,8,4,2,0,1,3,6,5,7,9],[9,7,5,6,3,1,0,2,4,8,11,10,12]],[],[]⟩]) (.seq (.reg [⟨[],[(15,(.ext 0 (.lkp true 2 (.int .i64 0) (.sl 2) (.ld 1 false (.fa 2 (.sl 13)))))),(16,(.ext 1 (.lkp true 2 (.int .i64 0) (.sl 2) (.ld 1 false (.fa 2 (.sl 13))))))],[],none,[0,2,3,13,14,72,73,74],9,[],[],[]⟩]) (.seq (.seq (.reg [⟨[],[(102,(.bin .eql (.ld 1 false (.fa 0 (.fa 0 (.sl 14)))) (.int .i64 2)))],[],none,[0,2,3,13,14,15,16,72,73,74],5,[],[],[]⟩]) (.cond (.sl 102) (.reg [⟨[],[(15,(.ext 0 (.lkp true 2 (.int .i64 0) (.sl 3) (.ld 1 false (.fa 2 (.sl 13)))))),(16,(.ext 1 (.lkp true 2 (.int .i64 0) (.sl 3) (.ld 1 false (.fa 2 (.sl 13))))))],[],none,[0,2,3,14,72,73,74],9,[],[],[]⟩]) .skip)) (.seq (.seq (.reg [⟨[],[(111,(.un .not (.sl 16)))],[],none,[0,2,3,14,15,72,73,74],2,[],[],[]⟩]) (.cond (.sl 111) .stuck .skip)) (.reg [⟨[],[],[],some (none,.store 1 (.fa 1 (.fa 0 (.sl 14))) (.sl 15)),[0,2,3,72,73,74],5,[],[],[]⟩]))))))) (.reg [⟨[],[(74,(.bin .add (.sl 74) (.int .i64 1)))],[],none,[0,2,3,72,73],2,[],[],[]⟩]))))
def f61:Fun:=⟨ (.seq (.reg [⟨[(17,.mkm),(18,.mkm)],[(2,(.sl 17)),(3,(.sl 18))],[],none,[0],4,[],[],[]⟩]) (.seq (.seq (.reg [⟨[],[(23,(.ld 1 false (.fa 0 (.fa 3 (.fa 0 (.sl 0)))))),(24,(.len false (.ld 1 false (.fa 0 (.fa 3 (.fa 0 (.sl 0))))))),(25,(.int .i64 0))],[],none,[0,2,3],7,[],[],[]⟩]) (.block 0 (.seq (.keep [0,2,3,23,24,25]) (.loop (.seq (.keep [0,2,3,23,24,25]) j3e))))) (.seq (.seq (.reg [⟨[],[(48,(.ld 1 false (.fa 1 (.fa 3 (.fa 0 (.sl 0)))))),(49,(.len false (.ld 1 false (.fa 1 (.fa 3 (.fa 0 (.sl 0))))))),(50,(.int .i64 0))],[],none,[0,2,3],7,[],[],[]⟩]) (.block 2 (.seq (.keep [0,2,3,48,49,50]) (.loop (.seq (.keep [0,2,3,48,49,50]) j3d))))) (.seq (.reg [⟨[],[(72,(.ld 1 false (.fa 2 (.fa 0 (.sl 0))))),(73,(.len false (.ld 1 false (.fa 2 (.fa 0 (.sl 0)))))),(74,(.int .i64 0))],[],none,[0,2,3],6,[],[],[]⟩]) (.block 4 (.seq (.keep [0,2,3,72,73,74]) (.loop (.seq (.keep [0,2,3,72,73,74]) j3c)))))))), [],false⟩
/- 'sloth/code.put' -/
def f68_L0:C:= (.seq (.seq (.reg [⟨[],[(6,(.bin .gtr (.sl 1) (.int .u64 127)))],[],none,[0,1],2,[],[],[]⟩]) (.cond (.sl 6) .skip (.seq (.tidy 1 [0,1]) (.exit 0)))) (.seq (.block 1 (.reg [⟨[(13,.lits 1 (.cons (.bin .or (.conv .u8 (.sl 1)) (.int .u8 128)) .nil))],[],[],some (some 14,.app 1 (.sl 0) (.sl 13)),[1],6,[],[],[]⟩,⟨[],[(0,(.sl 14))],[],none,[1],1,[],[],[]⟩])) (.reg [⟨[],[(1,(.sh false (.sl 1) (.int .u64 7)))],[],none,[0],3,[],[],[]⟩])))
def f68:Fun:=⟨ (.seq (.reg [⟨[],[],[(.nilsl 1)],none,[0,1],1,[],[],[]⟩]) (.seq (.block 0 (.seq (.tidy 1 [0,1]) (.loop (.seq (.tidy 1 [0,1]) f68_L0)))) (.seq (.reg [⟨[(18,.lits 1 (.cons (.conv .u8 (.sl 1)) .nil))],[],[],some (some 19,.app 1 (.sl 0) (.sl 18)),[],5,[],[],[]⟩,⟨[],[(4,(.sl 19))],[],none,[],1,[],[],[]⟩]) (.seq (.tidy 1 [4]) .ret)))), [(.sl 4)],false⟩
theorem j26:q09 Go.Proofs.Tryz.prog 68 1 2 f68=true:=by kernel_rfl
/- 'sloth/code.putName' -/
def f69:Fun:=⟨ (.seq (.reg [⟨[],[],[(.nilsl 1)],none,[0,1],1,[],[],[]⟩]) (.seq (.reg [⟨[],[],[],some (some 9,.calle 68 (.cons (.sl 0) (.cons (.conv .u64 (.len true (.sl 1))) .nil))),[1],5,[],[],[]⟩,⟨[],[],[],some (some 11,.app 1 (.sl 9) (.s2r (.sl 1))),[],2,[],[],[]⟩,⟨[],[(4,(.sl 11))],[],none,[],1,[],[],[]⟩]) (.seq (.tidy 1 [4]) .ret))), [(.sl 4)],false⟩
theorem j22:q09 Go.Proofs.Tryz.prog 69 1 2 f69=true:=by kernel_rfl
/- 'sloth/code.putInstr' -/
def f70:Fun:=⟨ (.seq (.reg [⟨[(3,.box (.sl 1))],[],[(.nilsl 1)],none,[0,3],2,[],[],[]⟩]) (.seq (.reg [⟨[(5,.box (.agg (.cons (.str []) (.cons (.int .i64 0) (.cons (.int .i64 0) .nil)))))],[(12,(.ext 1 (.call 79 (.cons (.ld 1 false (.fa 0 (.sl 3))) .nil))))],[],some (none,.store 3 (.sl 5) (.ext 0 (.call 79 (.cons (.ld 1 false (.fa 0 (.sl 3))) .nil)))),[0,3,5],8,[],[],[]⟩,⟨[],[],[(.sl 12)],none,[0,3,5],1,[],[],[]⟩]) (.seq (.reg [⟨[],[],[],some (some 17,.calle 68 (.cons (.sl 0) (.cons (.conv .u64 (.ld 1 false (.fa 0 (.sl 3)))) .nil))),[3,5],5,[],[],[]⟩,⟨[],[(0,(.sl 17))],[],none,[3,5],1,[],[],[]⟩]) (.seq (.seq (.reg [⟨[],[(20,(.bin .eql (.ld 1 false (.fa 1 (.sl 5))) (.int .i64 3)))],[],none,[0,3,5],3,[],[],[]⟩]) (.cond (.sl 20) (.reg [⟨[],[],[],some (some 25,.calle 68 (.cons (.sl 0) (.cons (.call 100 (.cons (.ld 1 false (.fa 1 (.sl 3))) .nil)) .nil))),[3,5],5,[],[],[]⟩,⟨[],[(0,(.sl 25))],[],none,[3,5],1,[],[],[]⟩]) (.seq (.reg [⟨[],[(28,(.bin .neq (.ld 1 false (.fa 1 (.sl 5))) (.int .i64 0)))],[],none,[0,3,5],3,[],[],[]⟩]) (.cond (.sl 28) (.reg [⟨[],[],[],some (some 33,.calle 68 (.cons (.sl 0) (.cons (.conv .u64 (.ld 1 false (.fa 1 (.sl 3)))) .nil))),[3,5],5,[],[],[]⟩,⟨[],[(0,(.sl 33))],[],none,[3,5],1,[],[],[]⟩]) .skip)))) (.seq (.seq (.reg [⟨[],[(36,(.bin .neq (.ld 1 false (.fa 2 (.sl 5))) (.int .i64 0)))],[],none,[0,3],3,[],[],[]⟩]) (.cond (.sl 36) (.reg [⟨[],[],[],some (some 41,.calle 68 (.cons (.sl 0) (.cons (.conv .u64 (.ld 1 false (.fa 2 (.sl 3)))) .nil))),[],5,[],[],[]⟩,⟨[],[(0,(.sl 41))],[],none,[],1,[],[],[]⟩]) .skip)) (.seq (.reg [⟨[],[(4,(.sl 0))],[],none,[],2,[],[],[]⟩]) (.seq (.tidy 1 [4]) .ret))))))), [(.sl 4)],false⟩
theorem j21:q09 Go.Proofs.Tryz.prog 70 1 2 f70=true:=by kernel_rfl
/- 'sloth/code.four' -/
def f71:Fun:=⟨ (.seq (.reg [⟨[],[],[(.nilsl 1)],none,[0],1,[],[],[]⟩]) (.seq (.reg [⟨[(14,.lits 1 (.cons (.conv .u8 (.sl 0)) (.cons (.conv .u8 (.sh false (.sl 0) (.int .u64 8))) (.cons (.conv .u8 (.sh false (.sl 0) (.int .u64 16))) (.cons (.conv .u8 (.sh false (.sl 0) (.int .u64 24))) .nil)))))],[(2,(.sl 14))],[],none,[],13,[],[],[]⟩]) (.seq (.tidy 0 [2]) .ret))), [(.sl 2)],false⟩
theorem j20:q09 Go.Proofs.Tryz.prog 71 0 1 f71=true:=by kernel_rfl
/- 'sloth/code.sum' -/
def f72_L0:C:= (.seq (.reg [⟨[],[(18,(.bin .lss (.sl 17) (.int .i64 8)))],[],none,[3,7,8,9,17],1,[],[],[]⟩]) (.seq (.cond (.sl 18) .skip (.seq (.tidy 0 [3,7,8,9]) (.exit 2))) (.seq (.block 3 (.seq (.reg [⟨[],[(6,(.bin .and (.sl 3) (.int .u32 1)))],[],none,[3,7,8,9,17],3,[],[],[]⟩]) (.seq (.reg [⟨[],[(3,(.sh false (.sl 3) (.int .u64 1)))],[],none,[6,7,8,9,17],3,[],[],[]⟩]) (.seq (.reg [⟨[],[(24,(.bin .eql (.sl 6) (.int .u32 1)))],[],none,[3,7,8,9,17],2,[],[],[]⟩]) (.cond (.sl 24) (.reg [⟨[],[(3,(.bin .xor (.sl 3) (.int .u32 3988292384)))],[],none,[7,8,9,17],3,[],[],[]⟩]) .skip))))) (.reg [⟨[],[(17,(.bin .add (.sl 17) (.int .i64 1)))],[],none,[3,7,8,9],2,[],[],[]⟩]))))
def f72_L1:C:= (.seq (.reg [⟨[],[(10,(.bin .lss (.sl 9) (.sl 8)))],[],none,[3,7,8,9],1,[],[],[]⟩]) (.seq (.cond (.sl 10) .skip (.seq (.tidy 0 [3]) (.exit 0))) (.seq (.block 1 (.seq (.reg [⟨[],[(5,(.ld 1 false (.ia 1 (.sl 7) (.sl 9))))],[],none,[3,7,8,9],3,[],[],[]⟩]) (.seq (.reg [⟨[],[(3,(.bin .xor (.sl 3) (.conv .u32 (.sl 5))))],[],none,[7,8,9],5,[],[],[]⟩]) (.seq (.reg [⟨[],[(17,(.int .i64 0))],[],none,[3,7,8,9],1,[],[],[]⟩]) (.block 2 (.seq (.tidy 0 [3,7,8,9,17]) (.loop (.seq (.tidy 0 [3,7,8,9,17]) f72_L0)))))))) (.reg [⟨[],[(9,(.bin .add (.sl 9) (.int .i64 1)))],[],none,[3,7,8],2,[],[],[]⟩]))))
def f72:Fun:=⟨ (.seq (.reg [⟨[],[],[(.int .u32 0)],none,[0],1,[],[],[]⟩]) (.seq (.reg [⟨[],[(3,(.int .u32 4294967295))],[],none,[0],1,[],[],[]⟩]) (.seq (.seq (.reg [⟨[],[(7,(.sl 0)),(8,(.len false (.sl 0))),(9,(.int .i64 0))],[],none,[3],3,[],[],[]⟩]) (.block 0 (.seq (.tidy 0 [3,7,8,9]) (.loop (.seq (.tidy 0 [3,7,8,9]) f72_L1))))) (.seq (.reg [⟨[],[(2,(.un .xor (.sl 3)))],[],none,[],3,[],[],[]⟩]) (.seq (.tidy 0 [2]) .ret))))), [(.sl 2)],false⟩
theorem j2Z:q09 Go.Proofs.Tryz.prog 72 0 1 f72=true:=by kernel_rfl
/- '(*sloth/code.loader).table' -/
def j2Y:C:= (.seq (.reg [⟨[],[(8,(.bin .lss (.sl 7) (.sl 6)))],[],none,[0,2,3,6,7],1,[],[],[]⟩]) (.seq (.cond (.sl 8) .skip (.seq (.tidy 1 [0,2,3]) (.exit 0))) (.seq (.block 1 (.regl [⟨[],[],[(.ld 1 false (.fa 0 (.sl 3)))],some (some 12,.calle 102 (.cons (.sl 0) .nil)),[0,2,3,6,7],5,[[],[0],[],[2],[],[2,3,4],[4,5,2,3],[3,2,5,4,6],[6,4,5,2,3,7,0,1],[8,7,6,5,4,3,2,1,0],[0,1,2,3,4,5,6,7,8,9]],[],[(.fa 0 (.sl 3)),(.ld 1 false (.fa 0 (.sl 3))),(.sl 0)]⟩,⟨[],[],[(.ld 1 false (.fa 0 (.sl 3)))],some (some 14,.calle 103 (.cons (.sl 0) .nil)),[0,2,3,6,7,12],1,[],[],[(.fa 0 (.sl 3)),(.ld 1 false (.fa 0 (.sl 3)))]⟩,⟨[(16,.lits 2 (.cons (.set 1 1 (.sl 14) (.set 0 1 (.sl 12) (.agg (.cons (.str []) (.cons (.int .i64 0) .nil))))) .nil))],[],[],some (some 17,.app 2 (.ld 1 false (.fa 0 (.sl 3))) (.sl 16)),[0,2,3,6,7],3,[],[],[]⟩,⟨[],[],[],some (none,.store 1 (.fa 0 (.sl 3)) (.sl 17)),[0,2,3,6,7],2,[],[],[]⟩])) (.reg [⟨[],[(7,(.bin .add (.sl 7) (.int .i64 1)))],[],none,[0,2,3,6],2,[],[],[]⟩]))))
def j2X:C:= (.seq (.reg [⟨[],[(32,(.bin .lss (.sl 31) (.sl 30)))],[],none,[0,2,3,4,21,22,30,31],1,[],[],[]⟩]) (.seq (.cond (.sl 32) .skip (.seq (.tidy 1 [0,2,3,4,21,22]) (.exit 4))) (.seq (.block 5 (.regl [⟨[],[],[(.ld 1 false (.fa 2 (.sl 4)))],some (some 36,.calle 104 (.cons (.sl 0) .nil)),[0,2,3,4,21,22,30,31],4,[[],[0],[],[2],[2,3],[3,2,4,0,1],[5,4,3,2,1,0],[0,1,2,3,4,5,6]],[],[(.fa 2 (.sl 4)),(.ld 1 false (.fa 2 (.sl 4)))]⟩,⟨[(37,.lits 3 (.cons (.sl 36) .nil))],[],[],some (some 38,.app 3 (.ld 1 false (.fa 2 (.sl 4))) (.sl 37)),[0,2,3,4,21,22,30,31],2,[],[],[]⟩,⟨[],[],[],some (none,.store 1 (.fa 2 (.sl 4)) (.sl 38)),[0,2,3,4,21,22,30,31],2,[],[],[]⟩])) (.reg [⟨[],[(31,(.bin .add (.sl 31) (.int .i64 1)))],[],none,[0,2,3,4,21,22,30],2,[],[],[]⟩]))))
def j2W:C:= (.seq (.reg [⟨[],[(23,(.bin .lss (.sl 22) (.sl 21)))],[],none,[0,2,3,21,22],1,[],[],[]⟩]) (.seq (.cond (.sl 23) .skip (.seq (.tidy 1 [2,3]) (.exit 2))) (.seq (.block 3 (.seq (.reg [⟨[],[],[],some (some 25,.calle 102 (.cons (.sl 0) .nil)),[0,2,3,21,22],2,[],[],[]⟩,⟨[],[],[],some (some 27,.calle 103 (.cons (.sl 0) .nil)),[0,2,3,21,22,25],2,[],[],[]⟩,⟨[(4,.box (.agg (.cons (.str []) (.cons (.int .i64 0) (.cons (.nilsl 3) .nil)))))],[],[],some (none,.store 3 (.sl 4) (.set 1 1 (.sl 27) (.set 0 1 (.sl 25) (.agg (.cons (.str []) (.cons (.int .i64 0) (.cons (.nilsl 3) .nil))))))),[0,2,3,4,21,22],3,[],[],[]⟩]) (.seq (.seq (.reg [⟨[],[],[],some (some 30,.calle 101 (.cons (.sl 0) .nil)),[0,2,3,4,21,22],2,[],[],[]⟩,⟨[],[(31,(.int .i64 0))],[],none,[0,2,3,4,21,22,30],1,[],[],[]⟩]) (.block 4 (.seq (.tidy 1 [0,2,3,4,21,22,30,31]) (.loop (.seq (.tidy 1 [0,2,3,4,21,22,30,31]) j2X))))) (.reg [⟨[(44,.lits 3 (.cons (.ld 3 true (.sl 4)) .nil))],[],[],some (some 45,.app 3 (.ld 1 false (.fa 1 (.sl 3))) (.sl 44)),[0,2,3,21,22],5,[],[],[]⟩,⟨[],[],[],some (none,.store 1 (.fa 1 (.sl 3)) (.sl 45)),[0,2,3,21,22],2,[],[],[]⟩])))) (.reg [⟨[],[(22,(.bin .add (.sl 22) (.int .i64 1)))],[],none,[0,2,3,21],2,[],[],[]⟩]))))
def f77:Fun:=⟨ (.seq (.reg [⟨[(2,.box (.agg (.cons (.nilsl 2) (.cons (.nilsl 3) .nil))))],[],[],none,[0,2],1,[],[],[]⟩]) (.seq (.reg [⟨[(3,.box (.agg (.cons (.nilsl 2) (.cons (.nilsl 3) .nil))))],[],[],none,[0,2,3],1,[],[],[]⟩]) (.seq (.seq (.reg [⟨[],[],[],some (some 6,.calle 101 (.cons (.sl 0) .nil)),[0,2,3],2,[],[],[]⟩,⟨[],[(7,(.int .i64 0))],[],none,[0,2,3,6],1,[],[],[]⟩]) (.block 0 (.seq (.tidy 1 [0,2,3,6,7]) (.loop (.seq (.tidy 1 [0,2,3,6,7]) j2Y))))) (.seq (.seq (.reg [⟨[],[],[],some (some 21,.calle 101 (.cons (.sl 0) .nil)),[0,2,3],2,[],[],[]⟩,⟨[],[(22,(.int .i64 0))],[],none,[0,2,3,21],1,[],[],[]⟩]) (.block 2 (.seq (.tidy 1 [0,2,3,21,22]) (.loop (.seq (.tidy 1 [0,2,3,21,22]) j2W))))) (.seq (.reg [⟨[],[],[],some (none,.store 2 (.sl 2) (.ld 2 true (.sl 3))),[2],2,[],[],[]⟩]) (.seq (.tidy 1 [2]) .ret)))))), [(.ld 2 true (.sl 2))],false⟩
/- 'strings.ReplaceAll' -/
def f88:Fun:=⟨ (.seq (.reg [⟨[],[],[(.str [])],none,[0,1,2],1,[],[],[]⟩]) (.seq (.reg [⟨[],[(6,(.call 106 (.cons (.sl 0) (.cons (.sl 1) (.cons (.sl 2) (.cons (.int .i64 (-1)) .nil))))))],[],none,[],5,[],[],[]⟩]) (.seq (.tidy 0 [6]) .ret))), [(.sl 6)],false⟩
/- 'sloth/code.piece' -/
def f90:Fun:=⟨ (.seq (.reg [⟨[(3,.box (.sl 0))],[],[(.str [])],none,[1,2,3],2,[],[],[]⟩]) (.seq (.seq (.reg [⟨[],[(7,(.sl 1))],[],none,[2,3],1,[],[],[]⟩]) (.block 0 (.seq (.reg [⟨[],[(8,(.bin .eql (.sl 7) (.int .i64 4)))],[],none,[2,3,7],2,[],[],[]⟩]) (.cond (.sl 8) (.seq (.reg [⟨[],[(6,(.call 48 (.cons (.ld 1 false (.fa 0 (.ia 3 (.ld 1 false (.fa 1 (.sl 3))) (.sl 2)))) .nil)))],[],none,[],8,[],[],[]⟩]) (.seq (.tidy 0 [6]) .ret)) (.seq (.reg [⟨[],[(17,(.bin .eql (.sl 7) (.int .i64 5)))],[],none,[2,3,7],2,[],[],[]⟩]) (.cond (.sl 17) (.seq (.reg [⟨[],[(6,(.call 48 (.cons (.ld 1 false (.fa 0 (.ia 2 (.ld 1 false (.fa 0 (.sl 3))) (.sl 2)))) .nil)))],[],none,[],8,[],[],[]⟩]) (.seq (.tidy 0 [6]) .ret)) (.seq (.reg [⟨[],[(26,(.bin .eql (.sl 7) (.int .i64 6)))],[],none,[2],2,[],[],[]⟩]) (.cond (.sl 26) (.seq (.reg [⟨[],[(6,(.ld 1 false (.ia 1 (.call 108 .nil) (.sl 2))))],[],none,[],5,[],[],[]⟩]) (.seq (.tidy 0 [6]) .ret)) .skip)))))))) (.seq (.reg [⟨[],[(6,(.call 49 (.cons (.sl 2) .nil)))],[],none,[],3,[],[],[]⟩]) (.seq (.tidy 0 [6]) .ret)))), [(.sl 6)],false⟩
/- '(*sloth/code.reader).word' -/
def j2O:C:= (.seq (.seq (.reg [⟨[],[(55,(.and (.and (.and (.bin .lss (.ld 1 false (.fa 1 (.fa 0 (.sl 0)))) (.len true (.ld 1 false (.fa 0 (.fa 0 (.sl 0)))))) (.bin .geq (.ix (.ld 1 false (.fa 0 (.fa 0 (.sl 0)))) (.ld 1 false (.fa 1 (.fa 0 (.sl 0))))) (.int .u8 33))) (.bin .leq (.ix (.ld 1 false (.fa 0 (.fa 0 (.sl 0)))) (.ld 1 false (.fa 1 (.fa 0 (.sl 0))))) (.int .u8 126))) (.bin .neq (.ix (.ld 1 false (.fa 0 (.fa 0 (.sl 0)))) (.ld 1 false (.fa 1 (.fa 0 (.sl 0))))) (.int .u8 34))))],[],none,[0,3],46,[[],[0],[0,1],[1,0,2],[],[4],[4,5],[5,4,6],[6,4,5,7],[7,5,4,6,8,2,0,1,3],[3,1,0,2,8,6,4,5,7,9],[9,7,5,4,6,8,2,0,1,3,10],[10,3,1,0,2,8,6,4,5,7,9,11],[11,9,7,5,4,6,8,2,0,1,3,10,12],[12,10,3,1,0,2,8,6,4,5,7,9,11,13],[9,7,5,4,6,8,2,0,1,3,10],[10,3,1,0,2,8,6,4,5,7,9,15],[15,9,7,5,4,6,8,2,0,1,3,10,16],[16,10,3,1,0,2,8,6,4,5,7,9,15,17],[17,15,16,18,13,11,9,7,5,4,6,8,2,0,1,3,10,12,14],[14,12,10,3,1,0,2,8,6,4,5,7,9,11,13,18,16,15,17,19],[19,17,15,16,18,13,11,12,14,20,9,7,5,4,6,8,2,0,1,3,10],[10,3,1,0,2,8,6,4,5,7,9,20,14,12,11,13,18,16,15,17,19,21],[21,19,17,15,16,18,13,11,12,14,20,9,7,5,4,6,8,2,0,1,3,10,22],[22,10,3,1,0,2,8,6,4,5,7,9,20,14,12,11,13,18,16,15,17,19,21,23],[23,21,19,17,15,16,18,13,11,12,14,20,9,7,5,4,6,8,2,0,1,3,10,22,24],[24,22,10,3,1,0,2,8,6,4,5,7,9,20,14,12,11,13,18,16,15,17,19,21,23,25],[21,19,17,15,16,18,13,11,12,14,20,9,7,5,4,6,8,2,0,1,3,10,22],[22,10,3,1,0,2,8,6,4,5,7,9,20,14,12,11,13,18,16,15,17,19,21,27],[27,21,19,17,15,16,18,13,11,12,14,20,9,7,5,4,6,8,2,0,1,3,10,22,28],[28,22,10,3,1,0,2,8,6,4,5,7,9,20,14,12,11,13,18,16,15,17,19,21,27,29],[29,27,28,30,25,23,21,19,17,15,16,18,13,11,12,14,20,9,7,5,4,6,8,2,0,1,3,10,22,24,26],[26,24,22,10,3,1,0,2,8,6,4,5,7,9,20,14,12,11,13,18,16,15,17,19,21,23,25,30,28,27,29,31],[31,29,27,28,30,25,23,24,26,32,21,19,17,15,16,18,13,11,12,14,20,9,7,5,4,6,8,2,0,1,3,10,22],[22,10,3,1,0,2,8,6,4,5,7,9,20,14,12,11,13,18,16,15,17,19,21,32,26,24,23,25,30,28,27,29,31,33],[33,31,29,27,28,30,25,23,24,26,32,21,19,17,15,16,18,13,11,12,14,20,9,7,5,4,6,8,2,0,1,3,10,22,34],[34,22,10,3,1,0,2,8,6,4,5,7,9,20,14,12,11,13,18,16,15,17,19,21,32,26,24,23,25,30,28,27,29,31,33,35],[35,33,31,29,27,28,30,25,23,24,26,32,21,19,17,15,16,18,13,11,12,14,20,9,7,5,4,6,8,2,0,1,3,10,22,34,36],[36,34,22,10,3,1,0,2,8,6,4,5,7,9,20,14,12,11,13,18,16,15,17,19,21,32,26,24,23,25,30,28,27,29,31,33,35,37],[33,31,29,27,28,30,25,23,24,26,32,21,19,17,15,16,18,13,11,12,14,20,9,7,5,4,6,8,2,0,1,3,10,22,34],[34,22,10,3,1,0,2,8,6,4,5,7,9,20,14,12,11,13,18,16,15,17,19,21,32,26,24,23,25,30,28,27,29,31,33,39],[39,33,31,29,27,28,30,25,23,24,26,32,21,19,17,15,16,18,13,11,12,14,20,9,7,5,4,6,8,2,0,1,3,10,22,34,40],[40,34,22,10,3,1,0,2,8,6,4,5,7,9,20,14,12,11,13,18,16,15,17,19,21,32,26,24,23,25,30,28,27,29,31,33,39,41],[41,39,40,42,37,35,33,31,29,27,28,30,25,23,24,26,32,21,19,17,15,16,18,13,11,12,14,20,9,7,5,4,6,8,2,0,1,3,10,22,34,36,38],[38,36,34,22,10,3,1,0,2,8,6,4,5,7,9,20,14,12,11,13,18,16,15,17,19,21,32,26,24,23,25,30,28,27,29,31,33,35,37,42,40,39,41,43],[43,41,39,40,42,37,35,36,38,44,33,31,29,27,28,30,25,23,24,26,32,21,19,17,15,16,18,13,11,12,14,20,9,7,5,4,6,8,2,0,1,3,10,22,34]],[],[]⟩]) (.cond (.sl 55) .skip (.seq (.keep [0,3]) (.exit 0)))) (.block 1 (.reg [⟨[],[],[],some (none,.store 1 (.fa 1 (.fa 0 (.sl 0))) (.bin .add (.ld 1 false (.fa 1 (.fa 0 (.sl 0)))) (.int .i64 1))),[0,3],8,[],[],[]⟩])))
def f96:Fun:=⟨ (.seq (.reg [⟨[],[],[(.str [])],none,[0],1,[],[],[]⟩]) (.seq (.reg [⟨[],[],[],some (some 5,.calle 109 (.cons (.sl 0) .nil)),[0],2,[],[],[]⟩]) (.seq (.reg [⟨[],[(3,(.ld 1 false (.fa 1 (.fa 0 (.sl 0)))))],[],none,[0],5,[],[],[]⟩]) (.seq (.block 0 (.seq (.keep [0,3]) (.loop (.seq (.keep [0,3]) j2O)))) (.seq (.seq (.reg [⟨[],[(80,(.and (.bin .eql (.ld 1 false (.fa 1 (.fa 0 (.sl 0)))) (.sl 3)) (.bin .lss (.ld 1 false (.fa 1 (.fa 0 (.sl 0)))) (.len true (.ld 1 false (.fa 0 (.fa 0 (.sl 0))))))))],[],none,[0,3],18,[[],[0],[0,1],[1,0,2],[],[4,2,0,1,3],[3,1,0,2,4,5],[5,4,2,0,1,3,6],[6,3,1,0,2,4,5,7],[7,5,4,2,0,1,3,6,8],[8,6,3,1,0,2,4,5,7,9],[5,4,2,0,1,3,6],[6,3,1,0,2,4,5,11],[11,5,4,2,0,1,3,6,12],[12,6,3,1,0,2,4,5,11,13],[13,11,5,4,2,0,1,3,6,12,14],[14,12,11,13,15,9,7,5,4,2,0,1,3,6,8,10],[10,8,7,9,15,13,11,12,14,16,5,4,2,0,1,3,6]],[],[]⟩]) (.cond (.sl 80) .stuck .skip)) (.seq (.reg [⟨[],[(2,(.cut true true true false 0 (.ld 1 false (.fa 0 (.fa 0 (.sl 0)))) (.sl 3) (.ld 1 false (.fa 1 (.fa 0 (.sl 0)))) .nil))],[],none,[],11,[[],[0],[0,1],[1,0,2],[],[],[5],[5,6],[6,5,7],[7,5,6,8,4,2,0,1,3],[3,1,0,2,4,8,6,5,7,9]],[],[]⟩]) (.seq (.keep [2]) .ret))))))), [(.sl 2)],false⟩
/- '(*sloth/code.reader).name' -/
def j2N:C:= (.seq (.seq (.reg [⟨[],[(58,(.and (.bin .lss (.ld 1 false (.fa 1 (.fa 0 (.sl 0)))) (.len true (.ld 1 false (.fa 0 (.fa 0 (.sl 0)))))) (.bin .neq (.ix (.ld 1 false (.fa 0 (.fa 0 (.sl 0)))) (.ld 1 false (.fa 1 (.fa 0 (.sl 0))))) (.int .u8 34))))],[],none,[0,3],22,[[],[0],[0,1],[1,0,2],[],[4],[4,5],[5,4,6],[6,4,5,7],[7,5,4,6,8,2,0,1,3],[3,1,0,2,8,6,4,5,7,9],[9,7,5,4,6,8,2,0,1,3,10],[10,3,1,0,2,8,6,4,5,7,9,11],[11,9,7,5,4,6,8,2,0,1,3,10,12],[12,10,3,1,0,2,8,6,4,5,7,9,11,13],[9,7,5,4,6,8,2,0,1,3,10],[10,3,1,0,2,8,6,4,5,7,9,15],[15,9,7,5,4,6,8,2,0,1,3,10,16],[16,10,3,1,0,2,8,6,4,5,7,9,15,17],[17,15,16,18,13,11,9,7,5,4,6,8,2,0,1,3,10,12,14],[14,12,10,3,1,0,2,8,6,4,5,7,9,11,13,18,16,15,17,19],[19,17,15,16,18,13,11,12,14,20,9,7,5,4,6,8,2,0,1,3,10]],[],[]⟩]) (.cond (.sl 58) .skip (.seq (.keep [0,3]) (.exit 0)))) (.seq (.block 1 (.seq (.seq (.reg [⟨[],[(75,(.bin .eql (.ix (.ld 1 false (.fa 0 (.fa 0 (.sl 0)))) (.ld 1 false (.fa 1 (.fa 0 (.sl 0))))) (.int .u8 92)))],[],none,[0,3],10,[[],[0],[0,1],[1,0,2],[],[4],[4,5],[5,4,6],[6,4,5,7,2,0,1,3],[3,1,0,2,7,5,4,6,8]],[],[]⟩]) (.cond (.sl 75) (.seq (.reg [⟨[],[],[],some (none,.store 1 (.fa 1 (.fa 0 (.sl 0))) (.bin .add (.ld 1 false (.fa 1 (.fa 0 (.sl 0)))) (.int .i64 1))),[0,3],8,[],[],[]⟩]) (.seq (.reg [⟨[],[(116,(.or (.bin .eql (.ld 1 false (.fa 1 (.fa 0 (.sl 0)))) (.len true (.ld 1 false (.fa 0 (.fa 0 (.sl 0)))))) (.and (.bin .neq (.ix (.ld 1 false (.fa 0 (.fa 0 (.sl 0)))) (.ld 1 false (.fa 1 (.fa 0 (.sl 0))))) (.int .u8 34)) (.bin .neq (.ix (.ld 1 false (.fa 0 (.fa 0 (.sl 0)))) (.ld 1 false (.fa 1 (.fa 0 (.sl 0))))) (.int .u8 92)))))],[],none,[0,3],34,[[],[0],[0,1],[1,0,2],[],[4],[4,5],[5,4,6],[6,4,5,7],[7,5,4,6,8,2,0,1,3],[3,1,0,2,8,6,4,5,7,9],[9,7,5,4,6,8,2,0,1,3,10],[10,3,1,0,2,8,6,4,5,7,9,11],[11,9,7,5,4,6,8,2,0,1,3,10,12],[12,10,3,1,0,2,8,6,4,5,7,9,11,13],[9,7,5,4,6,8,2,0,1,3,10],[10,3,1,0,2,8,6,4,5,7,9,15],[15,9,7,5,4,6,8,2,0,1,3,10,16],[16,10,3,1,0,2,8,6,4,5,7,9,15,17],[17,15,16,18,13,11,9,7,5,4,6,8,2,0,1,3,10,12,14],[14,12,10,3,1,0,2,8,6,4,5,7,9,11,13,18,16,15,17,19],[19,17,15,16,18,13,11,9,7,5,4,6,8,2,0,1,3,10,12,14,20],[20,14,12,10,3,1,0,2,8,6,4,5,7,9,11,13,18,16,15,17,19,21],[21,19,17,15,16,18,13,11,9,7,5,4,6,8,2,0,1,3,10,12,14,20,22],[22,20,14,12,10,3,1,0,2,8,6,4,5,7,9,11,13,18,16,15,17,19,21,23],[23,21,19,17,15,16,18,13,11,9,7,5,4,6,8,2,0,1,3,10,12,14,20,22,24],[20,14,12,10,3,1,0,2,8,6,4,5,7,9,11,13,18,16,15,17,19,21],[21,19,17,15,16,18,13,11,9,7,5,4,6,8,2,0,1,3,10,12,14,20,26],[26,20,14,12,10,3,1,0,2,8,6,4,5,7,9,11,13,18,16,15,17,19,21,27],[27,21,19,17,15,16,18,13,11,9,7,5,4,6,8,2,0,1,3,10,12,14,20,26,28],[28,26,27,29,24,22,20,14,12,10,3,1,0,2,8,6,4,5,7,9,11,13,18,16,15,17,19,21,23,25],[25,23,21,19,17,15,16,18,13,11,9,7,5,4,6,8,2,0,1,3,10,12,14,20,22,24,29,27,26,28,30],[30,28,26,27,29,24,22,23,25,31,20,14,12,10,3,1,0,2,8,6,4,5,7,9,11,13,18,16,15,17,19,21],[21,19,17,15,16,18,13,11,12,14,20,31,25,23,22,24,29,27,26,28,30,32,9,7,5,4,6,8,2,0,1,3,10]],[],[]⟩]) (.cond (.sl 116) .stuck .skip))) .skip)) (.reg [⟨[],[],[],some (some 128,.calle 110 (.cons (.sl 3) (.cons (.ix (.ld 1 false (.fa 0 (.fa 0 (.sl 0)))) (.ld 1 false (.fa 1 (.fa 0 (.sl 0))))) .nil))),[0,3],10,[[],[0],[0,1],[1,0,2],[],[4],[4,5],[5,4,6],[6,4,5,7,2,0,1,3],[3,1,0,2,7,5,4,6,8]],[],[]⟩]))) (.reg [⟨[],[],[],some (none,.store 1 (.fa 1 (.fa 0 (.sl 0))) (.bin .add (.ld 1 false (.fa 1 (.fa 0 (.sl 0)))) (.int .i64 1))),[0,3],8,[],[],[]⟩])))
def f97:Fun:=⟨ (.seq (.reg [⟨[],[],[(.str [])],none,[0],1,[],[],[]⟩]) (.seq (.reg [⟨[],[],[],some (some 5,.calle 109 (.cons (.sl 0) .nil)),[0],2,[],[],[]⟩]) (.seq (.reg [⟨[(3,.bld 78 5)],[],[],none,[0,3],1,[],[],[]⟩]) (.seq (.seq (.reg [⟨[],[(27,(.or (.bin .eql (.ld 1 false (.fa 1 (.fa 0 (.sl 0)))) (.len true (.ld 1 false (.fa 0 (.fa 0 (.sl 0)))))) (.bin .neq (.ix (.ld 1 false (.fa 0 (.fa 0 (.sl 0)))) (.ld 1 false (.fa 1 (.fa 0 (.sl 0))))) (.int .u8 34))))],[],none,[0,3],22,[[],[0],[0,1],[1,0,2],[],[4],[4,5],[5,4,6],[6,4,5,7],[7,5,4,6,8,2,0,1,3],[3,1,0,2,8,6,4,5,7,9],[9,7,5,4,6,8,2,0,1,3,10],[10,3,1,0,2,8,6,4,5,7,9,11],[11,9,7,5,4,6,8,2,0,1,3,10,12],[12,10,3,1,0,2,8,6,4,5,7,9,11,13],[9,7,5,4,6,8,2,0,1,3,10],[10,3,1,0,2,8,6,4,5,7,9,15],[15,9,7,5,4,6,8,2,0,1,3,10,16],[16,10,3,1,0,2,8,6,4,5,7,9,15,17],[17,15,16,18,13,11,9,7,5,4,6,8,2,0,1,3,10,12,14],[14,12,10,3,1,0,2,8,6,4,5,7,9,11,13,18,16,15,17,19],[19,17,15,16,18,13,11,12,14,20,9,7,5,4,6,8,2,0,1,3,10]],[],[]⟩]) (.cond (.sl 27) .stuck .skip)) (.seq (.seq (.reg [⟨[],[],[],some (none,.store 1 (.fa 1 (.fa 0 (.sl 0))) (.bin .add (.ld 1 false (.fa 1 (.fa 0 (.sl 0)))) (.int .i64 1))),[0,3],8,[],[],[]⟩]) (.block 0 (.seq (.keep [0,3]) (.loop (.seq (.keep [0,3]) j2N))))) (.seq (.seq (.reg [⟨[],[(139,(.bin .eql (.ld 1 false (.fa 1 (.fa 0 (.sl 0)))) (.len true (.ld 1 false (.fa 0 (.fa 0 (.sl 0)))))))],[],some (some 140,.calle 52 (.cons (.sl 3) .nil)),[0,3],12,[[],[0],[0,1],[1,0,2],[],[4],[4,5],[5,4,6],[6,4,5,7],[7,5,4,6,8,2,0,1,3],[3,1,0,2,8,6,4,5,7,9],[9,7,5,4,6,8,2,0,1,3,10],[10,3,1,0,2,8,6,4,5,7,9,11],[11,9,7,5,4,6,8,2,0,1,3,10,12],[12,11,13,9,7,5,4,6,8,2,0,1,3,10]],[((.bin .eql (.ld 1 false (.fa 1 (.fa 0 (.sl 0)))) (.len true (.ld 1 false (.fa 0 (.fa 0 (.sl 0)))))),false)],[]⟩,⟨[],[(143,(.or (.sl 139) (.un .not (.call 35 (.cons (.sl 140) .nil)))))],[],none,[0,3],3,[],[],[]⟩]) (.cond (.sl 143) .stuck .skip)) (.seq (.reg [⟨[],[],[],some (none,.store 1 (.fa 1 (.fa 0 (.sl 0))) (.bin .add (.ld 1 false (.fa 1 (.fa 0 (.sl 0)))) (.int .i64 1))),[3],8,[],[],[]⟩]) (.seq (.reg [⟨[],[],[],some (some 153,.calle 52 (.cons (.sl 3) .nil)),[],1,[],[],[]⟩,⟨[],[(2,(.sl 153))],[],none,[],1,[],[],[]⟩]) (.seq (.keep [2]) .ret))))))))), [(.sl 2)],false⟩
/- '(*sloth/code.reader).number' -/
def f98:Fun:=⟨ (.seq (.reg [⟨[],[],[(.int .i64 0)],none,[0],1,[],[],[]⟩]) (.seq (.reg [⟨[],[],[],some (some 7,.calle 96 (.cons (.sl 0) .nil)),[],2,[],[],[]⟩,⟨[],[(3,(.sl 7))],[],none,[],1,[],[],[]⟩]) (.seq (.reg [⟨[],[(4,(.ext 0 (.call 111 (.cons (.sl 3) .nil)))),(5,(.ext 1 (.call 111 (.cons (.sl 3) .nil))))],[],none,[3],7,[],[],[]⟩]) (.seq (.seq (.reg [⟨[],[(28,(.or (.or (.or (.eqs true false [5] (.sl 5) .nilif) (.bin .neq (.call 49 (.cons (.sl 4) .nil)) (.sl 3))) (.bin .lss (.sl 4) (.int .i64 (-4611686018427387904)))) (.bin .gtr (.sl 4) (.int .i64 4611686018427387903))))],[],none,[4],16,[],[],[]⟩]) (.cond (.sl 28) .stuck .skip)) (.seq (.reg [⟨[],[(2,(.sl 4))],[],none,[],2,[],[],[]⟩]) (.seq (.keep [2]) .ret)))))), [(.sl 2)],false⟩
/- '(*sloth/code.reader).instr' -/
def j2M:C:= (.seq (.block 1 (.seq (.reg [⟨[(10,.box (.agg (.cons (.str []) (.cons (.int .i64 0) (.cons (.int .i64 0) .nil)))))],[(19,(.ext 1 (.call 79 (.cons (.sl 9) .nil))))],[],some (none,.store 3 (.sl 10) (.ext 0 (.call 79 (.cons (.sl 9) .nil)))),[0,1,2,3,8,9,10],7,[],[],[]⟩,⟨[],[(11,(.sl 19))],[],none,[0,1,2,3,8,9,10],1,[],[],[]⟩]) (.seq (.seq (.reg [⟨[],[(21,(.un .not (.sl 11)))],[],none,[0,1,2,3,8,9,10],2,[],[],[]⟩]) (.cond (.sl 21) .stuck .skip)) (.seq (.seq (.reg [⟨[],[(27,(.bin .neq (.ld 1 false (.fa 0 (.sl 10))) (.sl 1)))],[],none,[0,1,2,3,8,9,10],4,[],[],[]⟩]) (.cond (.sl 27) (.seq (.keep [0,1,2,3,8,9]) (.exit 1)) .skip)) (.seq (.reg [⟨[(12,.box (.agg (.cons (.int .i64 0) (.cons (.int .i64 0) (.cons (.int .i64 0) .nil)))))],[],[],some (none,.store 3 (.sl 12) (.set 0 1 (.sl 9) (.agg (.cons (.int .i64 0) (.cons (.int .i64 0) (.cons (.int .i64 0) .nil)))))),[0,2,3,8,10,12],4,[],[],[]⟩]) (.seq (.seq (.reg [⟨[],[(32,(.bin .neq (.ld 1 false (.fa 1 (.sl 10))) (.int .i64 0)))],[],none,[0,2,3,8,10,12],3,[],[],[]⟩]) (.cond (.sl 32) (.reg [⟨[],[],[],some (some 38,.calle 112 (.cons (.sl 0) (.cons (.ld 1 false (.fa 1 (.sl 10))) (.cons (.sl 2) (.cons (.sl 3) .nil))))),[0,8,10,12],6,[],[],[]⟩,⟨[],[],[],some (none,.store 1 (.fa 1 (.sl 12)) (.sl 38)),[0,8,10,12],2,[],[],[]⟩]) .skip)) (.seq (.seq (.reg [⟨[],[(42,(.bin .neq (.ld 1 false (.fa 2 (.sl 10))) (.int .i64 0)))],[],none,[0,8,12],3,[],[],[]⟩]) (.cond (.sl 42) (.reg [⟨[],[],[],some (some 44,.calle 98 (.cons (.sl 0) .nil)),[8,12],2,[],[],[]⟩,⟨[],[],[],some (none,.store 1 (.fa 2 (.sl 12)) (.sl 44)),[8,12],2,[],[],[]⟩]) .skip)) (.seq (.reg [⟨[],[],[],some (none,.store 3 (.sl 8) (.ld 3 true (.sl 12))),[8],2,[],[],[]⟩]) (.seq (.keep [8]) .ret))))))))) (.reg [⟨[],[(9,(.bin .add (.sl 9) (.int .i64 1)))],[],none,[0,1,2,3,8],3,[],[],[]⟩]))
def f99:Fun:=⟨ (.seq (.reg [⟨[(8,.box (.agg (.cons (.int .i64 0) (.cons (.int .i64 0) (.cons (.int .i64 0) .nil)))))],[],[],none,[0,1,2,3,8],1,[],[],[]⟩]) (.seq (.reg [⟨[],[(9,(.int .i64 1))],[],none,[0,1,2,3,8],1,[],[],[]⟩]) (.block 0 (.seq (.keep [0,1,2,3,8,9]) (.loop (.seq (.keep [0,1,2,3,8,9]) j2M)))))), [(.ld 3 true (.sl 8))],false⟩
/- 'sloth/code.folded' -/
def f100:Fun:=⟨ (.seq (.reg [⟨[],[],[(.int .u64 0)],none,[0],1,[],[],[]⟩]) (.seq (.seq (.reg [⟨[],[(4,(.bin .lss (.sl 0) (.int .i64 0)))],[],none,[0],2,[],[],[]⟩]) (.cond (.sl 4) (.seq (.reg [⟨[],[(2,(.bin .add (.bin .mul (.int .u64 2) (.conv .u64 (.un .neg (.bin .add (.sl 0) (.int .i64 1))))) (.int .u64 1)))],[],none,[],7,[],[],[]⟩]) (.seq (.tidy 0 [2]) .ret)) .skip)) (.seq (.reg [⟨[],[(2,(.bin .mul (.int .u64 2) (.conv .u64 (.sl 0))))],[],none,[],4,[],[],[]⟩]) (.seq (.tidy 0 [2]) .ret)))), [(.sl 2)],false⟩
theorem j1n:q09 Go.Proofs.Tryz.prog 100 0 1 f100=true:=by kernel_rfl
/- '(*sloth/code.loader).count' -/
def f101:Fun:=⟨ (.seq (.reg [⟨[],[],[(.int .i64 0)],none,[0],1,[],[],[]⟩]) (.seq (.reg [⟨[],[],[],some (some 5,.calle 103 (.cons (.sl 0) .nil)),[0],2,[],[],[]⟩,⟨[],[(3,(.sl 5))],[],none,[0],1,[],[],[]⟩]) (.seq (.seq (.reg [⟨[],[(12,(.bin .gtr (.sl 3) (.len false (.ld 1 false (.fa 0 (.fa 0 (.sl 0)))))))],[],none,[3],7,[],[],[]⟩]) (.cond (.sl 12) .stuck .skip)) (.seq (.reg [⟨[],[(2,(.sl 3))],[],none,[],2,[],[],[]⟩]) (.seq (.tidy 1 [2]) .ret))))), [(.sl 2)],false⟩
/- '(*sloth/code.loader).name' -/
def f102:Fun:=⟨ (.seq (.reg [⟨[],[],[(.str [])],none,[0],1,[],[],[]⟩]) (.seq (.reg [⟨[],[],[],some (some 6,.calle 101 (.cons (.sl 0) .nil)),[0],2,[],[],[]⟩,⟨[],[(3,(.sl 6))],[],none,[0],1,[],[],[]⟩]) (.seq (.reg [⟨[],[(4,(.b2s (.cut false false true false 1 (.ld 1 false (.fa 0 (.fa 0 (.sl 0)))) .nil (.sl 3) .nil)))],[],none,[0,3],8,[],[],[]⟩]) (.seq (.reg [⟨[],[],[],some (none,.store 1 (.fa 0 (.fa 0 (.sl 0))) (.cut false true false false 1 (.ld 1 false (.fa 0 (.fa 0 (.sl 0)))) (.sl 3) .nil .nil)),[4],10,[],[],[]⟩]) (.seq (.reg [⟨[],[(2,(.sl 4))],[],none,[],2,[],[],[]⟩]) (.seq (.tidy 1 [2]) .ret)))))), [(.sl 2)],false⟩
/- '(*sloth/code.loader).number' -/
def f103:Fun:=⟨ (.seq (.reg [⟨[],[],[(.int .i64 0)],none,[0],1,[],[],[]⟩]) (.seq (.reg [⟨[],[],[],some (some 5,.calle 113 (.cons (.sl 0) .nil)),[],2,[],[],[]⟩,⟨[],[(3,(.sl 5))],[],none,[],1,[],[],[]⟩]) (.seq (.seq (.reg [⟨[],[(7,(.bin .gtr (.sl 3) (.int .u64 9223372036854775807)))],[],none,[3],2,[],[],[]⟩]) (.cond (.sl 7) .stuck .skip)) (.seq (.reg [⟨[],[(2,(.conv .i64 (.sl 3)))],[],none,[],3,[],[],[]⟩]) (.seq (.tidy 1 [2]) .ret))))), [(.sl 2)],false⟩
/- '(*sloth/code.loader).instr' -/
def f104:Fun:=⟨ (.seq (.reg [⟨[(2,.box (.agg (.cons (.int .i64 0) (.cons (.int .i64 0) (.cons (.int .i64 0) .nil)))))],[],[],none,[0,2],1,[],[],[]⟩]) (.seq (.reg [⟨[],[],[],some (some 7,.calle 103 (.cons (.sl 0) .nil)),[0,2],2,[],[],[]⟩,⟨[(3,.box (.agg (.cons (.int .i64 0) (.cons (.int .i64 0) (.cons (.int .i64 0) .nil)))))],[],[],some (none,.store 3 (.sl 3) (.set 0 1 (.sl 7) (.agg (.cons (.int .i64 0) (.cons (.int .i64 0) (.cons (.int .i64 0) .nil)))))),[0,2,3],3,[],[],[]⟩]) (.seq (.reg [⟨[(4,.box (.agg (.cons (.str []) (.cons (.int .i64 0) (.cons (.int .i64 0) .nil)))))],[(14,(.ext 1 (.call 79 (.cons (.ld 1 false (.fa 0 (.sl 3))) .nil))))],[],some (none,.store 3 (.sl 4) (.ext 0 (.call 79 (.cons (.ld 1 false (.fa 0 (.sl 3))) .nil)))),[0,2,3,4],8,[],[],[]⟩,⟨[],[(5,(.sl 14))],[],none,[0,2,3,4],1,[],[],[]⟩]) (.seq (.block 0 (.seq (.reg [⟨[],[(15,(.un .not (.sl 5)))],[],none,[0,2,3,4],3,[],[],[]⟩]) (.cond (.sl 15) .stuck (.seq (.reg [⟨[],[(20,(.bin .eql (.ld 1 false (.fa 1 (.sl 4))) (.int .i64 3)))],[],none,[0,2,3,4],4,[],[],[]⟩]) (.cond (.sl 20) (.reg [⟨[],[],[],some (some 25,.calle 114 (.cons (.sl 0) .nil)),[0,2,3,4],2,[],[],[]⟩,⟨[],[],[],some (none,.store 1 (.fa 1 (.sl 3)) (.sl 25)),[0,2,3,4],2,[],[],[]⟩]) (.seq (.reg [⟨[],[(27,(.bin .neq (.ld 1 false (.fa 1 (.sl 4))) (.int .i64 0)))],[],none,[0,2,3,4],4,[],[],[]⟩]) (.cond (.sl 27) (.reg [⟨[],[],[],some (some 32,.calle 103 (.cons (.sl 0) .nil)),[0,2,3,4],2,[],[],[]⟩,⟨[],[],[],some (none,.store 1 (.fa 1 (.sl 3)) (.sl 32)),[0,2,3,4],2,[],[],[]⟩]) .skip))))))) (.seq (.seq (.reg [⟨[],[(36,(.bin .neq (.ld 1 false (.fa 2 (.sl 4))) (.int .i64 0)))],[],none,[0,2,3],3,[],[],[]⟩]) (.cond (.sl 36) (.reg [⟨[],[],[],some (some 38,.calle 103 (.cons (.sl 0) .nil)),[2,3],2,[],[],[]⟩,⟨[],[],[],some (none,.store 1 (.fa 2 (.sl 3)) (.sl 38)),[2,3],2,[],[],[]⟩]) .skip)) (.seq (.reg [⟨[],[],[],some (none,.store 3 (.sl 2) (.ld 3 true (.sl 3))),[2],2,[],[],[]⟩]) (.seq (.tidy 1 [2]) .ret))))))), [(.ld 3 true (.sl 2))],false⟩
/- 'strings.Replace' -/
def j1m:C:= (.seq (.reg [⟨[],[(54,(.bin .lss (.sl 53) (.sl 52)))],[],none,[0,1,2,10,11,52,53],1,[],[],[]⟩]) (.seq (.cond (.sl 54) .skip (.seq (.tidy 0 [0,10,11]) (.exit 0))) (.seq (.block 1 (.seq (.reg [⟨[],[(12,(.bin .add (.sl 11) (.call 117 (.cons (.cut true true false false 0 (.sl 0) (.sl 11) .nil .nil) (.cons (.sl 1) .nil)))))],[],none,[0,1,2,10,11,52,53],8,[],[],[]⟩]) (.seq (.reg [⟨[],[],[],some (some 66,.calle 47 (.cons (.sl 10) (.cons (.cut true true true false 0 (.sl 0) (.sl 11) (.sl 12) .nil) .nil))),[0,1,2,10,12,52,53],5,[],[],[]⟩]) (.seq (.reg [⟨[],[],[],some (some 68,.calle 47 (.cons (.sl 10) (.cons (.sl 2) .nil))),[0,1,2,10,12,52,53],2,[],[],[]⟩]) (.reg [⟨[],[(11,(.bin .add (.sl 12) (.len true (.sl 1))))],[],none,[0,1,2,10,52,53],5,[],[],[]⟩]))))) (.reg [⟨[],[(53,(.bin .add (.sl 53) (.int .i64 1)))],[],none,[0,1,2,10,11,52],2,[],[],[]⟩]))))
def j1l:C:= (.seq (.reg [⟨[],[(79,(.bin .lss (.sl 78) (.sl 77)))],[],none,[0,2,10,11,77,78],1,[],[],[]⟩]) (.seq (.cond (.sl 79) .skip (.seq (.tidy 0 [0,10,11]) (.exit 2))) (.seq (.block 3 (.seq (.reg [⟨[],[(14,(.ext 1 (.call 118 (.cons (.cut true true false false 0 (.sl 0) (.sl 11) .nil .nil) .nil))))],[(.ext 0 (.call 118 (.cons (.cut true true false false 0 (.sl 0) (.sl 11) .nil .nil) .nil)))],none,[0,2,10,11,77,78],9,[],[],[]⟩]) (.seq (.reg [⟨[],[(15,(.bin .add (.sl 11) (.sl 14)))],[],none,[0,2,10,11,77,78],4,[],[],[]⟩]) (.seq (.reg [⟨[],[],[],some (some 94,.calle 47 (.cons (.sl 10) (.cons (.cut true true true false 0 (.sl 0) (.sl 11) (.sl 15) .nil) .nil))),[0,2,10,15,77,78],5,[],[],[]⟩]) (.seq (.reg [⟨[],[],[],some (some 96,.calle 47 (.cons (.sl 10) (.cons (.sl 2) .nil))),[0,2,10,15,77,78],2,[],[],[]⟩]) (.reg [⟨[],[(11,(.sl 15))],[],none,[0,2,10,77,78],2,[],[],[]⟩])))))) (.reg [⟨[],[(78,(.bin .add (.sl 78) (.int .i64 1)))],[],none,[0,2,10,11,77],2,[],[],[]⟩]))))
def f106:Fun:=⟨ (.seq (.reg [⟨[],[],[(.str [])],none,[0,1,2,3],1,[],[],[]⟩]) (.seq (.seq (.reg [⟨[],[(22,(.or (.bin .eql (.sl 1) (.sl 2)) (.bin .eql (.sl 3) (.int .i64 0))))],[],none,[0,1,2,3],7,[],[],[]⟩]) (.cond (.sl 22) (.seq (.reg [⟨[],[(8,(.sl 0))],[],none,[],2,[],[],[]⟩]) (.seq (.tidy 0 [8]) .ret)) .skip)) (.seq (.seq (.reg [⟨[],[(9,(.call 115 (.cons (.sl 0) (.cons (.sl 1) .nil))))],[],none,[0,1,2,3],4,[],[],[]⟩]) (.seq (.reg [⟨[],[(28,(.bin .eql (.sl 9) (.int .i64 0)))],[],none,[0,1,2,3,9],2,[],[],[]⟩]) (.cond (.sl 28) (.seq (.reg [⟨[],[(8,(.sl 0))],[],none,[],2,[],[],[]⟩]) (.seq (.tidy 0 [8]) .ret)) (.seq (.reg [⟨[],[(36,(.or (.bin .lss (.sl 3) (.int .i64 0)) (.bin .lss (.sl 9) (.sl 3))))],[],none,[0,1,2,3,9],7,[],[],[]⟩]) (.cond (.sl 36) (.reg [⟨[],[(3,(.sl 9))],[],none,[0,1,2],2,[],[],[]⟩]) .skip))))) (.seq (.reg [⟨[(10,.bld 78 5)],[],[],none,[0,1,2,3,10],1,[],[],[]⟩]) (.seq (.reg [⟨[],[],[(.call 116 (.cons (.sl 10) (.cons (.bin .add (.len true (.sl 0)) (.bin .mul (.sl 3) (.bin .sub (.len true (.sl 2)) (.len true (.sl 1))))) .nil)))],none,[0,1,2,3,10],11,[],[],[]⟩]) (.seq (.reg [⟨[],[(11,(.int .i64 0))],[],none,[0,1,2,3,10],1,[],[],[]⟩]) (.seq (.seq (.reg [⟨[],[(51,(.bin .gtr (.len true (.sl 1)) (.int .i64 0)))],[],none,[0,1,2,3,10,11],3,[],[],[]⟩]) (.cond (.sl 51) (.seq (.reg [⟨[],[(52,(.sl 3)),(53,(.int .i64 0))],[],none,[0,1,2,10,11],2,[],[],[]⟩]) (.block 0 (.seq (.tidy 0 [0,1,2,10,11,52,53]) (.loop (.seq (.tidy 0 [0,1,2,10,11,52,53]) j1m))))) (.seq (.reg [⟨[],[],[],some (some 75,.calle 47 (.cons (.sl 10) (.cons (.sl 2) .nil))),[0,2,3,10,11],2,[],[],[]⟩]) (.seq (.reg [⟨[],[(77,(.bin .sub (.sl 3) (.int .i64 1))),(78,(.int .i64 0))],[],none,[0,2,10,11],3,[],[],[]⟩]) (.block 2 (.seq (.tidy 0 [0,2,10,11,77,78]) (.loop (.seq (.tidy 0 [0,2,10,11,77,78]) j1l)))))))) (.seq (.reg [⟨[],[],[],some (some 102,.calle 47 (.cons (.sl 10) (.cons (.cut true true false false 0 (.sl 0) (.sl 11) .nil .nil) .nil))),[10],4,[],[],[]⟩]) (.seq (.reg [⟨[],[],[],some (some 103,.calle 52 (.cons (.sl 10) .nil)),[],1,[],[],[]⟩,⟨[],[(8,(.sl 103))],[],none,[],1,[],[],[]⟩]) (.seq (.tidy 0 [8]) .ret)))))))))), [(.sl 8)],false⟩
/- 'sloth/code.operators' -/
def f108:Fun:=⟨ (.seq (.reg [⟨[],[],[(.nilsl 1)],none,[],1,[],[],[]⟩]) (.seq (.reg [⟨[(1,.lits 1 (.cons (.str []) (.cons (.str [43]) (.cons (.str [45]) (.cons (.str [42]) (.cons (.str [47]) (.cons (.str [37]) (.cons (.str [61,61]) (.cons (.str [47,61]) (.cons (.str [60]) (.cons (.str [60,61]) (.cons (.str [62]) (.cons (.str [62,61]) .nil)))))))))))))],[(0,(.sl 1))],[],none,[],2,[],[],[]⟩]) (.seq (.tidy 0 [0]) .ret))), [(.sl 0)],false⟩
/- '(*sloth/code.reader).blanks' -/
def j1k:C:= (.seq (.seq (.reg [⟨[],[(24,(.and (.bin .lss (.ld 1 false (.fa 1 (.fa 0 (.sl 0)))) (.len true (.ld 1 false (.fa 0 (.fa 0 (.sl 0)))))) (.bin .geq (.call 123 (.cons (.str [32,9,10,13]) (.cons (.ix (.ld 1 false (.fa 0 (.fa 0 (.sl 0)))) (.ld 1 false (.fa 1 (.fa 0 (.sl 0))))) .nil))) (.int .i64 0))))],[],none,[0],23,[[],[0],[0,1],[1,0,2],[],[4],[4,5],[5,4,6],[6,4,5,7],[7,5,4,6,8,2,0,1,3],[3,1,0,2,8,6,4,5,7,9],[9,7,5,4,6,8,2,0,1,3,10],[10,3,1,0,2,8,6,4,5,7,9,11],[11,9,7,5,4,6,8,2,0,1,3,10,12],[12,10,3,1,0,2,8,6,4,5,7,9,11,13],[9,7,5,4,6,8,2,0,1,3,10],[10,3,1,0,2,8,6,4,5,7,9,15],[15,9,7,5,4,6,8,2,0,1,3,10,16],[16,10,3,1,0,2,8,6,4,5,7,9,15,17],[17,15,16,18,13,11,9,7,5,4,6,8,2,0,1,3,10,12,14],[14,12,10,3,1,0,2,8,6,4,5,7,9,11,13,18,16,15,17,19],[19,17,15,16,18,13,11,9,7,5,4,6,8,2,0,1,3,10,12,14,20],[20,14,12,11,13,18,16,15,17,19,21,9,7,5,4,6,8,2,0,1,3,10]],[],[]⟩]) (.cond (.sl 24) .skip (.seq (.keep []) (.exit 0)))) (.block 1 (.reg [⟨[],[],[],some (none,.store 1 (.fa 1 (.fa 0 (.sl 0))) (.bin .add (.ld 1 false (.fa 1 (.fa 0 (.sl 0)))) (.int .i64 1))),[0],8,[],[],[]⟩])))
def f109:Fun:=⟨ (.block 0 (.seq (.keep [0]) (.loop (.seq (.keep [0]) j1k)))), [],false⟩
/- '(*sloth/code.reader).piece' -/
def j1j:C:= (.seq (.reg [⟨[],[(37,(.bin .lss (.sl 36) (.sl 35)))],[],none,[0,9,34,35,36],1,[],[],[]⟩]) (.seq (.cond (.sl 37) .skip (.seq (.keep [0]) (.exit 1))) (.seq (.block 2 (.seq (.reg [⟨[],[(10,(.sl 36)),(11,(.ld 1 false (.ia 1 (.sl 34) (.sl 36))))],[],none,[0,9,34,35,36],5,[],[],[]⟩]) (.seq (.reg [⟨[],[(47,(.and (.bin .eql (.sl 11) (.sl 9)) (.bin .gtr (.sl 10) (.int .i64 0))))],[],none,[0,9,10,34,35,36],7,[],[],[]⟩]) (.cond (.sl 47) (.seq (.reg [⟨[],[(8,(.sl 10))],[],none,[],2,[],[],[]⟩]) (.seq (.keep [8]) .ret)) .skip)))) (.reg [⟨[],[(36,(.bin .add (.sl 36) (.int .i64 1)))],[],none,[0,9,34,35],2,[],[],[]⟩]))))
def f112:Fun:=⟨ (.seq (.reg [⟨[],[],[(.int .i64 0)],none,[0,1,2,3],1,[],[],[]⟩]) (.seq (.seq (.reg [⟨[],[(12,(.sl 1))],[],none,[0,2,3],1,[],[],[]⟩]) (.block 0 (.seq (.seq (.reg [⟨[],[(13,(.bin .eql (.sl 12) (.int .i64 4)))],[],none,[0,2,3,12],2,[],[],[]⟩]) (.cond (.sl 13) .skip (.reg [⟨[],[(13,(.bin .eql (.sl 12) (.int .i64 5)))],[],none,[0,2,3,12],2,[],[],[]⟩]))) (.cond (.sl 13) (.seq (.regl [⟨[],[],[(.sl 3),(.sl 2),(.ld 1 false (.fa 2 (.fa 0 (.sl 0))))],some (some 24,.calle 97 (.cons (.sl 0) .nil)),[0,2,3],9,[[],[],[1],[1,2],[2,1,3],[],[],[],[7],[7,8,6,5],[5,6,8,7,9],[9,7,8,6,5,10,3,1,2,4],[11,10,9,8,7,6,5,4,3,2,1,0],[0,1,2,3,4,5,6,7,8,9,10,11,12],[12,11,10,9,8,7,6,5,4,3,2,1,0,13]],[],[(.sl 0),(.fa 0 (.sl 0)),(.fa 2 (.fa 0 (.sl 0))),(.ld 1 false (.fa 2 (.fa 0 (.sl 0)))),(.sl 2),(.sl 3)]⟩,⟨[(26,.lits 3 (.cons (.set 2 1 (.sl 24) (.set 1 1 (.sl 3) (.set 0 1 (.sl 2) (.agg (.cons (.int .i64 0) (.cons (.int .i64 0) (.cons (.str []) .nil))))))) .nil))],[],[],some (some 27,.app 3 (.ld 1 false (.fa 2 (.fa 0 (.sl 0)))) (.sl 26)),[0],3,[],[],[(.sl 0)]⟩,⟨[],[],[],some (none,.store 1 (.fa 2 (.fa 0 (.sl 0))) (.sl 27)),[],3,[],[],[]⟩]) (.seq (.reg [⟨[],[(8,(.int .i64 0))],[],none,[],1,[],[],[]⟩]) (.seq (.keep [8]) .ret))) (.seq (.reg [⟨[],[(30,(.bin .eql (.sl 12) (.int .i64 6)))],[],none,[0],2,[],[],[]⟩]) (.cond (.sl 30) (.seq (.reg [⟨[],[],[],some (some 33,.calle 96 (.cons (.sl 0) .nil)),[0],2,[],[],[]⟩,⟨[],[(9,(.sl 33))],[],none,[0],1,[],[],[]⟩]) (.seq (.seq (.reg [⟨[],[(34,(.call 108 .nil)),(35,(.len false (.call 108 .nil))),(36,(.int .i64 0))],[],none,[0,9],3,[],[],[]⟩]) (.block 1 (.seq (.keep [0,9,34,35,36]) (.loop (.seq (.keep [0,9,34,35,36]) j1j))))) .stuck)) .skip)))))) (.seq (.reg [⟨[],[],[],some (some 53,.calle 98 (.cons (.sl 0) .nil)),[],2,[],[],[]⟩,⟨[],[(8,(.sl 53))],[],none,[],1,[],[],[]⟩]) (.seq (.keep [8]) .ret)))), [(.sl 8)],false⟩
/- '(*sloth/code.loader).folded' -/
def j1i:C:= (.seq (.seq (.reg [⟨[],[(7,(.bin .lss (.sl 4) (.int .i64 64)))],[],none,[0,2,3,4],2,[],[],[]⟩]) (.cond (.sl 7) .skip (.seq (.tidy 1 [2]) (.exit 0)))) (.seq (.block 1 (.seq (.reg [⟨[],[],[],some (some 11,.calle 126 (.cons (.sl 0) .nil)),[0,2,3,4],2,[],[],[]⟩,⟨[],[(5,(.sl 11))],[],none,[0,2,3,4],1,[],[],[]⟩]) (.seq (.seq (.reg [⟨[],[(25,(.or (.and (.bin .eql (.sl 4) (.int .i64 63)) (.bin .gtr (.sl 5) (.int .u8 1))) (.and (.bin .gtr (.sl 4) (.int .i64 0)) (.bin .eql (.sl 5) (.int .u8 0)))))],[],none,[0,2,3,4,5],14,[],[],[]⟩]) (.cond (.sl 25) .stuck .skip)) (.seq (.reg [⟨[],[(3,(.bin .or (.sl 3) (.sh true (.conv .u64 (.bin .and (.sl 5) (.int .u8 127))) (.sl 4))))],[],none,[0,2,4,5],8,[],[],[]⟩]) (.seq (.reg [⟨[],[(36,(.bin .lss (.sl 5) (.int .u8 128)))],[],none,[0,2,3,4],2,[],[],[]⟩]) (.cond (.sl 36) (.seq (.reg [⟨[],[(2,(.sl 3))],[],none,[],2,[],[],[]⟩]) (.seq (.tidy 1 [2]) .ret)) .skip)))))) (.reg [⟨[],[(4,(.bin .add (.sl 4) (.int .i64 7)))],[],none,[0,2,3],3,[],[],[]⟩])))
def f113:Fun:=⟨ (.seq (.reg [⟨[],[(2,(.int .u64 0))],[],none,[0],1,[],[],[]⟩]) (.seq (.reg [⟨[],[(3,(.int .u64 0))],[],none,[0,2],1,[],[],[]⟩]) (.seq (.seq (.reg [⟨[],[(4,(.int .i64 0))],[],none,[0,2,3],1,[],[],[]⟩]) (.block 0 (.seq (.tidy 1 [0,2,3,4]) (.loop (.seq (.tidy 1 [0,2,3,4]) j1i))))) .stuck))), [(.sl 2)],false⟩
/- '(*sloth/code.loader).signed' -/
def f114:Fun:=⟨ (.seq (.reg [⟨[],[],[(.int .i64 0)],none,[0],1,[],[],[]⟩]) (.seq (.reg [⟨[],[],[],some (some 5,.calle 113 (.cons (.sl 0) .nil)),[],2,[],[],[]⟩,⟨[],[(3,(.sl 5))],[],none,[],1,[],[],[]⟩]) (.seq (.seq (.reg [⟨[],[(8,(.bin .eql (.bin .and (.sl 3) (.int .u64 1)) (.int .u64 1)))],[],none,[3],3,[],[],[]⟩]) (.cond (.sl 8) (.seq (.reg [⟨[],[(2,(.bin .sub (.un .neg (.conv .i64 (.sh false (.sl 3) (.int .u64 1)))) (.int .i64 1)))],[],none,[],6,[],[],[]⟩]) (.seq (.tidy 1 [2]) .ret)) .skip)) (.seq (.reg [⟨[],[(2,(.conv .i64 (.sh false (.sl 3) (.int .u64 1))))],[],none,[],4,[],[],[]⟩]) (.seq (.tidy 1 [2]) .ret))))), [(.sl 2)],false⟩
/- '(*sloth/code.loader).take' -/
def f126:Fun:=⟨ (.seq (.reg [⟨[],[],[(.int .u8 0)],none,[0],1,[],[],[]⟩]) (.seq (.seq (.reg [⟨[],[(9,(.bin .eql (.len false (.ld 1 false (.fa 0 (.fa 0 (.sl 0))))) (.int .i64 0)))],[],none,[0],6,[],[],[]⟩]) (.cond (.sl 9) .stuck .skip)) (.seq (.reg [⟨[],[(3,(.ld 1 false (.ia 1 (.ld 1 false (.fa 0 (.fa 0 (.sl 0)))) (.int .i64 0))))],[],none,[0],7,[],[],[]⟩]) (.seq (.reg [⟨[],[],[],some (none,.store 1 (.fa 0 (.fa 0 (.sl 0))) (.cut false true false false 1 (.ld 1 false (.fa 0 (.fa 0 (.sl 0)))) (.int .i64 1) .nil .nil)),[3],9,[],[],[]⟩]) (.seq (.reg [⟨[],[(2,(.sl 3))],[],none,[],2,[],[],[]⟩]) (.seq (.tidy 1 [2]) .ret)))))), [(.sl 2)],false⟩
def eB8:List Blk→Option (List UInt8)
  |[.map [(.nils 78,.bsl 1 0 n)],.map [(.emps 5,.d false .nilp),(.str bytes,.d false .nilp)]]=>if n=bytes.length∧n≤1000000 then some bytes else none
  |_=>none
theorem z2W{bs:List Blk}{bytes:List UInt8}(h:eB8 bs=some bytes):bs=[bldB 78 1 bytes.length,bufB 5 bytes]∧bytes.length≤1000000:=by
  unfold eB8 at h
  split at h
  · split at h
    · rename_i hc
      obtain⟨h1,h2⟩:=hc
      simp only[Option.some.injEq] at h
      subst h
      subst h1
      exact⟨rfl,h2⟩
    · cases h
  · cases h
def j3U:FuncId→List V→List Blk→Option (V×List Blk×List Nat)
  |110,[.ptr 0 0 0,.d false (.int .u8 c)],bs=>match eB8 bs with
    |some bytes=>if 0≤c∧c<256 then some (.d false .nilif,[bldB 78 1 (bytes++[UInt8.ofNat c.toNat]).length,bufB 5 (bytes++[UInt8.ofNat c.toNat])],[1]) else none
    |none=>none
  |47,[.ptr 0 0 0,.d false (.str s)],bs=>match eB8 bs with
    |some bytes=>if s.length≤1000000 then some (.tup [.d false (.int .i64 s.length),.d false .nilif],[bldB 78 1 (bytes++s).length,bufB 5 (bytes++s)],[1]) else none
    |none=>none
  |51,[.ptr 0 0 0],bs=>match eB8 bs with
    |some bytes=>some (.d false (.int .i64 bytes.length),[bldB 78 1 bytes.length,bufB 5 bytes],[])
    |none=>none
  |52,[.ptr 0 0 0],bs=>match eB8 bs with
    |some bytes=>some (.d false (.str bytes),[bldB 78 1 bytes.length,bufB 5 bytes],[1])
    |none=>none
  |_,_,_=>none
theorem z3Y:∀ n:Nat,n<10→Lib.itoa n=[UInt8.ofNat (48+n)]:=by
  intro n h
  unfold Lib.itoa
  rw[if_neg (by omega),Int.toNat_natCast,Lib.decDigits]
  simp [h]
theorem z4x:∀ n:Nat,n<10→Lib.atoi [UInt8.ofNat (48+n)]=some (n:Int):=by decide
def z94:FuncId→List V→Option (V×List Blk)
  |49,[.d _ (.int .i64 n)]=>if 0≤n∧n<10 then some (.d false (.str [UInt8.ofNat (48+n.toNat)]),[]) else none
  |111,[.d _ (.str [c])]=>if 48≤c.toNat∧c.toNat<58 then some (.tup [.d false (.int .i64 (c.toNat - 48:Nat)),.d false .nilif],[]) else none
  |123,[.d _ (.str s),.d _ (.int .u8 c)]=>if 0≤c∧c<256 then some (.d false (.int .i64 (Lib.indexByte s (UInt8.ofNat c.toNat))),[]) else none
  |115,[.d _ (.str s),.d _ (.str [c])]=>some (.d false (.int .i64 (s.count c)),[])
  |_,_=>none
def KS8:Cx:=⟨z94,j3U,GT,fun _=>false,[]⟩
theorem z7y:KS8.Sound Tryz.prog:=by
  refine⟨fun f args r news h=>?_,fun f args r news h=>(by cases h),fun f args blks r blks' mv h=>?_⟩
  · simp only[KS8] at h ⊢
    unfold z94 at h
    split at h
    · refine⟨by kernel_rfl,?_⟩
      split at h
      · rename_i a n hc
        simp only[Option.some.injEq,Prod.mk.injEq] at h
        obtain⟨rfl,rfl⟩:=h
        have e:=z3Y n.toNat (by omega)
        have e2:((n.toNat:Nat):Int)=n:=by omega
        rw[e2] at e
        rw[←e]
        exact z5O n a (by omega) (by omega)
      · cases h
    · refine⟨by kernel_rfl,?_⟩
      split at h
      · rename_i a c hc
        simp only[Option.some.injEq,Prod.mk.injEq] at h
        obtain⟨rfl,rfl⟩:=h
        have e:=z4x (c.toNat - 48) (by omega)
        have e2:UInt8.ofNat (48+(c.toNat - 48))=c:=by
          rw[show 48+(c.toNat - 48)=c.toNat by omega];simp
        rw[e2] at e
        exact z5P [c] a _ (by simp) e
      · cases h
    · refine⟨by kernel_rfl,?_⟩
      split at h
      · rename_i a s b c hc
        simp only[Option.some.injEq,Prod.mk.injEq] at h
        obtain⟨rfl,rfl⟩:=h
        have:=z3I s (UInt8.ofNat c.toNat) a b
        have e:((UInt8.ofNat c.toNat).toNat:Int)=c:=by
          rw[UInt8.toNat_ofNat'];omega
        rw[e] at this
        exact this
      · cases h
    · refine⟨by kernel_rfl,?_⟩
      simp only[Option.some.injEq,Prod.mk.injEq] at h
      obtain⟨rfl,rfl⟩:=h
      exact z3J _ _ _ _
    · cases h
  · simp only[KS8] at h ⊢
    unfold j3U at h
    split at h
    · refine⟨by kernel_rfl,?_⟩
      split at h
      · rename_i bytes hb
        obtain⟨rfl,hl⟩:=z2W hb
        split at h
        · rename_i c _ hc
          simp only[Option.some.injEq,Prod.mk.injEq] at h
          obtain⟨rfl,rfl,rfl⟩:=h
          have:=q9D (G:=GT) tB_wb bytes (UInt8.ofNat c.toNat) (by omega)
          have e:((UInt8.ofNat c.toNat).toNat:Int)=c:=by
            rw[UInt8.toNat_ofNat'];omega
          rw[e] at this
          exact this
        · cases h
      · cases h
    · refine⟨by kernel_rfl,?_⟩
      split at h
      · rename_i bytes hb
        obtain⟨rfl,hl⟩:=z2W hb
        split at h
        · simp only[Option.some.injEq,Prod.mk.injEq] at h
          obtain⟨rfl,rfl,rfl⟩:=h
          exact q8h tB_ws bytes _ (by omega)
        · cases h
      · cases h
    · refine⟨by kernel_rfl,?_⟩
      split at h
      · rename_i bytes hb
        obtain⟨rfl,hl⟩:=z2W hb
        simp only[Option.some.injEq,Prod.mk.injEq] at h
        obtain⟨rfl,rfl,rfl⟩:=h
        exact j1z Tryz.lays170 bytes
      · cases h
    · refine⟨by kernel_rfl,?_⟩
      split at h
      · rename_i bytes hb
        obtain⟨rfl,hl⟩:=z2W hb
        simp only[Option.some.injEq,Prod.mk.injEq] at h
        obtain⟨rfl,rfl,rfl⟩:=h
        exact z4o Tryz.lays169 Tryz.Builder_Extra_169 bytes
      · cases h
    · cases h
end Go.Vm
end

section
namespace Go.Vm
set_option maxRecDepth 20000
open Go.Proofs
/- 'sloth/slothref17.number' -/
def f63_L0:C:= (.seq (.seq (.reg [⟨[],[(6,(.bin .geq (.sl 1) (.int .u64 128)))],[],none,[0,1],2,[],[],[]⟩]) (.cond (.sl 6) .skip (.seq (.tidy 1 [0,1]) (.exit 0)))) (.block 1 (.seq (.reg [⟨[(12,.lits 1 (.cons (.bin .add (.conv .u8 (.bin .rem (.sl 1) (.int .u64 128))) (.int .u8 128)) .nil))],[],[],some (some 13,.app 1 (.sl 0) (.sl 12)),[1],7,[],[],[]⟩,⟨[],[(0,(.sl 13))],[],none,[1],1,[],[],[]⟩]) (.reg [⟨[],[(1,(.bin .quo (.sl 1) (.int .u64 128)))],[],none,[0],3,[],[],[]⟩]))))
def f63:Fun:=⟨ (.seq (.reg [⟨[],[],[(.nilsl 1)],none,[0,1],1,[],[],[]⟩]) (.seq (.block 0 (.seq (.tidy 1 [0,1]) (.loop (.seq (.tidy 1 [0,1]) f63_L0)))) (.seq (.reg [⟨[(19,.lits 1 (.cons (.conv .u8 (.sl 1)) .nil))],[],[],some (some 20,.app 1 (.sl 0) (.sl 19)),[],5,[],[],[]⟩,⟨[],[(4,(.sl 20))],[],none,[],1,[],[],[]⟩]) (.seq (.tidy 1 [4]) .ret)))), [(.sl 4)],false⟩
theorem j3b:q09 Go.Proofs.Tryz.prog 63 1 2 f63=true:=by kernel_rfl
/- 'sloth/slothref17.signed' -/
def f66:Fun:=⟨ (.seq (.reg [⟨[],[],[(.int .u64 0)],none,[0],1,[],[],[]⟩]) (.seq (.seq (.reg [⟨[],[(4,(.bin .lss (.sl 0) (.int .i64 0)))],[],none,[0],2,[],[],[]⟩]) (.cond (.sl 4) (.seq (.reg [⟨[],[(2,(.bin .add (.bin .mul (.conv .u64 (.un .neg (.bin .add (.sl 0) (.int .i64 1)))) (.int .u64 2)) (.int .u64 1)))],[],none,[],7,[],[],[]⟩]) (.seq (.tidy 0 [2]) .ret)) .skip)) (.seq (.reg [⟨[],[(2,(.bin .mul (.conv .u64 (.sl 0)) (.int .u64 2)))],[],none,[],4,[],[],[]⟩]) (.seq (.tidy 0 [2]) .ret)))), [(.sl 2)],false⟩
theorem j28:q09 Go.Proofs.Tryz.prog 66 0 1 f66=true:=by kernel_rfl
def leb(n:Nat):Bs:=if n<128 then [UInt8.ofNat n] else UInt8.ofNat (n % 128+128) :: leb (n / 128)
decreasing_by omega
theorem q36{n:Nat}(h:n<128):leb n=[UInt8.ofNat n]:=by rw[leb,if_pos h]
theorem z6o{n:Nat}(h:¬ n<128):leb n=UInt8.ofNat (n % 128+128) :: leb (n / 128):=by rw[leb,if_neg h]
theorem z6n:∀(k n:Nat),n<128 ^ (k+1)→(leb n).length≤k+1
  |0,n,h=>by rw[q36 (by simpa using h)];simp
  |k+1,n,h=>by
    rw[leb]
    split
    · simp
    · have:=z6n k (n / 128) (by rw[Nat.pow_succ] at h;omega)
      simp only[List.length_cons];omega
theorem z9Z{n:Nat}(h:n<256):eU (UInt8.ofNat n)=[.int .u8 (n:Int)]:=by
  have:(UInt8.ofNat n).toNat=n:=by simp;omega
  rw[eU,this]
theorem z3z(x:Int):IntKind.u8.wrap x=x % 256:=by simp [IntKind.wrap,IntKind.signed,IntKind.bits]
theorem w8r(n:Nat):IntKind.u8.wrap (IntKind.u8.wrap ((n % 128:Nat):Int)+128)=((n % 128+128:Nat):Int):=by
  rw[z3z,z3z];omega
theorem w8m{n:Nat}(h:n<128):IntKind.u8.wrap (n:Int)=(n:Int):=by
  rw[z3z];omega
theorem fUN{n:Nat}(h:n<256)(l:Bs):l.map eU++[[D.int .u8 (n:Int)]]=(l++[UInt8.ofNat n]).map eU:=by rw[List.map_append,List.map_singleton,z9Z h]
theorem w64u{n:Nat}(h:n≤18446744073709551615):IntKind.u64.wrap (n:Int)=(n:Int):=by
  have:IntKind.u64.wrap (n:Int)=(n:Int) % 18446744073709551616:=by simp [IntKind.wrap,IntKind.signed,IntKind.bits]
  omega
theorem z1E(K:Cx)(c:Bool):∀(k n:Nat)(a:Bool)(l:Bs)(mv:List Nat),n<128 ^ (k+1)→n≤18446744073709551615→l.length+k≤1000000000000→(mv=[]∨mv=[0])→
    ∃ m a' l' mv',(mv'=[]∨mv'=[0])∧m<128∧l'.length≤1000000000000∧l++leb n=l'++[UInt8.ofNat m]∧
    lp K 1 [0,1] f63_L0 ⟨[(0,.bsl 0 0 l.length),(1,.d a (.int .u64 n))],[(0,.dat c 1 (l.map eU))],1,mv⟩ =
      some (.exit 0,⟨[(0,.bsl 0 0 l'.length),(1,.d a' (.int .u64 m))],[(0,.dat c 1 (l'.map eU))],1,mv'⟩):=by
  intro k
  induction k with
  |zero=>
    intro n a l mv hk h64 hl hm
    have hn:n<128:=by simpa using hk
    refine⟨n,a,l,mv,hm,hn,by omega,by rw[q36 hn],?_⟩
    rw[q0K f63_L0.eq_1]
    rcases hm with rfl|rfl
    · simp(disch:=first|decide|omega|(simp only[LN];first|done|omega)) only[SV,SW,Nat.reduceBEq,q1t]
    · simp(disch:=first|decide|omega|(simp only[LN];first|done|omega)) only[SV,SW,Nat.reduceBEq,q1t]
  |succ k ih=>
    intro n a l mv hk h64 hl hm
    by_cases hn:n<128
    · refine⟨n,a,l,mv,hm,hn,by omega,by rw[q36 hn],?_⟩
      rw[q0K f63_L0.eq_1]
      rcases hm with rfl|rfl
      · simp(disch:=first|decide|omega|(simp only[LN];first|done|omega)) only[SV,SW,Nat.reduceBEq,q1t]
      · simp(disch:=first|decide|omega|(simp only[LN];first|done|omega)) only[SV,SW,Nat.reduceBEq,q1t]
    · obtain⟨m,a',l',mv',h1,h2,h3,h4,h5⟩:=ih (n / 128) false (l++[UInt8.ofNat (n % 128+128)]) [0] (by rw[Nat.pow_succ] at hk;omega) (by omega) (by simp;omega) (.inr rfl)
      refine⟨m,a',l',mv',h1,h2,h3,by rw[z6o hn,←h4];simp,?_⟩
      rw[←h5]
      clear ih h5 h4 hk h1
      have a1:(n:Int).tdiv 128=((n / 128:Nat):Int):=rfl
      have a2:(n:Int).tmod 128=((n % 128:Nat):Int):=rfl
      have hm2:n % 128<128:=by omega
      have d1:=w8r n
      have d2:=fUN (n:=n % 128+128) (by omega) l
      have a3:=w64u (n:=n / 128) (by omega)
      rw[q0K f63_L0.eq_1]
      rcases hm with rfl|rfl
      · simp(disch:=first|decide|omega|(simp only[LN];first|done|omega)) only[SV,SW,Nat.reduceBEq,Int.reduceEq,a2,q0M,d1,Nat.reduceAdd,d2,lose,V.forget,V.drop1,V.ref0,a1,a3,q1t]
      · simp(disch:=first|decide|omega|(simp only[LN];first|done|omega)) only[SV,SW,Nat.reduceBEq,Int.reduceEq,a2,q0M,d1,Nat.reduceAdd,d2,lose,V.forget,V.drop1,V.ref0,a1,a3,q1t]
theorem j1t(K:Cx)(a c:Bool)(l:Bs)(n:Nat)(hl:l.length≤999999999000)(hn:n≤18446744073709551615) :
    q0B K f63 [.bsl 0 0 l.length,.d a (.int .u64 n)] [.dat c 1 (l.map eU)]=some (.bsl 0 0 (l++leb n).length,[.dat c 1 ((l++leb n).map eU)],[0]):=by
  obtain⟨m,a',l',mv',h1,h2,h3,h4,h5⟩:=z1E K c 9 n a l [] (Nat.lt_of_le_of_lt hn (by decide)) hn (by omega) (.inl rfl)
  rw[h4]
  have d1:=w8m h2
  have d2:=fUN (n:=m) (by omega) l'
  clear h4
  rcases h1 with rfl|rfl
  · simp(disch:=first|decide|omega|(simp only[LN];first|done|omega)) only[SV,SW,f63,Nat.reduceAdd,Nat.reduceBEq,q1t,h5,q0M,d1,d2,lose,V.forget,V.drop1,V.ref0,q0b,hNew,V.newR,q0c,q5e]
  · simp(disch:=first|decide|omega|(simp only[LN];first|done|omega)) only[SV,SW,f63,Nat.reduceAdd,Nat.reduceBEq,q1t,h5,q0M,d1,d2,lose,V.forget,V.drop1,V.ref0,q0b,hNew,V.newR,q0c,q5e]
theorem or128:∀ x:BitVec 8,(x ||| 128#8).toNat=x.toNat % 128+128:=by decide
theorem w8o(n:Nat):bits .or .u8 (IntKind.u8.wrap (n:Int)) 128=((n % 128+128:Nat):Int):=by
  have h:=or128 (BitVec.ofInt 8 (IntKind.u8.wrap (n:Int)))
  show IntKind.u8.wrap (((BitVec.ofInt 8 (IntKind.u8.wrap (n:Int)) ||| 128#8).toNat:Nat):Int)=_
  rw[h,z3z,z3z,BitVec.toNat_ofInt]
  omega
theorem sh7(c c':Bool){k':IntKind}(n:Nat):evSh false (.d c (.int .u64 (n:Int))) (.d c' (.int k' 7))=some (.int .u64 ((n / 128:Nat):Int)):=rfl
theorem z5M(K:Cx)(c:Bool):∀(k n:Nat)(a:Bool)(l:Bs)(mv:List Nat),n<128 ^ (k+1)→n≤18446744073709551615→l.length+k≤1000000000000→(mv=[]∨mv=[0])→
    ∃ m a' l' mv',(mv'=[]∨mv'=[0])∧m<128∧l'.length≤1000000000000∧l++leb n=l'++[UInt8.ofNat m]∧
    lp K 1 [0,1] f68_L0 ⟨[(0,.bsl 0 0 l.length),(1,.d a (.int .u64 n))],[(0,.dat c 1 (l.map eU))],1,mv⟩ =
      some (.exit 0,⟨[(0,.bsl 0 0 l'.length),(1,.d a' (.int .u64 m))],[(0,.dat c 1 (l'.map eU))],1,mv'⟩):=by
  intro k
  induction k with
  |zero=>
    intro n a l mv hk h64 hl hm
    have hn:n<128:=by simpa using hk
    refine⟨n,a,l,mv,hm,hn,by omega,by rw[q36 hn],?_⟩
    rw[q0K f68_L0.eq_1]
    rcases hm with rfl|rfl
    · simp(disch:=first|decide|omega|(simp only[LN];first|done|omega)) only[SV,SW,Nat.reduceBEq,q1t]
    · simp(disch:=first|decide|omega|(simp only[LN];first|done|omega)) only[SV,SW,Nat.reduceBEq,q1t]
  |succ k ih=>
    intro n a l mv hk h64 hl hm
    by_cases hn:n<128
    · refine⟨n,a,l,mv,hm,hn,by omega,by rw[q36 hn],?_⟩
      rw[q0K f68_L0.eq_1]
      rcases hm with rfl|rfl
      · simp(disch:=first|decide|omega|(simp only[LN];first|done|omega)) only[SV,SW,Nat.reduceBEq,q1t]
      · simp(disch:=first|decide|omega|(simp only[LN];first|done|omega)) only[SV,SW,Nat.reduceBEq,q1t]
    · obtain⟨m,a',l',mv',h1,h2,h3,h4,h5⟩:=ih (n / 128) false (l++[UInt8.ofNat (n % 128+128)]) [0] (by rw[Nat.pow_succ] at hk;omega) (by omega) (by simp;omega) (.inr rfl)
      refine⟨m,a',l',mv',h1,h2,h3,by rw[z6o hn,←h4];simp,?_⟩
      rw[←h5]
      clear ih h5 h4 hk h1
      have d1:=w8o n
      have d2:=fUN (n:=n % 128+128) (by omega) l
      rw[q0K f68_L0.eq_1]
      rcases hm with rfl|rfl
      · simp(disch:=first|decide|omega|(simp only[LN];first|done|omega)) only[SV,SW,Nat.reduceBEq,q0M,d1,Nat.reduceAdd,d2,lose,V.forget,V.drop1,V.ref0,e_sh,sh7,q1t]
        trace_state
      · simp(disch:=first|decide|omega|(simp only[LN];first|done|omega)) only[SV,SW,Nat.reduceBEq,q0M,d1,Nat.reduceAdd,d2,lose,V.forget,V.drop1,V.ref0,e_sh,sh7,q1t]
theorem j1r(K:Cx)(a c:Bool)(l:Bs)(n:Nat)(hl:l.length≤999999999000)(hn:n≤18446744073709551615) :
    q0B K f68 [.bsl 0 0 l.length,.d a (.int .u64 n)] [.dat c 1 (l.map eU)]=some (.bsl 0 0 (l++leb n).length,[.dat c 1 ((l++leb n).map eU)],[0]):=by
  obtain⟨m,a',l',mv',h1,h2,h3,h4,h5⟩:=z5M K c 9 n a l [] (Nat.lt_of_le_of_lt hn (by decide)) hn (by omega) (.inl rfl)
  rw[h4]
  have d1:=w8m h2
  have d2:=fUN (n:=m) (by omega) l'
  clear h4
  rcases h1 with rfl|rfl
  · simp(disch:=first|decide|omega|(simp only[LN];first|done|omega)) only[SV,SW,f68,Nat.reduceAdd,Nat.reduceBEq,q1t,h5,q0M,d1,d2,lose,V.forget,V.drop1,V.ref0,q0b,hNew,V.newR,q0c,q5e]
  · simp(disch:=first|decide|omega|(simp only[LN];first|done|omega)) only[SV,SW,f68,Nat.reduceAdd,Nat.reduceBEq,q1t,h5,q0M,d1,d2,lose,V.forget,V.drop1,V.ref0,q0b,hNew,V.newR,q0c,q5e]
def q2x(a:Int):Nat:=if a<0 then((-(a+1))*2+1).toNat else(a*2).toNat
theorem q7o(x:Int):IntKind.u64.wrap x=x % 18446744073709551616:=by simp [IntKind.wrap,IntKind.signed,IntKind.bits]
theorem z6U(K:Cx)(c:Bool)(a:Int)(h0 : -9223372036854775808≤a)(h1:a≤9223372036854775807):q0B K f66 [.d c (.int .i64 a)] []=some (.d false (.int .u64 (q2x a)),[],[]):=by
  by_cases h:a<0
  · have e:((q2x a:Nat):Int)=-(a+1)*2+1:=by unfold q2x;rw[if_pos h];omega
    have w:IntKind.u64.wrap (IntKind.u64.wrap (IntKind.u64.wrap (0 - (a+1))*2)+1)=((q2x a:Nat):Int):=by rw[e,q7o,q7o,q7o];omega
    simp(disch:=first|decide|omega|(simp only[LN];first|done|omega)) only[SV,SW,f66,Nat.reduceBEq,evUn,q0M,w,q0b]
  · have e:((q2x a:Nat):Int)=a*2:=by unfold q2x;rw[if_neg h];omega
    have w:IntKind.u64.wrap (IntKind.u64.wrap a*2)=((q2x a:Nat):Int):=by rw[e,q7o,q7o];omega
    simp(disch:=first|decide|omega|(simp only[LN];first|done|omega)) only[SV,SW,f66,Nat.reduceBEq,q0M,w,q0b]
theorem z6Y(K:Cx)(c:Bool)(a:Int)(h0 : -9223372036854775808≤a)(h1:a≤9223372036854775807):q0B K f100 [.d c (.int .i64 a)] []=some (.d false (.int .u64 (q2x a)),[],[]):=by
  by_cases h:a<0
  · have e:((q2x a:Nat):Int)=-(a+1)*2+1:=by unfold q2x;rw[if_pos h];omega
    have w:IntKind.u64.wrap (IntKind.u64.wrap (2*IntKind.u64.wrap (0 - (a+1)))+1)=((q2x a:Nat):Int):=by rw[e,q7o,q7o,q7o];omega
    simp(disch:=first|decide|omega|(simp only[LN];first|done|omega)) only[SV,SW,f100,Nat.reduceBEq,evUn,q0M,w,q0b]
  · have e:((q2x a:Nat):Int)=a*2:=by unfold q2x;rw[if_neg h];omega
    have w:IntKind.u64.wrap (2*IntKind.u64.wrap a)=((q2x a:Nat):Int):=by rw[e,q7o,q7o];omega
    simp(disch:=first|decide|omega|(simp only[LN];first|done|omega)) only[SV,SW,f100,Nat.reduceBEq,q0M,w,q0b]
theorem q5U{a:Int}(h0 : -9223372036854775808≤a)(h1:a≤9223372036854775807):q2x a≤18446744073709551615:=by
  unfold q2x
  split <;> omega
end Go.Vm
end

section
namespace Go.Vm
set_option maxRecDepth 20000
open Go.Proofs
/- 'sloth/slothref17.Sum' -/
def f67_L0:C:= (.seq (.seq (.reg [⟨[],[(20,(.bin .lss (.sl 5) (.int .i64 8)))],[],none,[0,3,4,5],2,[],[],[]⟩]) (.cond (.sl 20) .skip (.seq (.tidy 0 [0,3,4]) (.exit 2)))) (.seq (.block 3 (.seq (.reg [⟨[],[(25,(.bin .eql (.bin .and (.sl 3) (.int .u32 1)) (.int .u32 1)))],[],none,[0,3,4,5],3,[],[],[]⟩]) (.cond (.sl 25) (.reg [⟨[],[(3,(.bin .xor (.sh false (.sl 3) (.int .u64 1)) (.int .u32 3988292384)))],[],none,[0,4,5],4,[],[],[]⟩]) (.reg [⟨[],[(3,(.sh false (.sl 3) (.int .u64 1)))],[],none,[0,4,5],3,[],[],[]⟩])))) (.reg [⟨[],[(5,(.bin .add (.sl 5) (.int .i64 1)))],[],none,[0,3,4],3,[],[],[]⟩])))
def f67_L1:C:= (.seq (.seq (.reg [⟨[],[(9,(.bin .lss (.sl 4) (.len false (.sl 0))))],[],none,[0,3,4],4,[],[],[]⟩]) (.cond (.sl 9) .skip (.seq (.tidy 0 [3]) (.exit 0)))) (.seq (.block 1 (.seq (.reg [⟨[],[(3,(.bin .xor (.sl 3) (.conv .u32 (.ld 1 false (.ia 1 (.sl 0) (.sl 4))))))],[],none,[0,4],8,[],[],[]⟩]) (.seq (.reg [⟨[],[(5,(.int .i64 0))],[],none,[0,3,4],1,[],[],[]⟩]) (.block 2 (.seq (.tidy 0 [0,3,4,5]) (.loop (.seq (.tidy 0 [0,3,4,5]) f67_L0))))))) (.reg [⟨[],[(4,(.bin .add (.sl 4) (.int .i64 1)))],[],none,[0,3],3,[],[],[]⟩])))
def f67:Fun:=⟨ (.seq (.reg [⟨[],[],[(.int .u32 0)],none,[0],1,[],[],[]⟩]) (.seq (.reg [⟨[],[(3,(.int .u32 4294967295))],[],none,[0],1,[],[],[]⟩]) (.seq (.seq (.reg [⟨[],[(4,(.int .i64 0))],[],none,[0,3],1,[],[],[]⟩]) (.block 0 (.seq (.tidy 0 [0,3,4]) (.loop (.seq (.tidy 0 [0,3,4]) f67_L1))))) (.seq (.reg [⟨[],[(2,(.un .xor (.sl 3)))],[],none,[],3,[],[],[]⟩]) (.seq (.tidy 0 [2]) .ret))))), [(.sl 2)],false⟩
theorem j27:q09 Go.Proofs.Tryz.prog 67 0 1 f67=true:=by kernel_rfl
def bitR(r:Int):Int:=if bits .and .u32 r 1==1 then bits .xor .u32 (r / 2) 3988292384 else r / 2
def q8E:Nat→Int→Int
  |0,r=>r
  |k+1,r=>q8E k (bitR r)
def q9P(r:Int)(x:UInt8):Int:=q8E 8 (bits .xor .u32 r (IntKind.u32.wrap (x.toNat:Int)))
def sumS(l:Bs):Int:=bits .xor .u32 (if IntKind.u32.signed then -1 else IntKind.u32.max) (l.foldl q9P 4294967295)
theorem sh1(c c':Bool){k':IntKind}(r:Int):evSh false (.d c (.int .u32 r)) (.d c' (.int k' 1))=some (.int .u32 (r / 2)):=rfl
theorem j0w(K:Cx)(l:Bs)(n:Nat)(a1 a2:Bool):∀(k i:Nat)(r:Int),i+k=8→
    lp K 0 [0,3,4,5] f67_L0 ⟨[(0,.d a1 (.sl 1 (l.map eU))),(3,.d false (.int .u32 r)),(4,.d a2 (.int .i64 n)),(5,.d false (.int .i64 i))],[],0,[]⟩ =
      some (.exit 2,⟨[(0,.d a1 (.sl 1 (l.map eU))),(3,.d false (.int .u32 (q8E k r))),(4,.d a2 (.int .i64 n))],[],0,[]⟩):=by
  intro k
  induction k with
  |zero=>
    intro i r hi
    obtain rfl:i=8:=by omega
    rw[q0K f67_L0.eq_1]
    simp(disch:=first|decide|omega|(simp only[LN];first|done|omega)) only[SV,SW,Nat.reduceBEq,q8E]
  |succ k ih=>
    intro i r hi
    have ih:=ih (i+1) (bitR r) (by omega)
    have hi8:i<8:=by omega
    rw[q8E,←ih]
    clear ih hi
    rw[q0K f67_L0.eq_1]
    unfold bitR
    cases hb:bits .and .u32 r 1==1
    · simp(disch:=first|decide|omega|(simp only[LN];first|done|omega)) only[SV,SW,Nat.reduceBEq,hb,e_sh,sh1]
      rfl
    · simp(disch:=first|decide|omega|(simp only[LN];first|done|omega)) only[SV,SW,Nat.reduceBEq,hb,e_sh,sh1]
      rfl
theorem j0v(K:Cx)(l:Bs)(a1:Bool)(hl:l.length≤9000000000000000000):∀(k i:Nat)(r:Int),i+k=l.length→
    lp K 0 [0,3,4] f67_L1 ⟨[(0,.d a1 (.sl 1 (l.map eU))),(3,.d false (.int .u32 r)),(4,.d false (.int .i64 i))],[],0,[]⟩ =
      some (.exit 0,⟨[(3,.d false (.int .u32 ((l.drop i).foldl q9P r)))],[],0,[]⟩):=by
  intro k
  induction k with
  |zero=>
    intro i r hi
    obtain rfl:i=l.length:=by omega
    rw[q0K f67_L1.eq_1,List.drop_length]
    simp(disch:=first|decide|omega|(simp only[LN];first|done|omega)) only[SV,SW,Nat.reduceBEq,List.foldl_nil]
  |succ k ih=>
    intro i r hi
    have hd:l.drop i=nth l i :: l.drop (i+1):=q0O (by omega)
    generalize hx:nth l (i:Int)=x at *
    have ih:=ih (i+1) (q9P r x) (by omega)
    have e0:=j0w K l i a1 false 8 0 (bits .xor .u32 r (IntKind.u32.wrap (x.toNat:Int))) (by omega)
    rw[show q8E 8 (bits .xor .u32 r (IntKind.u32.wrap (x.toNat:Int)))=q9P r x from rfl] at e0
    rw[hd,List.foldl_cons,←ih]
    clear ih hd
    rw[q0K f67_L1.eq_1]
    simp only[Int.natCast_zero] at e0
    simp(disch:=first|decide|omega|(simp only[LN];first|done|omega)) only[SV,SW,Nat.reduceBEq,hx,z9o,q0M,e0]
    rfl
theorem j1o(K:Cx)(l:Bs)(a1:Bool)(hl:l.length≤9000000000000000000):q0B K f67 [.d a1 (.sl 1 (l.map eU))] []=some (.d false (.int .u32 (sumS l)),[],[]):=by
  have e0:=j0v K l a1 hl l.length 0 4294967295 (by omega)
  simp only[List.drop_zero,Int.natCast_zero] at e0
  unfold sumS
  generalize l.foldl q9P 4294967295=q at *
  simp(disch:=first|decide|omega|(simp only[LN];first|done|omega)) only[SV,SW,f67,Nat.reduceBEq,e0,evUn,Int.reduceNeg,q0b]
theorem j0y(K:Cx)(l:Bs)(n m:Int)(a1 a2 a3:Bool):∀(k i:Nat)(r:Int),i+k=8→
    lp K 0 [3,7,8,9,17] f72_L0 ⟨[(3,.d false (.int .u32 r)),(7,.d a1 (.sl 1 (l.map eU))),(8,.d a2 (.int .i64 n)),(9,.d a3 (.int .i64 m)),(17,.d false (.int .i64 i))],[],0,[]⟩ =
      some (.exit 2,⟨[(3,.d false (.int .u32 (q8E k r))),(7,.d a1 (.sl 1 (l.map eU))),(8,.d a2 (.int .i64 n)),(9,.d a3 (.int .i64 m))],[],0,[]⟩):=by
  intro k
  induction k with
  |zero=>
    intro i r hi
    obtain rfl:i=8:=by omega
    rw[q0K f72_L0.eq_1]
    simp(disch:=first|decide|omega|(simp only[LN];first|done|omega)) only[SV,SW,Nat.reduceBEq,q8E]
  |succ k ih=>
    intro i r hi
    have ih:=ih (i+1) (bitR r) (by omega)
    have hi8:i<8:=by omega
    rw[q8E,←ih]
    clear ih hi
    rw[q0K f72_L0.eq_1]
    unfold bitR
    cases hb:bits .and .u32 r 1==1
    · simp(disch:=first|decide|omega|(simp only[LN];first|done|omega)) only[SV,SW,Nat.reduceBEq,e_sh,sh1,hb]
      rfl
    · simp(disch:=first|decide|omega|(simp only[LN];first|done|omega)) only[SV,SW,Nat.reduceBEq,e_sh,sh1,hb]
      rfl
theorem j0x(K:Cx)(l:Bs)(a1 a2:Bool)(hl:l.length≤9000000000000000000):∀(k i:Nat)(r:Int),i+k=l.length→
    lp K 0 [3,7,8,9] f72_L1 ⟨[(3,.d false (.int .u32 r)),(7,.d a1 (.sl 1 (l.map eU))),(8,.d a2 (.int .i64 l.length)),(9,.d false (.int .i64 i))],[],0,[]⟩ =
      some (.exit 0,⟨[(3,.d false (.int .u32 ((l.drop i).foldl q9P r)))],[],0,[]⟩):=by
  intro k
  induction k with
  |zero=>
    intro i r hi
    obtain rfl:i=l.length:=by omega
    rw[q0K f72_L1.eq_1,List.drop_length]
    simp(disch:=first|decide|omega|(simp only[LN];first|done|omega)) only[SV,SW,Nat.reduceBEq,List.foldl_nil]
  |succ k ih=>
    intro i r hi
    have hd:l.drop i=nth l i :: l.drop (i+1):=q0O (by omega)
    generalize hx:nth l (i:Int)=x at *
    have ih:=ih (i+1) (q9P r x) (by omega)
    have e0:=j0y K l l.length i a1 a2 false 8 0 (bits .xor .u32 r (IntKind.u32.wrap (x.toNat:Int))) (by omega)
    rw[show q8E 8 (bits .xor .u32 r (IntKind.u32.wrap (x.toNat:Int)))=q9P r x from rfl] at e0
    rw[hd,List.foldl_cons,←ih]
    clear ih hd
    rw[q0K f72_L1.eq_1]
    simp only[Int.natCast_zero] at e0
    simp(disch:=first|decide|omega|(simp only[LN];first|done|omega)) only[SV,SW,Nat.reduceBEq,hx,z9o,q0M,e0]
    rfl
theorem j1p(K:Cx)(l:Bs)(a1:Bool)(hl:l.length≤9000000000000000000):q0B K f72 [.d a1 (.sl 1 (l.map eU))] []=some (.d false (.int .u32 (sumS l)),[],[]):=by
  have e0:=fun a2=>j0x K l a1 a2 hl l.length 0 4294967295 (by omega)
  simp only[List.drop_zero,Int.natCast_zero] at e0
  unfold sumS
  generalize l.foldl q9P 4294967295=q at *
  simp(disch:=first|decide|omega|(simp only[LN];first|done|omega)) only[SV,SW,f72,Nat.reduceBEq,e0,evUn,Int.reduceNeg,q0b]
def q4K(s:Int):Bs:=[UInt8.ofNat (s % 256).toNat,UInt8.ofNat (s / 256 % 256).toNat,UInt8.ofNat (s / 65536 % 256).toNat,UInt8.ofNat (s / 16777216 % 256).toNat]
theorem z90(x:Int):eU (UInt8.ofNat (x % 256).toNat)=[.int .u8 (IntKind.u8.wrap x)]:=by
  rw[z9Z (by omega),z3z]
  congr 2;omega
theorem sh8(c c':Bool){k':IntKind}(r:Int):evSh false (.d c (.int .u32 r)) (.d c' (.int k' 8))=some (.int .u32 (r / 256)):=rfl
theorem sh16(c c':Bool){k':IntKind}(r:Int):evSh false (.d c (.int .u32 r)) (.d c' (.int k' 16))=some (.int .u32 (r / 65536)):=rfl
theorem sh24(c c':Bool){k':IntKind}(r:Int):evSh false (.d c (.int .u32 r)) (.d c' (.int k' 24))=some (.int .u32 (r / 16777216)):=rfl
theorem z0M(s:Int):(q4K s).map eU=[[.int .u8 (IntKind.u8.wrap s)],[.int .u8 (IntKind.u8.wrap (s / 256))],[.int .u8 (IntKind.u8.wrap (s / 65536))],[.int .u8 (IntKind.u8.wrap (s / 16777216))]]:=by
  simp only[q4K,List.map_cons,List.map_nil,z90]
theorem j1u(K:Cx)(c:Bool)(s:Int):q0B K f71 [.d c (.int .u32 s)] []=some (.d true (.sl 1 ((q4K s).map eU)),[],[]):=by
  rw[z0M]
  simp(disch:=first|decide|omega|(simp only[LN];first|done|omega)) only[SV,SW,f71,q0M,e_sh,sh8,sh16,sh24,Nat.reduceAdd,Nat.reduceBEq,q0b,hNew,V.forget,V.drop1,V.ref0,V.newR,q0c]
end Go.Vm
end

section
namespace Go.Vm
set_option maxHeartbeats 8000000 in
theorem z9c(K:Cx)(op:Int):q0B K f79 [.d false (.int .i64 op)] []=some (z5v (q2D op) (decide (1≤op∧op<18)),[],[]):=by
 unfold q2D
 by_cases h:1≤op∧op<18
 ·rw[if_pos h]
  have hd:decide (1≤op∧op<18)=true:=by simpa using h
  rw[hd]
  obtain⟨h1,h2⟩:=h
  have:op=1∨op=2∨op=3∨op=4∨op=5∨op=6∨op=7∨op=8∨op=9∨op=10∨op=11∨op=12∨op=13∨op=14∨op=15∨op=16∨op=17:=by omega
  simp(disch:=first|decide|omega|(simp only[LN];first|done|omega)) only[SV,SW,f79,Nat.reduceAdd,Nat.reduceBEq,lose,e_aa,evAa]
  clear hd h1 h2
  rcases this with rfl|rfl|rfl|rfl|rfl|rfl|rfl|rfl|rfl|rfl|rfl|rfl|rfl|rfl|rfl|rfl|rfl
  all_goals(simp(disch:=first|decide|omega|(simp only[LN];first|done|omega)) only[SV,SW,Int.reduceToNat,Nat.reduceMul,Nat.reduceSub,Nat.min_def,lose,Nat.reduceBEq,Nat.reduceAdd,q0b];rfl)
 ·rw[if_neg h]
  have hd:decide (1≤op∧op<18)=false:=by simpa using h
  rw[hd]
  clear hd
  by_cases h1:op<1
  ·simp(disch:=first|decide|omega|(simp only[LN];first|done|omega)) only[SV,SW,f79,Nat.reduceAdd,Nat.reduceBEq,lose,q0b]
   rfl
  ·simp(disch:=first|decide|omega|(simp only[LN];first|done|omega)) only[SV,SW,f79,Nat.reduceAdd,Nat.reduceBEq,lose,q0b]
   rfl
end Go.Vm
end

section
namespace Go.Vm
set_option maxRecDepth 20000
open Go.Proofs
/- 'sloth/slothlaw17.lent' -/
def f12_L0:C:= (.seq (.seq (.reg [⟨[],[(18,(.bin .lss (.sl 4) (.len false (.sl 3))))],[],none,[1,2,3,4],4,[],[],[]⟩]) (.cond (.sl 18) .skip (.seq (.keep [1,2,3]) (.exit 0)))) (.seq (.block 1 (.seq (.reg [⟨[],[],[],some (none,.store 2 (.ia 2 (.sl 3) (.sl 4)) (.set 0 1 (.str [98,101,104,105,110,100]) (.agg (.cons (.str []) (.cons (.int .i64 0) .nil))))),[1,2,3,4],5,[],[],[]⟩]) (.seq (.reg [⟨[],[(29,(.bin .lss (.sl 4) (.len false (.ld 1 false (.fa 0 (.sl 1))))))],[],none,[1,2,3,4],5,[],[],[]⟩]) (.cond (.sl 29) (.reg [⟨[],[],[],some (none,.store 2 (.ia 2 (.sl 3) (.sl 4)) (.ld 2 true (.ia 2 (.ld 1 false (.fa 0 (.sl 1))) (.sl 4)))),[1,2,3,4],9,[],[],[]⟩]) .skip)))) (.reg [⟨[],[(4,(.bin .add (.sl 4) (.int .i64 1)))],[],none,[1,2,3],3,[],[],[]⟩])))
def f12_L1:C:= (.seq (.seq (.reg [⟨[],[(71,(.bin .lss (.sl 9) (.len false (.sl 8))))],[],none,[1,2,3,5,6,7,8,9],4,[],[],[]⟩]) (.cond (.sl 71) .skip (.seq (.keep [1,2,3,5,6,7,8]) (.exit 4)))) (.seq (.block 5 (.seq (.reg [⟨[],[],[],some (none,.store 3 (.ia 3 (.sl 8) (.sl 9)) (.set 0 1 (.int .i64 (-77)) (.agg (.cons (.int .i64 0) (.cons (.int .i64 0) (.cons (.int .i64 0) .nil)))))),[1,2,3,5,6,7,8,9],5,[],[],[]⟩]) (.seq (.reg [⟨[],[(80,(.bin .lss (.sl 9) (.sl 7)))],[],none,[1,2,3,5,6,7,8,9],3,[],[],[]⟩]) (.cond (.sl 80) (.reg [⟨[],[],[],some (none,.store 3 (.ia 3 (.sl 8) (.sl 9)) (.ld 3 true (.ia 3 (.ld 1 false (.fa 2 (.ia 3 (.ld 1 false (.fa 1 (.sl 1))) (.sl 6)))) (.sl 9)))),[1,2,3,5,6,7,8,9],13,[],[],[]⟩]) .skip)))) (.reg [⟨[],[(9,(.bin .add (.sl 9) (.int .i64 1)))],[],none,[1,2,3,5,6,7,8],3,[],[],[]⟩])))
def f12_T0:C:= (.seq (.reg [⟨[(67,.mks 3 (.cons (.int .i64 0) (.cons (.int .i64 0) (.cons (.int .i64 0) .nil))) (.bin .add (.sl 7) (.int .i64 2)) (.bin .add (.sl 7) (.int .i64 2)))],[(8,(.sl 67))],[],none,[1,2,3,5,6,7],4,[],[],[]⟩]) (.seq (.seq (.reg [⟨[],[(9,(.int .i64 0))],[],none,[1,2,3,5,6,7,8],1,[],[],[]⟩]) (.block 4 (.seq (.keep [1,2,3,5,6,7,8,9]) (.loop (.seq (.keep [1,2,3,5,6,7,8,9]) f12_L1))))) (.reg [⟨[],[],[],some (none,.store 3 (.ia 3 (.sl 5) (.sl 6)) (.set 2 1 (.cut false false true false 3 (.sl 8) .nil (.sl 7) .nil) (.set 1 1 (.ld 1 false (.fa 1 (.ia 3 (.ld 1 false (.fa 1 (.sl 1))) (.sl 6)))) (.set 0 1 (.ld 1 false (.fa 0 (.ia 3 (.ld 1 false (.fa 1 (.sl 1))) (.sl 6)))) (.agg (.cons (.str []) (.cons (.int .i64 0) (.cons (.nilsl 3) .nil)))))))),[1,2,3,5,6],20,[[],[],[],[2],[],[4,2,3],[3,2,4,5],[5,4,2,3,6],[],[8],[],[10,8,9],[9,8,10,11],[11,10,8,9,12],[],[],[15,14],[14,15,16,12,9,8,10,11,13,6,3,2,4,5,7],[17,16,15,14,13,12,11,10,9,8,7,6,5,4,3,2,1,0],[0,1,2,3,4,5,6,7,8,9,10,11,12,13,14,15,16,17,18]],[],[]⟩])))
def f12_L2:C:= (.seq (.seq (.reg [⟨[],[(46,(.bin .lss (.sl 6) (.len false (.sl 5))))],[],none,[1,2,3,5,6],4,[],[],[]⟩]) (.cond (.sl 46) .skip (.seq (.keep [1,2,3,5]) (.exit 2)))) (.seq (.block 3 (.seq (.reg [⟨[],[],[],some (none,.store 3 (.ia 3 (.sl 5) (.sl 6)) (.set 0 1 (.str [98,101,104,105,110,100]) (.agg (.cons (.str []) (.cons (.int .i64 0) (.cons (.nilsl 3) .nil)))))),[1,2,3,5,6],5,[],[],[]⟩]) (.seq (.reg [⟨[],[(57,(.bin .lss (.sl 6) (.len false (.ld 1 false (.fa 1 (.sl 1))))))],[],none,[1,2,3,5,6],5,[],[],[]⟩]) (.cond (.sl 57) (.seq (.reg [⟨[],[(7,(.len false (.ld 1 false (.fa 2 (.ia 3 (.ld 1 false (.fa 1 (.sl 1))) (.sl 6))))))],[],none,[1,2,3,5,6],8,[],[],[]⟩]) (.seq (.keep [1,2,3,5,6,7,1000000000]) f12_T0)) .skip)))) (.reg [⟨[],[(6,(.bin .add (.sl 6) (.int .i64 1)))],[],none,[1,2,3,5],3,[],[],[]⟩])))
def z9T:C:= (.seq (.reg [⟨[(42,.mks 3 (.cons (.str []) (.cons (.int .i64 0) (.cons (.nilsl 3) .nil))) (.bin .add (.len false (.ld 1 false (.fa 1 (.sl 1)))) (.int .i64 2)) (.bin .add (.len false (.ld 1 false (.fa 1 (.sl 1)))) (.int .i64 2)))],[(5,(.sl 42))],[],none,[1,2,3],6,[],[],[]⟩]) (.seq (.seq (.reg [⟨[],[(6,(.int .i64 0))],[],none,[1,2,3,5],1,[],[],[]⟩]) (.block 2 (.seq (.keep [1,2,3,5,6]) (.loop (.seq (.keep [1,2,3,5,6]) f12_L2))))) (.seq (.reg [⟨[],[],[],some (none,.store 2 (.sl 2) (.set 1 1 (.cut false false true false 3 (.sl 5) .nil (.len false (.ld 1 false (.fa 1 (.sl 1)))) .nil) (.set 0 1 (.cut false false true false 2 (.sl 3) .nil (.len false (.ld 1 false (.fa 0 (.sl 1)))) .nil) (.agg (.cons (.nilsl 2) (.cons (.nilsl 3) .nil)))))),[2],12,[[],[],[1],[1,2],[2,1,3,0],[],[],[6],[6,7],[7,6,8,5],[5,8,6,7,9,0,3,1,2,4],[4,2,1,3,0,9,7,6,8,5,10]],[],[]⟩]) (.seq (.keep [2]) .ret))))
def z9S:C:= (.seq (.reg [⟨[(14,.mks 2 (.cons (.str []) (.cons (.int .i64 0) .nil)) (.bin .add (.len false (.ld 1 false (.fa 0 (.sl 1)))) (.int .i64 2)) (.bin .add (.len false (.ld 1 false (.fa 0 (.sl 1)))) (.int .i64 2)))],[(3,(.sl 14))],[],none,[1,2],6,[],[],[]⟩]) (.seq (.seq (.reg [⟨[],[(4,(.int .i64 0))],[],none,[1,2,3],1,[],[],[]⟩]) (.block 0 (.seq (.keep [1,2,3,4]) (.loop (.seq (.keep [1,2,3,4]) f12_L0))))) (.seq (.keep [1,2,3,1000000000]) z9T)))
def f12:Fun:=⟨ (.seq (.reg [⟨[(1,.box (.sl 0)),(2,.box (.agg (.cons (.nilsl 2) (.cons (.nilsl 3) .nil))))],[],[],none,[1,2],2,[],[],[]⟩]) (.seq (.keep [1,2,1000000000]) z9S)), [(.ld 2 true (.sl 2))],true⟩
theorem j3F:q09 Go.Proofs.Tryz.prog 12 0 1 f12=true:=by kernel_rfl
def behN:List UInt8:=[98,101,104,105,110,100]
def behS:Shape:=⟨behN,0⟩
def mkI:Instr:=⟨-77,0,0⟩
structure Sm(t:Table):Prop where
  sh:t.shapes.length≤1048576
  gl:t.globals.length≤1048576
  cd:∀ g∈t.globals,g.code.length≤1048576
def tabV(t:Table):List V:=[.d false (.sl 2 (t.shapes.map q0g)),.d false (.sl 3 (t.globals.map q0G))]
def finS(t:Table):List Shape:=t.shapes++[behS,behS]
def finI(l:List Instr):List Instr:=l++[mkI,mkI]
theorem z6O(l:List Shape) (i n f):(l.map q0g).set i [D.str n,.int .i64 f]=(l.set i ⟨n,f⟩).map q0g:=by rw[List.map_set];rfl
theorem j1a(k n f):List.replicate k [D.str n,.int .i64 f]=(List.replicate k (Shape.mk n f)).map q0g:=by rw[List.map_replicate];rfl
theorem j1c(k a b c):List.replicate k [D.int .i64 a,.int .i64 b,.int .i64 c]=(List.replicate k (Instr.mk a b c)).map q0C:=by rw[List.map_replicate];rfl
theorem q9d{α:Type}(l:List α)(i:Nat)(h:i<l.length)(x:α):(l.set i x).take (i+1)=l.take i++[x]:=by
  rw[List.take_add_one,List.getElem?_set_self h,List.take_set_of_le (by omega)];rfl
theorem q27{α:Type}{l f:List α}{i:Nat}(hl:l.length=f.length)(h:l.take i=f.take i)(hi:i<f.length){x:α}(hx:f[i]? = some x):(l.set i x).take (i+1)=f.take (i+1):=by
  rw[q9d l i (by omega),h,List.take_add_one,hx];rfl
theorem j01(K:Cx)(t:Table)(ht:Sm t)(nx:Nat)(mv:List Nat):∀(k i:Nat)(H:List (Nat×Blk))(rows:List Shape),i+k=t.shapes.length+2→look H 0=some (.mix 2 [tabV t])→look H 2=some (.dat true 2 (rows.map q0g))→
    rows.length=t.shapes.length+2→rows.take i=(finS t).take i→
    ∃ H',lpk K [1,2,3,4] f12_L0 ⟨[(1,.ptr 0 0 0),(2,.ptr 1 0 0),(3,.bsx 2 0 (t.shapes.length+2)),(4,.d false (.int .i64 i))],H,nx,mv⟩=some (.exit 0,⟨[(1,.ptr 0 0 0),(2,.ptr 1 0 0),(3,.bsx 2 0 (t.shapes.length+2))],H',nx,mv⟩)∧
      look H' 2=some (.dat true 2 ((finS t).map q0g))∧∀ b,b≠2→look H' b=look H b:=by
  have hs:=ht.sh
  have lf:(finS t).length=t.shapes.length+2:=by simp [finS]
  intro k
  induction k with
  |zero=>
    intro i H rows hi h0 h2 hl htk
    obtain rfl:i=t.shapes.length+2:=by omega
    have e:rows=finS t:=by rw[List.take_of_length_le (by omega),List.take_of_length_le (by omega)] at htk;exact htk
    subst e
    refine⟨H,?_,h2,fun _ _=>rfl⟩
    rw[q1B f12_L0.eq_1]
    simp only[Int.natCast_add]
    simp(disch:=first|decide|omega|(simp only[LN];first|done|omega)) only[SV,SW,Nat.reduceBEq,q0l,q0t,Nat.reduceEqDiff,q1H]
  |succ k ih=>
    intro i H rows hi h0 h2 hl htk
    by_cases hi2:i<t.shapes.length
    · have hx:(finS t)[i]? = some (nth t.shapes i):=by
        unfold finS
        rw[List.getElem?_append_left hi2,q2g,List.getD_eq_getElem?_getD,List.getElem?_eq_getElem hi2];rfl
      obtain⟨H',e1,e2,e3⟩:=ih (i+1) (put (put H 2 (.dat true 2 ((rows.set i behS).map q0g))) 2 (.dat true 2 ((rows.set i (nth t.shapes i)).map q0g))) (rows.set i (nth t.shapes i)) (by omega)
        (by rw[q0e _ _ (by omega),q0e _ _ (by omega)];exact h0) (q0Q _ _ _) (by simpa using hl) (q27 (by omega) htk (by omega) hx)
      refine⟨H',?_,e2,fun b hb=>by rw[e3 b hb,q0e _ _ (Ne.symm hb),q0e _ _ (Ne.symm hb)]⟩
      rw[←e1]
      rw[q1B f12_L0.eq_1]
      simp only[tabV] at h0
      simp only[behS,behN]
      simp(disch:=first|decide|omega|(simp only[LN];first|done|omega)) only[SV,SW,Nat.reduceBEq,h2,Nat.reduceAdd,q0n,z6O,lose,q0e,h0,q0Q,j1b,List.set_set,q12,q0t,Nat.reduceEqDiff]
      rfl
    · have hx:(finS t)[i]? = some behS:=by
        unfold finS
        rw[List.getElem?_append_right (by omega)]
        rcases Nat.lt_or_ge (i - t.shapes.length) 1 with h|h
        · rw[show i - t.shapes.length=0 by omega];rfl
        · rw[show i - t.shapes.length=1 by omega];rfl
      obtain⟨H',e1,e2,e3⟩:=ih (i+1) (put H 2 (.dat true 2 ((rows.set i behS).map q0g))) (rows.set i behS) (by omega)
        (by rw[q0e _ _ (by omega)];exact h0) (q0Q _ _ _) (by simpa using hl) (q27 (by omega) htk (by omega) hx)
      refine⟨H',?_,e2,fun b hb=>by rw[e3 b hb,q0e _ _ (Ne.symm hb)]⟩
      rw[←e1]
      rw[q1B f12_L0.eq_1]
      simp only[tabV] at h0
      simp only[behS,behN]
      simp(disch:=first|decide|omega|(simp only[LN];first|done|omega)) only[SV,SW,Nat.reduceBEq,h2,Nat.reduceAdd,q0n,z6O,lose,q0e,h0,q12,q0t,Nat.reduceEqDiff]
      rfl
def stL(s n b m:Nat)(i:Nat):List (Nat×V):=[(1,.ptr 0 0 0),(2,.ptr 1 0 0),(3,.bsx 2 0 (s+2)),(5,.bsx 3 0 (n+2)),(6,.d false (.int .i64 i)),(7,.d false (.int .i64 m)),(8,.bsx b 0 (m+2))]
theorem j00(K:Cx)(t:Table)(ht:Sm t)(nx:Nat)(mv:List Nat)(gi b:Nat)(g:Glob)(hgi:gi<t.globals.length)(hg:nth t.globals gi=g)(hb:3<b):∀(k i:Nat)(H:List (Nat×Blk))(rows:List Instr),i+k=g.code.length+2→look H 0=some (.mix 2 [tabV t])→look H b=some (.dat true 3 (rows.map q0C))→
    rows.length=g.code.length+2→rows.take i=(finI g.code).take i→
    ∃ H',lpk K [1,2,3,5,6,7,8,9] f12_L1 ⟨stL t.shapes.length t.globals.length b g.code.length gi++[(9,.d false (.int .i64 i))],H,nx,mv⟩=some (.exit 4,⟨stL t.shapes.length t.globals.length b g.code.length gi,H',nx,mv⟩)∧
      look H' b=some (.dat true 3 ((finI g.code).map q0C))∧∀ c,c≠b→look H' c=look H c:=by
  have hs:=ht.sh
  have hgl:=ht.gl
  have hm:g∈t.globals:=by rw[←hg,q2g,List.getD_eq_getElem?_getD,List.getElem?_eq_getElem hgi];exact List.getElem_mem hgi
  have hcd:=ht.cd g hm
  have lf:(finI g.code).length=g.code.length+2:=by simp [finI]
  have hb0:(b=0)=False:=by simp;omega
  intro k
  induction k with
  |zero=>
    intro i H rows hi h0 h2 hl htk
    obtain rfl:i=g.code.length+2:=by omega
    have e:rows=finI g.code:=by rw[List.take_of_length_le (by omega),List.take_of_length_le (by omega)] at htk;exact htk
    subst e
    refine⟨H,?_,h2,fun _ _=>rfl⟩
    rw[q1B f12_L1.eq_1]
    simp only[Int.natCast_add,stL]
    simp(disch:=first|decide|omega|(simp only[LN];first|done|omega)) only[SV,SW,Int.reduceNeg,Nat.reduceBEq,q0l,q0t,Nat.reduceEqDiff,q1H]
  |succ k ih=>
    intro i H rows hi h0 h2 hl htk
    by_cases hi2:i<g.code.length
    · have hx:(finI g.code)[i]? = some (nth g.code i):=by
        unfold finI
        rw[List.getElem?_append_left hi2,q2g,List.getD_eq_getElem?_getD,List.getElem?_eq_getElem hi2];rfl
      obtain⟨H',e1,e2,e3⟩:=ih (i+1) (put (put H b (.dat true 3 ((rows.set i mkI).map q0C))) b (.dat true 3 ((rows.set i (nth g.code i)).map q0C))) (rows.set i (nth g.code i)) (by omega)
        (by rw[q0e _ _ (by omega),q0e _ _ (by omega)];exact h0) (q0Q _ _ _) (by simpa using hl) (q27 (by omega) htk (by omega) hx)
      refine⟨H',?_,e2,fun c hc=>by rw[e3 c hc,q0e _ _ (Ne.symm hc),q0e _ _ (Ne.symm hc)]⟩
      rw[←e1]
      rw[q1B f12_L1.eq_1]
      simp only[tabV] at h0
      simp only[mkI,stL]
      simp(disch:=first|decide|omega|(simp only[LN];first|done|omega)) only[SV,SW,Int.reduceNeg,Nat.reduceBEq,h2,Nat.reduceAdd,q0h,z1T,lose,q0Q,q0e,h0,hg,q0D,j1d,List.set_set,q12,q0t,Nat.reduceEqDiff]
      rfl
    · have hx:(finI g.code)[i]? = some mkI:=by
        unfold finI
        rw[List.getElem?_append_right (by omega)]
        rcases Nat.lt_or_ge (i - g.code.length) 1 with h|h
        · rw[show i - g.code.length=0 by omega];rfl
        · rw[show i - g.code.length=1 by omega];rfl
      obtain⟨H',e1,e2,e3⟩:=ih (i+1) (put H b (.dat true 3 ((rows.set i mkI).map q0C))) (rows.set i mkI) (by omega)
        (by rw[q0e _ _ (by omega)];exact h0) (q0Q _ _ _) (by simpa using hl) (q27 (by omega) htk (by omega) hx)
      refine⟨H',?_,e2,fun c hc=>by rw[e3 c hc,q0e _ _ (Ne.symm hc)]⟩
      rw[←e1]
      rw[q1B f12_L1.eq_1]
      simp only[tabV] at h0
      simp only[mkI,stL]
      simp(disch:=first|decide|omega|(simp only[LN];first|done|omega)) only[SV,SW,Int.reduceNeg,Nat.reduceBEq,h2,Nat.reduceAdd,q0h,z1T,lose,q12,q0t,Nat.reduceEqDiff]
      rfl
theorem q47(H k b)(len:Nat)(lo mx:V) (c kd)(h:Int)(hw:q3q H b k=true)(h0:0≤h)(h1:h≤len∨h≤q5I H b):z2V H false false true false k (.bsx b 0 len) lo (.d c (.int kd h)) mx=some (.bsx b 0 h.toNat):=by
  have:(0:Int)≤h∧(h≤(len:Int)∨((0:Nat):Int)+h≤q5I H b):=⟨h0,by simpa using h1⟩
  simp [z2V,V.isStr,z0W,q57,hw,h0]
  intro q
  omega
end Go.Vm
end

section
namespace Go.Vm
set_option maxRecDepth 20000
open Go.Proofs
abbrev Gl:=List (Nat×Glob)
def rowG(q:Nat×Glob):List V:=[.d false (.str q.2.name),.d false (.int .i64 q.2.arity),.bsx q.1 0 q.2.code.length]
def behG(z:Bool):List V:=[.d false (.str behN),.d false (.int .i64 0),.fs z 3 []]
def behD:List D:=[.str behN,.int .i64 0,.sl 3 []]
def numG(p:Nat):List Glob→Gl
 |[]=>[]
 |g :: r=>(p,g) :: numG (p+1) r
theorem q2p(gs:List Glob):∀ p,(numG p gs).length=gs.length:=by
 induction gs with
 |nil=>intro p;rfl
 |cons g r ih=>intro p;simp [numG,ih]
theorem q5M:∀(gs:List Glob)(p i:Nat),(numG p gs)[i]? = gs[i]?.map fun g=>(p+i,g)
 |[],p,i=>by simp [numG]
 |g :: r,p,0=>by simp [numG]
 |g :: r,p,i+1=>by
  simp only[numG,List.getElem?_cons_succ]
  rw[q5M r (p+1) i]
  congr 1
  funext x
  rw[show p+1+i=p+(i+1) by omega]
def z0m(t:Table):List (List V):=(numG 4 t.globals).map rowG++[behG true,behG true]
theorem q7A(t:Table):(z0m t).length=t.globals.length+2:=by simp [z0m,q2p]
def GS(t:Table)(i:Nat)(blk:Blk):Prop:=
 (t.globals≠[]∧0<i∧∃ R,blk=.mix 3 R∧R.length=t.globals.length+2∧R.take i=(z0m t).take i∧∀ r∈R,r.length=3)∨
 ((t.globals=[]∨i=0)∧∃ rows,blk=.dat true 3 rows∧rows.length=t.globals.length+2∧rows.take i=[behD,behD].take i∧∀ r∈rows,r.length=3)
def behC:List V:=[.d false (.str behN),.d false (.int .i64 0),.fs true 3 []]
theorem z1q{α:Type}(new row:List α)(h1:new.length=3)(h2:row.length=3):splice 0 new row=new:=by
 simp only[splice,List.take_zero,List.nil_append,Nat.zero_add,h1]
 rw[List.drop_of_length_le (by omega),List.append_nil]
theorem q3I{α:Type}{R:List (List α)}{i:Nat}{row:List α}(h:∀ r∈R,r.length=3)(hr:row.length=3):∀ r∈R.set i row,r.length=3:=by
 intro r hm
 rcases List.mem_or_eq_of_mem_set hm with h1|h1
 ·exact h r h1
 ·rw[h1];exact hr
theorem z1F{R:List (List V)}{i:Nat}{cells:List V}(hi:i<R.length)(h:∀ r∈R,r.length=3)(hc:cells.length=3):(Blk.mix 3 R).set i 0 cells=some (.mix 3 (R.set i cells)):=by
 have h3:=h R[i] (List.getElem_mem hi)
 simp only[Blk.set,List.getElem?_eq_getElem hi]
 rw[if_pos (by omega),z1q _ _ hc h3]
theorem z22{R:List (List D)}{i:Nat}{cells:List V}{ds:List D}(hi:i<R.length)(h:∀ r∈R,r.length=3)(hc:cells.length=3)(hd:mapO asD cells=some ds)(hn:cells.all V.new1=true) :
  (Blk.dat true 3 R).set i 0 cells=some (.dat true 3 (R.set i ds)):=by
 have h3:=h R[i] (List.getElem_mem hi)
 have hl:=(q0u hd).1
 simp only[Blk.set,List.getElem?_eq_getElem hi]
 rw[if_pos (by omega)]
 simp only[hd,hn,Bool.and_self,z1q ds R[i] (by omega) h3]
theorem z9u{R:List (List D)}{i:Nat}{cells:List V}(hi:i<R.length)(h:∀ r∈R,r.length=3)(hc:cells.length=3)(hd:mapO asD cells=none) :
  (Blk.dat true 3 R).set i 0 cells=some (.mix 3 ((R.map (·.map (mkd true))).set i cells)):=by
 have h3:=h R[i] (List.getElem_mem hi)
 simp only[Blk.set,List.getElem?_eq_getElem hi]
 rw[if_pos (by omega)]
 simp only[hd,z1q cells (R[i].map (mkd true)) hc (by simpa using h3)]
theorem j07{t:Table}{i:Nat}{blk:Blk}(h:GS t i blk)(hi:i<t.globals.length):∃ b1 b2,blk.set i 0 behC=some b1∧blk.k=3∧b1.k=3∧b1.set i 0 (rowG (4+i,nth t.globals i))=some b2∧GS t (i+1) b2:=by
 have hne:t.globals≠[]:=by intro e;rw[e] at hi;simp at hi
 have hx:(z0m t)[i]? = some (rowG (4+i,nth t.globals i)):=by
  unfold z0m
  rw[List.getElem?_append_left (by simpa [q2p] using hi),List.getElem?_map,q5M,List.getElem?_eq_getElem hi,q2g,List.getD_eq_getElem?_getD,List.getElem?_eq_getElem hi];rfl
 have lf:=q7A t
 rcases h with⟨_,h0,R,rfl,hl,htk,h3⟩|⟨h0,rows,rfl,hl,htk,h3⟩
 ·refine⟨_,_,z1F (by omega) h3 rfl,rfl,rfl,z1F (by simp;omega) (q3I h3 rfl) rfl,.inl ⟨hne,by omega,_,rfl,by simpa using hl,?_,q3I (q3I h3 rfl) rfl⟩⟩
  rw[List.set_set]
  exact q27 (by omega) htk (by omega) hx
 ·obtain rfl:i=0:=h0.resolve_left hne
  refine⟨_,_,z22 (ds:=behD) (by omega) h3 rfl rfl rfl,rfl,rfl,z9u (by simp;omega) (q3I h3 rfl) rfl rfl,.inl ⟨hne,by omega,_,rfl,by simpa using hl,?_,q3I (fun r hr=>?_) rfl⟩⟩
  ·exact q27 (by simp;omega) (by simp) (by omega) hx
  ·obtain⟨r',hr',rfl⟩:=List.mem_map.1 hr
   simpa using q3I h3 rfl r' hr'
theorem j06{t:Table}{i:Nat}{blk:Blk}(h:GS t i blk)(hi:t.globals.length≤i)(hi2:i<t.globals.length+2):∃ b1,blk.set i 0 behC=some b1∧blk.k=3∧GS t (i+1) b1:=by
 have lf:=q7A t
 rcases h with⟨hne,h0,R,rfl,hl,htk,h3⟩|⟨h0,rows,rfl,hl,htk,h3⟩
 ·have hx:(z0m t)[i]? = some behC:=by
   unfold z0m
   rw[List.getElem?_append_right (by simpa [q2p] using hi),List.length_map,q2p]
   rcases Nat.lt_or_ge (i - t.globals.length) 1 with h|h
   ·rw[show i - t.globals.length=0 by omega];rfl
   ·rw[show i - t.globals.length=1 by omega];rfl
  refine⟨_,z1F (by omega) h3 rfl,rfl,.inl ⟨hne,by omega,_,rfl,by simpa using hl,q27 (by omega) htk (by omega) hx,q3I h3 rfl⟩⟩
 ·have hn:t.globals=[]:=by
   rcases h0 with h|h
   ·exact h
   ·subst h;exact List.length_eq_zero_iff.1 (by omega)
  have hl0:t.globals.length=0:=by rw[hn];rfl
  have hx:[behD,behD][i]? = some behD:=by
   rcases Nat.lt_or_ge i 1 with h|h
   ·rw[show i=0 by omega];rfl
   ·rw[show i=1 by omega];rfl
  refine⟨_,z22 (ds:=behD) (by omega) h3 rfl rfl rfl,rfl,.inr ⟨.inl hn,_,rfl,by simpa using hl,q27 (by simp;omega) htk (by simp;omega) hx,q3I h3 rfl⟩⟩
def gBlk(t:Table):Blk:=if t.globals=[] then .dat true 3 [behD,behD] else .mix 3 (z0m t)
theorem j2J{t:Table}{blk:Blk}(h:GS t (t.globals.length+2) blk):blk=gBlk t:=by
 have lf:=q7A t
 unfold gBlk
 rcases h with⟨hne,h0,R,rfl,hl,htk,h3⟩|⟨h0,rows,rfl,hl,htk,h3⟩
 ·rw[if_neg hne,List.take_of_length_le (by omega),List.take_of_length_le (by omega)] at *
  rw[htk]
 ·have hn:t.globals=[]:=h0.resolve_right (by omega)
  have hl0:t.globals.length=0:=by rw[hn];rfl
  rw[if_pos hn]
  rw[List.take_of_length_le (by omega),List.take_of_length_le (by simp)] at htk
  rw[htk]
theorem gs_0(t:Table):GS t 0 (.dat true 3 (List.replicate (t.globals.length+2) [.str [],.int .i64 0,.sl 3 []])):=
 .inr ⟨.inr rfl,_,rfl,by simp,by simp,fun r hr=>by rw[(List.mem_replicate.1 hr).2];rfl⟩
theorem q4G{k b i len:Nat}{n:Int}{blk:Blk}(h:blk.k=k)(h0:0≤n)(h1:n<len):iaB k b i len n blk=some (.ptr b (i+n.toNat) 0):=if_pos ⟨h,h0,h1⟩
theorem q4W(n:Nat):((n:Int)+2).toNat=n+2:=by omega
set_option maxHeartbeats 1000000 in
theorem j1W(K:Cx)(t:Table)(ht:Sm t)(i:Nat)(g:Glob)(H:List (Nat×Blk))(nx:Nat)(mv:List Nat)(hi:i<t.globals.length)(hg:nth t.globals i=g)(hnx:3<nx)(h0:look H 0=some (.mix 2 [tabV t]))
  (blk blk':Blk) (h3:look H 3=some blk) (hk:blk.k=3) (hset:blk.set i 0 [.d false (.str g.name),.d false (.int .i64 g.arity),.bsx nx 0 g.code.length]=some blk') :
  ∃ H',exec K f12_T0 ⟨[(1,.ptr 0 0 0),(2,.ptr 1 0 0),(3,.bsx 2 0 (t.shapes.length+2)),(5,.bsx 3 0 (t.globals.length+2)),(6,.d false (.int .i64 i)),(7,.d false (.int .i64 g.code.length)),(1000000000,.junk)],H,nx,mv⟩ =
   some (.nrm,⟨[(1,.ptr 0 0 0),(2,.ptr 1 0 0),(3,.bsx 2 0 (t.shapes.length+2)),(5,.bsx 3 0 (t.globals.length+2)),(6,.d false (.int .i64 i))],H',nx+1,mv⟩)∧
   look H' 3=some blk'∧look H' nx=some (.dat true 3 ((finI g.code).map q0C))∧∀ b,b≠3→b≠nx→look H' b=look H b:=by
 have hs:=ht.sh
 have hgl:=ht.gl
 have hm:g∈t.globals:=by rw[←hg,q2g,List.getD_eq_getElem?_getD,List.getElem?_eq_getElem hi];exact List.getElem_mem hi
 have hcd:=ht.cd g hm
 obtain⟨H1,e1,e2,e3⟩:=j00 K t ht (nx+1) mv i nx g hi hg hnx (g.code.length+2) 0 ((nx,.dat true 3 ((List.replicate (g.code.length+2) (Instr.mk 0 0 0)).map q0C)) :: H) (List.replicate (g.code.length+2) ⟨0,0,0⟩) (by omega)
  (by rw[q4j _ _ (by omega)];exact h0) (q9t _ _ _) (by simp) (by simp)
 simp only[stL,List.cons_append,List.nil_append,Int.natCast_zero] at e1
 have g0:look H1 0=some (.mix 2 [tabV t]):=by rw[e3 0 (by omega),q4j _ _ (by omega)];exact h0
 have g3:look H1 3=some blk:=by rw[e3 3 (by omega),q4j _ _ (by omega)];exact h3
 have hc:=q47 H1 3 nx (g.code.length+2) (.tup []) (.tup []) false .i64 g.code.length (by simp [q3q,e2,Blk.k]) (by omega) (by omega)
 refine⟨put H1 3 blk',?_,q0Q _ _ _,by rw[q0e _ _ (by omega)];exact e2,fun b hb hb'=>by rw[q0e _ _ (Ne.symm hb),e3 b hb',q4j _ _ (Ne.symm hb')]⟩
 simp only[tabV] at g0
 rw[f12_T0.eq_1]
 simp(disch:=first|decide|omega|(simp only[LN];first|done|omega)) only[SV,SW,Nat.reduceEqDiff,Nat.reduceBEq,q9q,Nat.reduceAdd,q4W,j1c,q0l,q0t,q1e,e1]
 have hia:=q4G (k:=3) (b:=3) (i:=0) (len:=t.globals.length+2) (n:=(i:Int)) hk (by omega) (by omega)
 simp(disch:=first|decide|omega|(simp only[LN];first|done|omega)) only[SV,SW,g3,hia,hc,g0,hg,q0D,Nat.reduceAdd,hset,lose]
structure G2(t:Table)(i:Nat)(H:List (Nat×Blk))(nx:Nat):Prop where
 h0:look H 0=some (.mix 2 [tabV t])
 nx:nx=4+min i t.globals.length
 gb:∃ blk,look H 3=some blk∧GS t i blk
 cd:∀ j,j<min i t.globals.length→look H (4+j)=some (.dat true 3 ((finI (nth t.globals j).code).map q0C))
set_option maxHeartbeats 1000000 in
theorem j0Z(K:Cx)(t:Table)(ht:Sm t)(mv:List Nat):∀(k i:Nat)(H:List (Nat×Blk))(nx:Nat),i+k=t.globals.length+2→G2 t i H nx→
  ∃ H',lpk K [1,2,3,5,6] f12_L2 ⟨[(1,.ptr 0 0 0),(2,.ptr 1 0 0),(3,.bsx 2 0 (t.shapes.length+2)),(5,.bsx 3 0 (t.globals.length+2)),(6,.d false (.int .i64 i))],H,nx,mv⟩ =
   some (.exit 2,⟨[(1,.ptr 0 0 0),(2,.ptr 1 0 0),(3,.bsx 2 0 (t.shapes.length+2)),(5,.bsx 3 0 (t.globals.length+2))],H',4+t.globals.length,mv⟩)∧
   G2 t (t.globals.length+2) H' (4+t.globals.length)∧∀ b,b<3→look H' b=look H b:=by
 have hs:=ht.sh
 have hgl:=ht.gl
 intro k
 induction k with
 |zero=>
  intro i H nx hi hI
  obtain rfl:i=t.globals.length+2:=by omega
  obtain rfl:nx=4+t.globals.length:=by have:=hI.nx;omega
  refine⟨H,?_,hI,fun _ _=>rfl⟩
  rw[q1B f12_L2.eq_1]
  simp only[Int.natCast_add]
  simp(disch:=first|decide|omega|(simp only[LN];first|done|omega)) only[SV,SW,Nat.reduceBEq,q0l,q0t,Nat.reduceEqDiff,q1H]
 |succ k ih=>
  intro i H nx hi hI
  obtain⟨h0,hnx,⟨blk,h3,hgs⟩,hcd⟩:=hI
  by_cases hi2:i<t.globals.length
  ·obtain⟨b1,b2,s1,k1,k2,s2,hgs'⟩:=j07 hgs hi2
   generalize hg:nth t.globals (i:Int)=g at s2
   have hm:g∈t.globals:=by rw[←hg,q2g,List.getD_eq_getElem?_getD,List.getElem?_eq_getElem hi2];exact List.getElem_mem hi2
   have hcl:=ht.cd g hm
   obtain⟨H1,e1,f3,fn,fo⟩:=j1W K t ht i g (put H 3 b1) nx mv hi2 hg (by omega) (by rw[q0e _ _ (by omega)];exact h0) b1 b2 (q0Q _ _ _) k2 (by rw[show nx=4+i by omega];exact s2)
   obtain⟨H',e2,hI',hlow⟩:=ih (i+1) H1 (nx+1) (by omega) ⟨by rw[fo 0 (by omega) (by omega),q0e _ _ (by omega)];exact h0,by omega,⟨b2,f3,hgs'⟩,fun j hj=>by
    by_cases hji:j=i
    ·subst hji;rw[show 4+j=nx by omega,fn,hg]
    ·rw[fo _ (by omega) (by omega),q0e _ _ (by omega)];exact hcd j (by omega)⟩
   refine⟨H',?_,hI',fun b hb=>by rw[hlow b hb,fo b (by omega) (by omega),q0e _ _ (by omega)]⟩
   rw[←e2]
   rw[q1B f12_L2.eq_1]
   simp only[tabV] at h0
   simp only[behC,behN] at s1
   have hia:=q4G (k:=3) (b:=3) (i:=0) (len:=t.globals.length+2) (n:=(i:Int)) k1 (by omega) (by omega)
   clear hcd hlow fo ih hm
   simp(disch:=first|decide|omega|(simp only[LN];first|done|omega)) only[SV,SW,Nat.reduceBEq,h3,hia,Nat.reduceAdd,s1,lose,q0e,h0,hg,q0D,q0l,q0t,q3Z,Nat.reduceEqDiff,e1,q12]
   rfl
  ·obtain⟨b1,s1,k1,hgs'⟩:=j06 hgs (by omega) (by omega)
   obtain⟨H',e2,hI',hlow⟩:=ih (i+1) (put H 3 b1) nx (by omega) ⟨by rw[q0e _ _ (by omega)];exact h0,by omega,⟨b1,q0Q _ _ _,hgs'⟩,fun j hj=>by
    rw[q0e _ _ (by omega)];exact hcd j (by omega)⟩
   refine⟨H',?_,hI',fun b hb=>by rw[hlow b hb,q0e _ _ (by omega)]⟩
   rw[←e2]
   rw[q1B f12_L2.eq_1]
   simp only[tabV] at h0
   simp only[behC,behN] at s1
   have hia:=q4G (k:=3) (b:=3) (i:=0) (len:=t.globals.length+2) (n:=(i:Int)) k1 (by omega) (by omega)
   clear hcd hlow ih
   simp(disch:=first|decide|omega|(simp only[LN];first|done|omega)) only[SV,SW,Nat.reduceBEq,h3,hia,Nat.reduceAdd,s1,lose,q0e,h0,q12,q0t,Nat.reduceEqDiff]
   rfl
end Go.Vm
end

section
namespace Go.Vm
set_option maxRecDepth 20000
open Go.Proofs
set_option maxHeartbeats 1000000 in
theorem z6m(K:Cx)(t:Table)(ht:Sm t):∃ H,exec K f12.body (startS [.agg (tabV t)] [])=some (.ret,⟨[(2,.ptr 1 0 0)],H,4+t.globals.length,[]⟩)∧
  look H 1=some (.mix 2 [[.bsx 2 0 t.shapes.length,.bsx 3 0 t.globals.length]])∧look H 2=some (.dat true 2 ((finS t).map q0g))∧look H 3=some (gBlk t)∧
  ∀ j,j<t.globals.length→look H (4+j)=some (.dat true 3 ((finI (nth t.globals j).code).map q0C)):=by
 have hs:=ht.sh
 have hgl:=ht.gl
 obtain⟨H0,e0,a2,ao⟩:=j01 K t ht 3 [] (t.shapes.length+2) 0 [(2,.dat true 2 ((List.replicate (t.shapes.length+2) (Shape.mk [] 0)).map q0g)),(1,.mix 2 [[.fs true 2 [],.fs true 3 []]]),(0,.mix 2 [tabV t])]
  (List.replicate (t.shapes.length+2) ⟨[],0⟩) (by omega) rfl rfl (by simp) (by simp)
 have b0:look H0 0=some (.mix 2 [tabV t]):=by rw[ao 0 (by omega)];rfl
 have b1:look H0 1=some (.mix 2 [[.fs true 2 [],.fs true 3 []]]):=by rw[ao 1 (by omega)];rfl
 obtain⟨H1,e1,hI,lo⟩:=j0Z K t ht [] (t.globals.length+2) 0 ((3,.dat true 3 (List.replicate (t.globals.length+2) [.str [],.int .i64 0,.sl 3 []])) :: H0) 4 (by omega)
  ⟨by rw[q4j _ _ (by omega)];exact b0,by omega,⟨_,q9t _ _ _,gs_0 t⟩,fun j hj=>by omega⟩
 obtain⟨h0,_,⟨blk,h3,hgs⟩,hcd⟩:=hI
 obtain rfl:=j2J hgs
 have c1:look H1 1=some (.mix 2 [[.fs true 2 [],.fs true 3 []]]):=by rw[lo 1 (by omega),q4j _ _ (by omega)];exact b1
 have c2:look H1 2=some (.dat true 2 ((finS t).map q0g)):=by rw[lo 2 (by omega),q4j _ _ (by omega)];exact a2
 refine⟨put H1 1 (.mix 2 [[.bsx 2 0 t.shapes.length,.bsx 3 0 t.globals.length]]),?_,q0Q _ _ _,by rw[q0e _ _ (by omega)];exact c2,by rw[q0e _ _ (by omega)];exact h3,fun j hj=>by
  rw[q0e _ _ (by omega)];exact hcd j (by omega)⟩
 have k3:(gBlk t).k=3:=by unfold gBlk;split <;> rfl
 have q1:=q47 H1 3 3 (t.globals.length+2) (.tup []) (.tup []) false .i64 t.globals.length (by simp [q3q,h3,k3]) (by omega) (by omega)
 have q2:=q47 H1 2 2 (t.shapes.length+2) (.tup []) (.tup []) false .i64 t.shapes.length (by simp [q3q,c2,Blk.k]) (by omega) (by omega)
 simp only[Int.natCast_zero] at e0 e1
 clear hcd lo ao hgs a2
 simp only[tabV] at h0 b0 b1 e0 e1 ⊢
 simp(disch:=first|decide|omega|(simp only[LN];first|done|omega)) only[SV,SW,f12,z9S,z9T,Nat.reduceAdd,Nat.reduceBEq,q0l,q0t,q3Z,Nat.reduceEqDiff,q9q,q4W,j1a,q1e,e0,b0,List.isEmpty_nil]
 simp(disch:=first|decide|omega|(simp only[LN];first|done|omega)) only[SV,SW,e1,Nat.reduceBEq,h0,q1,q2,Nat.reduceAdd,c1,lose,q0l,q0t,Nat.reduceEqDiff]
def gB(z:Bool)(p:Nat)(gs:List Glob):Blk:=if gs=[] then .dat z 3 [behD,behD] else .mix 3 ((numG p gs).map rowG++[behG z,behG z])
def cB(z:Bool)(g:Glob):Blk:=.dat z 3 ((finI g.code).map q0C)
def tblk(z:Bool)(p:Nat)(t:Table):List Blk:=.dat z 2 ((finS t).map q0g) :: gB z p t.globals :: t.globals.map (cB z)
structure TB(H:List (Nat×Blk))(p:Nat)(z:Bool)(t:Table):Prop where
 s:look H p=some (.dat z 2 ((finS t).map q0g))
 g:look H (p+1)=some (gB z (p+2) t.globals)
 c:∀ j,j<t.globals.length→look H (p+2+j)=some (cB z (nth t.globals j))
theorem q1P(z p t):(tblk z p t).length=t.globals.length+2:=by simp [tblk]
theorem q1o{α:Type} [Inhabited α]{l:List α}{j:Nat}(h:j<l.length):l[j]? = some (nth l (j:Int)):=by
 rw[q2g,List.getD_eq_getElem?_getD,List.getElem?_eq_getElem h];rfl
theorem TB.all{H:List (Nat×Blk)}{p:Nat}{z:Bool}{t:Table}(h:TB H p z t):∀ j,j<t.globals.length+2→look H (p+j)=(tblk z (p+2) t)[j]?:=by
 intro j hj
 match j,hj with
 |0,_=>rw[Nat.add_zero,h.s];rfl
 |1,_=>rw[h.g];rfl
 |j+2,hj=>
  rw[show p+(j+2)=p+2+j by omega,h.c j (by omega)]
  simp only[tblk,List.getElem?_cons_succ,List.getElem?_map,q1o (show j<t.globals.length by omega),Option.map_some]
theorem z5I(q:Nat×Glob):refsL (rowG q)=[q.1]:=rfl
theorem z7r(z):refsL (behG z)=[]:=rfl
theorem z0v:∀(gs:List Glob)(p:Nat),((numG p gs).map rowG).flatMap refsL=List.range' p gs.length
 |[],_=>rfl
 |g :: r,p=>by
  simp only[numG,List.map_cons,List.flatMap_cons,z5I,z0v r (p+1),List.length_cons,List.range'_succ]
  rfl
theorem z6F(z p gs):(gB z p gs).refs=List.range' p gs.length:=by
 unfold gB
 split
 ·rename_i h;subst h;rfl
 ·simp only[Blk.refs,List.flatMap_append,z0v,List.flatMap_cons,z7r,List.flatMap_nil,List.append_nil]
theorem j0G{H:List (Nat×Blk)}{b:Nat}{k:Blk}(h:look H b=some k):k.refs.length≤refN H:=by
 induction H with
 |nil=>simp [look] at h
 |cons q H ih=>
  obtain⟨c,x⟩:=q
  simp only[refN,List.map_cons,List.sum_cons]
  simp only[look] at h
  split at h
  ·obtain rfl:=Option.some.inj h;omega
  ·have:=ih h
   simp only[refN] at this
   omega
theorem q6L(H:List (Nat×Blk)):∀(todo:List Nat)(fuel:Nat)(done:List Nat),todo.Nodup→(∀ b∈todo,b∉done∧z8r (look H b)=[])→todo.length≤fuel→q1N H fuel done todo=done++todo
 |[],fuel,done,_,_,_=>by rw[q2B,List.append_nil]
 |b :: r,0,done,_,_,h=>by simp at h
 |b :: r,fuel+1,done,hn,hd,hf=>by
  rw[List.nodup_cons] at hn
  have hb:=hd b (by simp)
  rw[q1R,show done.contains b=false by simpa using hb.1,q1z,hb.2,List.append_nil]
  rw[q6L H r fuel (done++[b]) hn.2 (fun c hc=>⟨by
   simp only[List.mem_append,List.mem_singleton,not_or]
   exact⟨(hd c (by simp [hc])).1,fun e=>hn.1 (e ▸ hc)⟩,(hd c (by simp [hc])).2⟩) (by simpa using hf)]
  simp
theorem TB.reach{H:List (Nat×Blk)}{p:Nat}{z:Bool}{t:Table}(h:TB H p z t):q1N H (refN H+64) [] [p,p+1]=List.range' p (t.globals.length+2):=by
 have hr:=j0G h.g
 rw[z6F,List.length_range'] at hr
 rw[show refN H+64=(refN H+62)+1+1 by omega,q1R]
 simp only[List.contains_nil,q1z,h.s,q2A,Blk.refs,List.append_nil,List.nil_append]
 rw[q1R,show [p].contains (p+1)=false by simp,q1z,h.g,q2A,z6F,List.nil_append]
 rw[q6L _ _ _ _ (List.nodup_range' (step:=1)) (fun b hb=>?_) (by simp;omega)]
 ·rw[show t.globals.length+2=(t.globals.length+1)+1 by omega,List.range'_succ,List.range'_succ]
  rfl
 ·rw[List.mem_range'_1] at hb
  refine⟨by simp;omega,?_⟩
  obtain⟨j,rfl⟩:∃ j,b=p+2+j:=⟨b - (p+2),by omega⟩
  rw[h.c j (by omega)];rfl
end Go.Vm
end

section
namespace Go.Vm
set_option maxRecDepth 20000
open Go.Proofs
/- 'sloth/slothref17.instr' -/
/- 'sloth/slothref17.form' -/
def f65:Fun:=⟨ (.seq (.reg [⟨[],[],[(.str [])],none,[0],1,[],[],[]⟩]) (.seq (.seq (.reg [⟨[],[(3,(.sl 0))],[],none,[],1,[],[],[]⟩]) (.block 0 (.seq (.seq (.reg [⟨[],[(4,(.bin .eql (.sl 3) (.int .i64 6)))],[],none,[3],2,[],[],[]⟩]) (.cond (.sl 4) .skip (.seq (.reg [⟨[],[(4,(.bin .eql (.sl 3) (.int .i64 11)))],[],none,[3],2,[],[],[]⟩]) (.cond (.sl 4) .skip (.reg [⟨[],[(4,(.bin .eql (.sl 3) (.int .i64 17)))],[],none,[3],2,[],[],[]⟩]))))) (.cond (.sl 4) (.seq (.reg [⟨[],[(2,(.str []))],[],none,[],1,[],[],[]⟩]) (.seq (.tidy 0 [2]) .ret)) (.seq (.reg [⟨[],[(8,(.bin .eql (.sl 3) (.int .i64 2)))],[],none,[3],2,[],[],[]⟩]) (.cond (.sl 8) (.seq (.reg [⟨[],[(2,(.str [103]))],[],none,[],1,[],[],[]⟩]) (.seq (.tidy 0 [2]) .ret)) (.seq (.seq (.reg [⟨[],[(10,(.bin .eql (.sl 3) (.int .i64 9)))],[],none,[3],2,[],[],[]⟩]) (.cond (.sl 10) .skip (.reg [⟨[],[(10,(.bin .eql (.sl 3) (.int .i64 10)))],[],none,[3],2,[],[],[]⟩]))) (.cond (.sl 10) (.seq (.reg [⟨[],[(2,(.str [99]))],[],none,[],1,[],[],[]⟩]) (.seq (.tidy 0 [2]) .ret)) (.seq (.reg [⟨[],[(13,(.bin .eql (.sl 3) (.int .i64 12)))],[],none,[3],2,[],[],[]⟩]) (.cond (.sl 13) (.seq (.reg [⟨[],[(2,(.str [111]))],[],none,[],1,[],[],[]⟩]) (.seq (.tidy 0 [2]) .ret)) (.seq (.reg [⟨[],[(15,(.bin .eql (.sl 3) (.int .i64 14)))],[],none,[3],2,[],[],[]⟩]) (.cond (.sl 15) (.seq (.reg [⟨[],[(2,(.str [99,110]))],[],none,[],1,[],[],[]⟩]) (.seq (.tidy 0 [2]) .ret)) (.seq (.reg [⟨[],[(17,(.bin .eql (.sl 3) (.int .i64 15)))],[],none,[],2,[],[],[]⟩]) (.cond (.sl 17) (.seq (.reg [⟨[],[(2,(.str [110,110]))],[],none,[],1,[],[],[]⟩]) (.seq (.tidy 0 [2]) .ret)) .skip)))))))))))))) (.seq (.reg [⟨[],[(2,(.str [110]))],[],none,[],1,[],[],[]⟩]) (.seq (.tidy 0 [2]) .ret)))), [(.sl 2)],false⟩
theorem j29:q09 Go.Proofs.Tryz.prog 65 0 1 f65=true:=by kernel_rfl
/- 'sloth/slothref17.words' -/
def f85:Fun:=⟨ (.seq (.reg [⟨[],[],[(.nilsl 1)],none,[],1,[],[],[]⟩]) (.seq (.reg [⟨[(1,.lits 1 (.cons (.str []) (.cons (.str [112,117,115,104]) (.cons (.str [103,108,111,98]) (.cons (.str [105,110,116]) (.cons (.str [112,111,112]) (.cons (.str [115,108,105,100,101]) (.cons (.str [97,112,112,108,121]) (.cons (.str [117,112,100,97,116,101]) (.cons (.str [97,108,108,111,99]) (.cons (.str [112,97,99,107]) (.cons (.str [115,112,108,105,116]) (.cons (.str [101,118,97,108]) (.cons (.str [97,114,105,116,104]) (.cons (.str [106,117,109,112]) (.cons (.str [116,101,115,116,99,111,110]) (.cons (.str [116,101,115,116,105,110,116]) (.cons (.str [102,97,105,108]) (.cons (.str [117,110,119,105,110,100]) .nil)))))))))))))))))))],[(0,(.sl 1))],[],none,[],2,[],[],[]⟩]) (.seq (.tidy 0 [0]) .ret))), [(.sl 0)],false⟩
/- 'sloth/slothref17.operators' -/
def wordsL:List Bs:=[[],[112,117,115,104],[103,108,111,98],[105,110,116],[112,111,112],[115,108,105,100,101],[97,112,112,108,121],[117,112,100,97,116,101],[97,108,108,111,99],[112,97,99,107],[115,112,108,105,116],[101,118,97,108],[97,114,105,116,104],[106,117,109,112],[116,101,115,116,99,111,110],[116,101,115,116,105,110,116],[102,97,105,108],[117,110,119,105,110,100]]
def eStr(s:Bs):List D:=[.str s]
theorem j1C(s):eStr s=[.str s]:=rfl
theorem j3H(K:Cx):q0B K f85 [] []=some (.d true (.sl 1 (wordsL.map eStr)),[],[]):=by
  simp(disch:=first|decide|omega|(simp only[LN];first|done|omega)) only[SV,SW,f85,Nat.reduceAdd,q0b,hNew,V.forget,V.drop1,V.ref0,V.newR,q0c,wordsL,j1C]
def q4L(op:Int):Bs:=if op=6∨op=11∨op=17 then [] else if op=2 then [103] else if op=9∨op=10 then [99] else if op=12 then [111] else if op=14 then [99,110] else if op=15 then [110,110] else [110]
theorem z9d(K:Cx)(op:Int):q0B K f65 [.d false (.int .i64 op)] []=some (.d false (.str (q4L op)),[],[]):=by
  unfold q4L
  by_cases h1:op=6
  · subst h1;simp(disch:=first|decide|omega|(simp only[LN];first|done|omega)) only[SV,SW,f65,q0b,Int.reduceEq]
  by_cases h2:op=11
  · subst h2;simp(disch:=first|decide|omega|(simp only[LN];first|done|omega)) only[SV,SW,f65,Nat.reduceBEq,q0b,Int.reduceEq]
  by_cases h3:op=17
  · subst h3;simp(disch:=first|decide|omega|(simp only[LN];first|done|omega)) only[SV,SW,f65,Nat.reduceBEq,q0b,Int.reduceEq]
  by_cases h4:op=2
  · subst h4;simp(disch:=first|decide|omega|(simp only[LN];first|done|omega)) only[SV,SW,f65,Nat.reduceBEq,q0b,Int.reduceEq]
  by_cases h5:op=9
  · subst h5;simp(disch:=first|decide|omega|(simp only[LN];first|done|omega)) only[SV,SW,f65,Nat.reduceBEq,q0b,Int.reduceEq]
  by_cases h6:op=10
  · subst h6;simp(disch:=first|decide|omega|(simp only[LN];first|done|omega)) only[SV,SW,f65,Nat.reduceBEq,q0b,Int.reduceEq]
  by_cases h7:op=12
  · subst h7;simp(disch:=first|decide|omega|(simp only[LN];first|done|omega)) only[SV,SW,f65,Nat.reduceBEq,q0b,Int.reduceEq]
  by_cases h8:op=14
  · subst h8;simp(disch:=first|decide|omega|(simp only[LN];first|done|omega)) only[SV,SW,f65,Nat.reduceBEq,q0b,Int.reduceEq]
  by_cases h9:op=15
  · subst h9;simp(disch:=first|decide|omega|(simp only[LN];first|done|omega)) only[SV,SW,f65,Nat.reduceBEq,q0b,Int.reduceEq]
  rw[if_neg (by omega),if_neg h4,if_neg (by omega),if_neg h7,if_neg h8,if_neg h9]
  have g1:(op==6)=false:=by simpa using h1
  have g2:(op==11)=false:=by simpa using h2
  have g3:(op==17)=false:=by simpa using h3
  have g4:(op==2)=false:=by simpa using h4
  have g5:(op==9)=false:=by simpa using h5
  have g6:(op==10)=false:=by simpa using h6
  have g7:(op==12)=false:=by simpa using h7
  have g8:(op==14)=false:=by simpa using h8
  have g9:(op==15)=false:=by simpa using h9
  clear h1 h2 h3 h4 h5 h6 h7 h8 h9
  simp(disch:=first|decide|omega|(simp only[LN];first|done|omega)) only[SV,SW,f65,g1,Nat.reduceBEq,g2,g3,g4,g5,g6,g7,g8,g9,q0b]
def j1J(t:Table)(l:UInt8)(n:Int):Prop:=(l=110∧-9223372036854775807≤n∧n≤9223372036854775807)∨(l=103∧0≤n∧n<t.globals.length)∨(l=99∧0≤n∧n<t.shapes.length)∨(l=111∧1≤n∧n≤11)
structure Nm(t:Table):Prop where
  sn:∀ s∈t.shapes,s.name.length≤4096
  gn:∀ g∈t.globals,g.name.length≤4096
structure InsOk(t:Table)(x:Instr):Prop where
  op:1≤x.op∧x.op<18
  a:0<(q4L x.op).length→j1J t (nth (q4L x.op) 0) x.a
  b:1<(q4L x.op).length→j1J t (nth (q4L x.op) 1) x.b
end Go.Vm
end

section
namespace Go.Vm
set_option maxRecDepth 20000
open Go.Proofs
theorem q7O{α β:Type}{f:α→Option β}:∀ {l:List α}{r:List β},r.length=l.length→(∀(j:Nat)(x:α),l[j]? = some x→f x=r[j]?)→mapO f l=some r
 |[],[],_,_=>rfl
 |[],_ :: _,h,_=>by simp at h
 |_ :: _,[],h,_=>by simp at h
 |a :: l,b :: r,h,hf=>by
  have h0:=hf 0 a rfl
  have ih:=q7O (f:=f) (l:=l) (r:=r) (by simpa using h) (fun j x hx=>hf (j+1) x hx)
  simp only[List.getElem?_cons_zero] at h0
  simp only[mapO,h0,ih]
theorem q2O(p m b:Nat):(List.range' p m).contains b=decide (p≤b∧b<p+m):=by
 rw[Bool.eq_iff_iff]
 simp only[List.contains_eq_mem,decide_eq_true_eq,List.mem_range'_1]
theorem z1x{p m j:Nat}(h:j<m):(List.range' p m).idxOf (p+j)=j:=by
 have h1:(List.range' p m)[j]? = some (p+j):=by simp [h]
 exact z50 (List.nodup_range' (step:=1)) h1
theorem j0H(p m j b:Nat)(h:(List.range' p m)[j]? = some b):j<m∧b=p+j:=by
 obtain⟨h1,h2⟩:=List.getElem?_eq_some_iff.1 h
 simp only[List.length_range'] at h1
 refine⟨h1,?_⟩
 rw[←h2]
 simp
theorem q7N{α β:Type}{f:α→Option β}{t t':List α}{t2:List β}(h:mapO f t=some t2):∀ {l:List α}{l2:List β},mapO f l=some l2→mapO f (l++t)=some (l2++t2)
 |[],l2,h1=>by cases h1;simpa using h
 |a :: l,l2,h1=>by
  simp only[mapO] at h1
  cases ha:f a with
  |none=>simp [ha] at h1
  |some b=>
   cases hl:mapO f l with
   |none=>simp [ha,hl] at h1
   |some bs=>
    simp only[ha,hl,Option.some.injEq] at h1
    subst h1
    have:=q7N (t':=t) h hl
    simp only[List.cons_append,mapO,ha,this]
theorem z6M{zz:Bool}{bs:List Nat}{H:List (Nat×Blk)}{q q':Nat}{g:Glob}(h1:bs.contains q=true)(h2:bs.idxOf q=q'):mapO (finC zz bs H) (rowG (q,g))=some (rowG (q',g)):=by
 have e:finC zz bs H (.bsx q 0 g.code.length)=some (.bsx q' 0 g.code.length):=by simp only[finC,h1,h2,if_true]
 simp only[rowG,mapO,finC,h1,h2,if_true]
theorem z2P{zz:Bool}{bs:List Nat}{H:List (Nat×Blk)}:∀(gs:List Glob)(q q':Nat),(∀ i,i<gs.length→bs.contains (q+i)=true∧bs.idxOf (q+i)=q'+i)→mapO (mapO (finC zz bs H)) ((numG q gs).map rowG)=some ((numG q' gs).map rowG)
 |[],_,_,_=>rfl
 |g :: r,q,q',h=>by
  have h0:=h 0 (by simp)
  have ih:=z2P (zz:=zz) (bs:=bs) (H:=H) r (q+1) (q'+1) fun i hi=>by
   have:=h (i+1) (by simp;omega)
   rw[show q+1+i=q+(i+1) by omega,show q'+1+i=q'+(i+1) by omega];exact this
  simp only[Nat.add_zero] at h0
  simp only[numG,List.map_cons,mapO,z6M h0.1 h0.2,ih]
theorem TB.fin{H:List (Nat×Blk)}{p:Nat}{z zz:Bool}{t:Table}(h:TB H p z t)(hz:z=true∨zz=false):mapO (finB zz (List.range' p (t.globals.length+2)) H) (List.range' p (t.globals.length+2))=some (tblk z 2 t):=by
 have ez:∀ b,(z||(zz&&b))=z:=fun b=>by rcases hz with rfl|rfl <;> simp
 refine q7O (by simp [q1P]) fun j b hb=>?_
 obtain⟨hj,rfl⟩:=j0H _ _ _ _ hb
 match j,hj with
 |0,_=>simp only[finB,Nat.add_zero,h.s,ez];rfl
 |1,_=>
  show finB _ _ _ _=some (gB z 2 t.globals)
  simp only[finB,h.g]
  by_cases hg:t.globals=[]
  ·simp only[gB,if_pos hg,ez]
  ·simp only[gB,if_neg hg]
   rw[q7N (t':=[]) (t2:=[behG z,behG z]) rfl (z2P t.globals (p+2) 2 fun i hi=>⟨by rw[q2O,decide_eq_true_eq];omega,by rw[show p+2+i=p+(2+i) by omega];exact z1x (by omega)⟩)]
   rfl
 |j+2,hj=>
  rw[show p+(j+2)=p+2+j by omega]
  simp only[finB,h.c j (by omega),cB,ez]
  simp only[tblk,List.getElem?_cons_succ,List.getElem?_map,q1o (show j<t.globals.length by omega),Option.map_some,cB]
theorem z8M(K:Cx)(t:Table)(ht:Sm t):q0B K f12 [.agg (tabV t)] []=some (.agg [.bsx 0 0 t.shapes.length,.bsx 1 0 t.globals.length],tblk true 2 t,[]):=by
 obtain⟨H,e,h1,h2,h3,h4⟩:=z6m K t ht
 have hT:TB H 2 true t:=⟨h2,h3,h4⟩
 have hr:=hT.reach
 have hf:=hT.fin (zz:=true) (.inl rfl)
 have hv:mapO (ev K ⟨[(2,.ptr 1 0 0)],H,4+t.globals.length,[]⟩) f12.res=some [.agg [.bsx 2 0 t.shapes.length,.bsx 3 0 t.globals.length]]:=by
  simp(disch:=first|decide|omega|(simp only[LN];first|done|omega)) only[SV,SW,f12,h1,Nat.reduceAdd]
 unfold q0B
 rw[e]
 simp only[hv]
 unfold finish
 have e1:f12.own=true:=rfl
 have e2:List.range ([]:List Blk).length++(q0b [V.agg [.bsx 2 0 t.shapes.length,.bsx 3 0 t.globals.length]]).refs=[2,3]:=rfl
 rw[e1,if_pos rfl,e2,hr]
 have c2:(List.range' 2 (t.globals.length+2)).contains 2=true:=by rw[q2O,decide_eq_true_eq];omega
 have c3:(List.range' 2 (t.globals.length+2)).contains 3=true:=by rw[q2O,decide_eq_true_eq];omega
 have i2:(List.range' 2 (t.globals.length+2)).idxOf 2=0:=z1x (j:=0) (by omega)
 have i3:(List.range' 2 (t.globals.length+2)).idxOf 3=1:=z1x (j:=1) (by omega)
 have hfv:finV true (List.range' 2 (t.globals.length+2)) H (q0b [V.agg [.bsx 2 0 t.shapes.length,.bsx 3 0 t.globals.length]])=some (.agg [.bsx 0 0 t.shapes.length,.bsx 1 0 t.globals.length]):=by
  simp only[q0b,finV,finA,mapO,finC,c2,c3,i2,i3,if_true,Option.map_some]
 have hnd:(List.range' 2 (t.globals.length+2)).Nodup:=List.nodup_range' (step:=1)
 simp only[List.length_nil,hnd,decide_true,List.take_zero,List.range_zero,Bool.and_self,if_true,beq_self_eq_true,hfv,hf,List.filter_nil]
end Go.Vm
end

section
namespace Go.Vm
set_option maxRecDepth 20000
open Go.Proofs
/- 'sloth/slothlaw17.kept' -/
def f16_L0:C:= (.seq (.seq (.reg [⟨[],[(60,(.bin .lss (.sl 7) (.sl 5)))],[],none,[1,5,7],3,[],[],[]⟩]) (.cond (.sl 60) .skip (.seq (.keep []) (.exit 0)))) (.seq (.block 1 (.seq (.reg [⟨[],[(8,(.len false (.ld 1 false (.fa 2 (.ia 3 (.ld 1 false (.fa 1 (.sl 1))) (.sl 7))))))],[],none,[1,5,7],8,[],[],[]⟩]) (.seq (.reg [⟨[],[(9,(.cut false false true false 3 (.ld 1 false (.fa 2 (.ia 3 (.ld 1 false (.fa 1 (.sl 1))) (.sl 7)))) .nil (.bin .add (.sl 8) (.int .i64 2)) .nil))],[],none,[1,5,7,8],10,[],[],[]⟩]) (.seq (.reg [⟨[],[(93,(.or (.bin .neq (.ld 1 false (.fa 0 (.ia 3 (.sl 9) (.sl 8)))) (.int .i64 (-77))) (.bin .neq (.ld 1 false (.fa 0 (.ia 3 (.sl 9) (.bin .add (.sl 8) (.int .i64 1))))) (.int .i64 (-77)))))],[],none,[1,5,7],15,[],[],[]⟩]) (.cond (.sl 93) (.seq (.reg [⟨[],[(2,(.bool false))],[],none,[],1,[],[],[]⟩]) (.seq (.keep [2]) .ret)) .skip))))) (.reg [⟨[],[(7,(.bin .add (.sl 7) (.int .i64 1)))],[],none,[1,5],3,[],[],[]⟩])))
def f16:Fun:=⟨ (.seq (.reg [⟨[(1,.box (.sl 0))],[],[(.bool false)],none,[1],2,[],[],[]⟩]) (.seq (.reg [⟨[],[(3,(.len false (.ld 1 false (.fa 0 (.sl 1)))))],[],none,[1],4,[],[],[]⟩]) (.seq (.reg [⟨[],[(4,(.cut false false true false 2 (.ld 1 false (.fa 0 (.sl 1))) .nil (.bin .add (.sl 3) (.int .i64 2)) .nil))],[],none,[1,3],6,[],[],[]⟩]) (.seq (.reg [⟨[],[(5,(.len false (.ld 1 false (.fa 1 (.sl 1)))))],[],none,[1,3,4],4,[],[],[]⟩]) (.seq (.reg [⟨[],[(6,(.cut false false true false 3 (.ld 1 false (.fa 1 (.sl 1))) .nil (.bin .add (.sl 5) (.int .i64 2)) .nil))],[],none,[1,3,4,5],6,[],[],[]⟩]) (.seq (.seq (.reg [⟨[],[(57,(.or (.or (.or (.bin .neq (.ld 1 false (.fa 0 (.ia 2 (.sl 4) (.sl 3)))) (.str [98,101,104,105,110,100])) (.bin .neq (.ld 1 false (.fa 0 (.ia 2 (.sl 4) (.bin .add (.sl 3) (.int .i64 1))))) (.str [98,101,104,105,110,100]))) (.bin .neq (.ld 1 false (.fa 0 (.ia 3 (.sl 6) (.sl 5)))) (.str [98,101,104,105,110,100]))) (.bin .neq (.ld 1 false (.fa 0 (.ia 3 (.sl 6) (.bin .add (.sl 5) (.int .i64 1))))) (.str [98,101,104,105,110,100]))))],[],none,[1,5],32,[],[],[]⟩]) (.cond (.sl 57) (.seq (.reg [⟨[],[(2,(.bool false))],[],none,[],1,[],[],[]⟩]) (.seq (.keep [2]) .ret)) .skip)) (.seq (.seq (.reg [⟨[],[(7,(.int .i64 0))],[],none,[1,5],1,[],[],[]⟩]) (.block 0 (.seq (.keep [1,5,7]) (.loop (.seq (.keep [1,5,7]) f16_L0))))) (.seq (.reg [⟨[],[(2,(.bool true))],[],none,[],1,[],[],[]⟩]) (.seq (.keep [2]) .ret))))))))), [(.sl 2)],false⟩
theorem j1h(m:Nat):q09 Go.Proofs.Tryz.prog 16 m 1 f16=true:=by kernel_rfl
theorem q8J(t:Table)(z:Bool):TB (indexed (tblk z 2 t)) 0 z t:=
  ⟨by rw[q16];rfl,by rw[q16];rfl,fun j hj=>by
    rw[q16,show 0+2+j=j+2 by omega]
    simp only[tblk,List.getElem?_cons_succ,List.getElem?_map,q1o hj,Option.map_some]⟩
theorem TB.mono{H H':List (Nat×Blk)}{p:Nat}{z:Bool}{t:Table}(h:TB H p z t)(hH:∀ b,p≤b→b<p+(t.globals.length+2)→look H' b=look H b):TB H' p z t:=
  ⟨by rw[hH _ (by omega) (by omega)];exact h.s,by rw[hH _ (by omega) (by omega)];exact h.g,fun j hj=>by rw[hH _ (by omega) (by omega)];exact h.c j hj⟩
theorem gB_k(z p gs):(gB z p gs).k=3:=by unfold gB;split <;> rfl
theorem q6R{z p}{gs:List Glob}{i:Nat}(h:i<gs.length):(gB z p gs).row? i=some (rowG (p+i,nth gs i)):=by
  have hne:gs≠[]:=by intro e;rw[e] at h;simp at h
  unfold gB
  rw[if_neg hne,q1i,List.getElem?_append_left (by simpa [q2p] using h),List.getElem?_map,q5M,q1o h];rfl
theorem z6G(z p)(gs:List Glob){j:Nat}(h:j<2):∃ X,(gB z p gs).row? (gs.length+j)=some [.d false (.str behN),.d false (.int .i64 0),X]:=by
  unfold gB
  by_cases he:gs=[]
  · subst he
    rw[if_pos rfl,z5H]
    match j,h with
    |0,_=>exact⟨_,rfl⟩
    |1,_=>exact⟨_,rfl⟩
  · rw[if_neg he,q1i,List.getElem?_append_right (by simp [q2p]),List.length_map,q2p,Nat.add_sub_cancel_left]
    match j,h with
    |0,_=>exact⟨_,rfl⟩
    |1,_=>exact⟨_,rfl⟩
theorem j08(z p gs H b)(h:look H b=some (gB z p gs)):q5I H b=gs.length+2:=by
  unfold q5I gB at *
  rw[h]
  by_cases he:gs=[]
  · subst he;rfl
  · simp only[if_neg he,List.length_append,List.length_map,q2p];rfl
theorem j2f(l:List Instr):nth (finI l) (l.length:Int)=mkI:=by
  have:l.length<(finI l).length:=by simp [finI]
  rw[q2g,List.getD_eq_getElem?_getD,finI,List.getElem?_append_right (Nat.le_refl _),Nat.sub_self];rfl
theorem j2e(l:List Instr):nth (finI l) ((l.length:Int)+1)=mkI:=by
  rw[show((l.length:Int)+1)=((l.length+1:Nat):Int) by omega,q2g,List.getD_eq_getElem?_getD,finI,List.getElem?_append_right (by omega),show l.length+1 - l.length=1 by omega];rfl
theorem j2d(t:Table):nth (finS t) (t.shapes.length:Int)=behS:=by
  rw[q2g,List.getD_eq_getElem?_getD,finS,List.getElem?_append_right (Nat.le_refl _),Nat.sub_self];rfl
theorem j2c(t:Table):nth (finS t) ((t.shapes.length:Int)+1)=behS:=by
  rw[show((t.shapes.length:Int)+1)=((t.shapes.length+1:Nat):Int) by omega,q2g,List.getD_eq_getElem?_getD,finS,List.getElem?_append_right (by omega),show t.shapes.length+1 - t.shapes.length=1 by omega];rfl
theorem q9B(l):(finI l).length=l.length+2:=by simp [finI]
theorem z8V(t):(finS t).length=t.shapes.length+2:=by simp [finS]
theorem z6s(K:Cx)(t:Table)(ht:Sm t)(b:Nat)(H:List (Nat×Blk))(nx:Nat)(mv:List Nat)(z:Bool)(hT:TB H 0 z t)(hb:look H b=some (.mix 2 [[.bsx 0 0 t.shapes.length,.bsx 1 0 t.globals.length]])):∀(k i:Nat),i+k=t.globals.length→
    lpk K [1,5,7] f16_L0 ⟨[(1,.ptr b 0 0),(5,.d false (.int .i64 t.globals.length)),(7,.d false (.int .i64 i))],H,nx,mv⟩=some (.exit 0,⟨[],H,nx,mv⟩):=by
  have hgl:=ht.gl
  have h1:look H 1=some (gB z 2 t.globals):=hT.g
  intro k
  induction k with
  |zero=>
    intro i hi
    obtain rfl:i=t.globals.length:=by omega
    rw[q1B f16_L0.eq_1]
    simp(disch:=first|decide|omega|(simp only[LN];first|done|omega)) only[SV,SW,Int.reduceNeg,Nat.reduceBEq,q0l,q0t,q1H]
  |succ k ih=>
    intro i hi
    have ih:=ih (i+1) (by omega)
    have hi2:i<t.globals.length:=by omega
    generalize hg:nth t.globals (i:Int)=g
    have hm:g∈t.globals:=by rw[←hg,q2g,List.getD_eq_getElem?_getD,List.getElem?_eq_getElem hi2];exact List.getElem_mem hi2
    have hcl:=ht.cd g hm
    have hr:(gB z 2 t.globals).row? i=some (rowG (2+i,g)):=by rw[q6R hi2,hg]
    have hc:look H (2+i)=some (.dat z 3 ((finI g.code).map q0C)):=by have:=hT.c i hi2;rw[hg] at this;simpa [cB] using this
    have hia:=q4G (k:=3) (b:=1) (i:=0) (len:=t.globals.length) (n:=(i:Int)) (gB_k z 2 t.globals) (by omega) (by omega)
    have hcut:=q47 H 3 (2+i) g.code.length (.tup []) (.tup []) false .i64 ((g.code.length:Int)+2) (by simp [q3q,hc,Blk.k]) (by omega) (.inr (by simp [q5I,hc,finI]))
    have n0:=j2f g.code
    have n1:=j2e g.code
    have n2:nth (finI g.code) ((g.code.length+1:Nat):Int)=mkI:=by rw[Int.natCast_add];exact n1
    have fl:=q9B g.code
    rw[←ih]
    clear ih hm hT
    rw[q1B f16_L0.eq_1]
    simp only[rowG] at hr
    simp only[mkI] at n0 n1 n2
    simp(disch:=first|decide|omega|(simp only[LN];first|done|omega)) only[SV,SW,Int.reduceNeg,Nat.reduceBEq,hb,h1,hia,hr,hcut,q4W,hc,n0,q0h,n2,q12,q0t,Nat.reduceEqDiff]
    rfl
theorem z8P(K:Cx)(t:Table)(ht:Sm t):q0B K f16 [.agg [.bsx 0 0 t.shapes.length,.bsx 1 0 t.globals.length]] (tblk false 2 t)=some (.d false (.bool true),tblk false 2 t,[]):=by
  have hs:=ht.sh
  have hgl:=ht.gl
  have hT0:=q8J t false
  have hln:=q1P false 2 t
  generalize hH:indexed (tblk false 2 t)=H0 at hT0
  have hT:TB ((t.globals.length+2,.mix 2 [[.bsx 0 0 t.shapes.length,.bsx 1 0 t.globals.length]]) :: H0) 0 false t:=hT0.mono fun b _ hb=>q4j _ _ (by omega)
  have hb:look ((t.globals.length+2,Blk.mix 2 [[.bsx 0 0 t.shapes.length,.bsx 1 0 t.globals.length]]) :: H0) (t.globals.length+2)=some (.mix 2 [[.bsx 0 0 t.shapes.length,.bsx 1 0 t.globals.length]]):=q9t _ _ _
  generalize hH1:(t.globals.length+2,Blk.mix 2 [[.bsx 0 0 t.shapes.length,.bsx 1 0 t.globals.length]]) :: H0=H at hT hb
  have hl:=z6s K t ht (t.globals.length+2) H (t.globals.length+2+1) [] false hT hb t.globals.length 0 (by omega)
  have h0:look H 0=some (.dat false 2 ((finS t).map q0g)):=hT.s
  have h1:look H 1=some (gB false 2 t.globals):=hT.g
  have cut1:=q47 H 2 0 t.shapes.length (.tup []) (.tup []) false .i64 ((t.shapes.length:Int)+2) (by simp [q3q,h0,Blk.k]) (by omega) (.inr (by simp [q5I,h0,finS]))
  have cut2:=q47 H 3 1 t.globals.length (.tup []) (.tup []) false .i64 ((t.globals.length:Int)+2) (by simp [q3q,h1,gB_k]) (by omega) (.inr (by rw[j08 _ _ _ _ _ h1];omega))
  have n0:=j2d t
  have n1:=j2c t
  have n2:nth (finS t) ((t.shapes.length+1:Nat):Int)=behS:=by rw[Int.natCast_add];exact n1
  have fl:=z8V t
  obtain⟨X0,r0⟩:=z6G false 2 t.globals (j:=0) (by omega)
  obtain⟨X1,r1⟩:=z6G false 2 t.globals (j:=1) (by omega)
  rw[Nat.add_zero] at r0
  have hia:=q4G (k:=3) (b:=1) (i:=0) (len:=t.globals.length+2) (n:=(t.globals.length:Int)) (gB_k false 2 t.globals) (by omega) (by omega)
  have hia':=q4G (k:=3) (b:=1) (i:=0) (len:=t.globals.length+2) (n:=(t.globals.length:Int)+1) (gB_k false 2 t.globals) (by omega) (by omega)
  have hfin:=hT.fin (zz:=((t.globals.length+2)==0)) (.inr (by simp))
  rw[←List.range_eq_range'] at hfin
  simp only[behS,behN] at n0 n1 n2
  simp only[behN] at r0 r1
  simp only[Int.natCast_zero] at hl
  clear hT hT0
  rw[show f16=⟨f16.body,f16.res,false⟩ from rfl,q5H]
  rw[show startS [.agg [.bsx 0 0 t.shapes.length,.bsx 1 0 t.globals.length]] (tblk false 2 t)=⟨[(0,.agg [.bsx 0 0 t.shapes.length,.bsx 1 0 t.globals.length])],H0,t.globals.length+2,[]⟩ by simp only[startS,hH,hln];rfl]
  simp only[hln]
  simp(disch:=first|decide|omega|(simp only[LN];first|done|omega)) only[f16,q0A,q0R,q0o,q0J,q0U,q2W,e_sl,q0s,beq_self_eq_true,q0m,q0P,mkBox,V.laid,V.cells,List.length_cons,List.length_nil,Nat.zero_add,Nat.reduceAdd,if_true,q10,q1u,Nat.reduceBEq,q0T,q1Y,q0y,q1Z,List.append_nil,q0Z,q0H,q6y,z7g,Option.isSome_some,q0z,Bool.and_self,q0p,q0x,q0d,q0i,q0r,q0f,List.nil_append,addBlks,hH1,q0I,q0F,q0E,q0k,q6z,e_ld,e_fa,evFa,Nat.add_zero,q1d,hb,q2d,q1i,List.getElem?_cons_zero,q2c,List.drop_zero,q3a,evLen,q00,q01,List.cons_append,j3N,q38,q8i,q4Q,evBin,intBin,q3U,z5V,cut1,q4W,List.drop_succ_cons,cut2,e_or,e_ia,z2U,h0,q5p,Int.toNat_natCast,q4h,n0,q0n,List.map_cons,mkd,D.flat,List.map_nil,j3M,strBin,decide_true,Bool.not_true,q6d,n2,z2A,Bool.or_self,h1,hia,r0,hia',r1,q3z,q3D,q3y,q1q,q0l,q0t,q1p,Nat.reduceEqDiff,q1F,if_false,q1e,hl,q3M,q4n,q7d,q0X,q1b,q1G,Option.map_some,q0b]
  unfold finish
  have hnd:(List.range (t.globals.length+2)).Nodup:=List.nodup_range
  simp only[Bool.false_eq_true,if_false,hnd,decide_true,List.take_of_length_le (show(List.range (t.globals.length+2)).length≤t.globals.length+2 by simp),Bool.and_self,if_true,hfin]
  rw[show finV (t.globals.length+2==0) (List.range (t.globals.length+2)) H (V.bool true)=some (V.bool true) from rfl]
  simp
end Go.Vm
end

section
namespace Go.Vm
set_option maxRecDepth 20000
open Go.Proofs
/- 'sloth/slothlaw17.turn' -/
def f17_L0:C:=
 (.seq
  (.seq
   (.reg [⟨[],[(22,(.bin .lss (.sl 4) (.len false (.ld 1 false (.fa 2 (.ia 3 (.ld 1 false (.fa 1 (.sl 1))) (.sl 3)))))))],[],none,[1,2,3,4],9,[],[],[]⟩])
   (.cond (.sl 22)
    .skip
    (.seq
     (.keep [1,2,3])
     (.exit 2))))
  (.seq
   (.block 3
    (.seq
     (.reg [⟨[],[(35,(.bin .eql (.ld 1 false (.fa 0 (.ia 3 (.ld 1 false (.fa 2 (.ia 3 (.ld 1 false (.fa 1 (.sl 1))) (.sl 3)))) (.sl 4)))) (.int .i64 3)))],[],none,[1,2,3,4],11,[],[],[]⟩])
     (.cond (.sl 35)
      (.reg [⟨[],[],[],some (none,.store 1 (.fa 1 (.ia 3 (.ld 1 false (.fa 2 (.ia 3 (.ld 1 false (.fa 1 (.sl 1))) (.sl 3)))) (.sl 4))) (.bin .xor (.ld 1 false (.fa 1 (.ia 3 (.ld 1 false (.fa 2 (.ia 3 (.ld 1 false (.fa 1 (.sl 1))) (.sl 3)))) (.sl 4)))) (.int .i64 1))),[1,2,3,4],21,[[],[0],[],[2,0,1],[1,0,2,3],[3,2,0,1,4],[],[],[7],[],[9,7,8],[8,7,9,10],[10,9,7,8,11],[],[13,11,8,7,9,10,12],[12,10,9,7,8,11,13,14],[14,13,11,8,7,9,10,12,15],[15,12,10,9,7,8,11,13,14,16],[17,16,15,14,13,12,11,10,9,8,7,6,4,1,0,2,3,5],[5,3,2,0,1,4,6,7,8,9,10,11,12,13,14,15,16,17,18],[18,17,16,15,14,13,12,11,10,9,8,7,6,4,1,0,2,3,5,19]],[],[]⟩])
      .skip)))
   (.reg [⟨[],[(4,(.bin .add (.sl 4) (.int .i64 1)))],[],none,[1,2,3],3,[],[],[]⟩])))
def f17_L1:C:=
 (.seq
  (.seq
   (.reg [⟨[],[(11,(.bin .lss (.sl 3) (.sl 2)))],[],none,[1,2,3],3,[],[],[]⟩])
   (.cond (.sl 11)
    .skip
    (.seq
     (.keep [1,2])
     (.exit 0))))
  (.seq
   (.block 1
    (.seq
     (.reg [⟨[],[(4,(.int .i64 0))],[],none,[1,2,3],1,[],[],[]⟩])
     (.block 2
      (.seq (.keep [1,2,3,4]) (.loop (.seq (.keep [1,2,3,4]) f17_L0))))))
   (.reg [⟨[],[(3,(.bin .add (.sl 3) (.int .i64 1)))],[],none,[1,2],3,[],[],[]⟩])))
def f17_L2:C:=
 (.seq
  (.seq
   (.reg [⟨[],[(58,(.bin .lss (.sl 5) (.sl 2)))],[],none,[1,2,5],3,[],[],[]⟩])
   (.cond (.sl 58)
    .skip
    (.seq
     (.keep [])
     (.exit 4))))
  (.seq
   (.block 5
    (.seq
     (.reg [⟨[],[(74,(.bin .eql (.ld 1 false (.fa 1 (.ia 3 (.ld 1 false (.fa 1 (.sl 1))) (.sl 5)))) (.ld 1 false (.fa 1 (.ia 3 (.ld 1 false (.fa 1 (.sl 1))) (.bin .sub (.sl 2) (.int .i64 1)))))))],[],none,[1,2,5],14,[[],[0],[],[2,0,1],[1,0,2,3],[3,2,0,1,4],[],[6],[],[8],[8,9,6,7],[7,6,9,8,10],[10,8,9,6,7,11],[11,7,6,9,8,10,12,4,1,0,2,3,5]],[],[]⟩])
     (.cond (.sl 74)
      (.seq
       (.reg [⟨[],[],[],some (none,.store 1 (.fa 2 (.ia 3 (.ld 1 false (.fa 1 (.sl 1))) (.sl 5))) (.ld 1 false (.fa 2 (.ia 3 (.ld 1 false (.fa 1 (.sl 1))) (.bin .sub (.sl 2) (.int .i64 1)))))),[],13,[[],[0],[],[],[3],[],[5],[5,6,3,4],[4,3,6,5,7],[7,5,6,3,4,8],[9,8,7,6,5,4,3,2,0,1],[1,0,2,3,4,5,6,7,8,9,10],[10,9,8,7,6,5,4,3,2,0,1,11]],[],[]⟩])
       (.seq
        (.keep [])
        .ret))
      .skip)))
   (.reg [⟨[],[(5,(.bin .add (.sl 5) (.int .i64 1)))],[],none,[1,2],3,[],[],[]⟩])))
def f17:Fun:=⟨
 (.seq
  (.reg [⟨[(1,.box (.sl 0))],[],[],none,[1],1,[],[],[]⟩])
  (.seq
   (.reg [⟨[],[(2,(.len false (.ld 1 false (.fa 1 (.sl 1)))))],[],none,[1],4,[],[],[]⟩])
   (.seq
    (.seq
     (.reg [⟨[],[(3,(.int .i64 0))],[],none,[1,2],1,[],[],[]⟩])
     (.block 0
      (.seq (.keep [1,2,3]) (.loop (.seq (.keep [1,2,3]) f17_L1)))))
    (.seq
     (.reg [⟨[],[(5,(.int .i64 0))],[],none,[1,2],1,[],[],[]⟩])
     (.block 4
      (.seq (.keep [1,2,5]) (.loop (.seq (.keep [1,2,5]) f17_L2)))))))),
 [],false⟩
theorem j1g (m:Nat):q09 Go.Proofs.Tryz.prog 17 m 1 f17=true:=by kernel_rfl
def q4N (x:Instr):Instr:=if x.op == 3 then ⟨x.op,bits .xor .i64 x.a 1,x.b⟩ else x
def q4m (g:Glob):Glob:=⟨g.name,g.arity,g.code.map q4N⟩
theorem q9G {α:Type} (l:List α) (i:Nat) (x:α):(l.set i x).drop (i+1)=l.drop (i+1):=by
  rw [List.drop_set];simp
theorem j0p (K:Cx) (t:Table) (ht:Sm t) (b i:Nat) (nx:Nat) (mv:List Nat) (z:Bool) (g:Glob) (hi:i < t.globals.length) (hg:nth t.globals i=g) (hbi:b≠2+i):∀ (k j:Nat) (H:List (Nat×Blk)) (rows:List Instr),j+k=g.code.length→
    look H b=some (.mix 2 [[.bsx 0 0 t.shapes.length,.bsx 1 0 t.globals.length]])→look H 1=some (gB z 2 t.globals)→look H (2+i)=some (.dat z 3 (rows.map q0C))→rows.length=g.code.length+2→
    rows.take j=(finI (g.code.map q4N)).take j→rows.drop j=(finI g.code).drop j→
    ∃ H',lpk K [1,2,3,4] f17_L0 ⟨[(1,.ptr b 0 0),(2,.d false (.int .i64 t.globals.length)),(3,.d false (.int .i64 i)),(4,.d false (.int .i64 j))],H,nx,mv⟩ =
      some (.exit 2,⟨[(1,.ptr b 0 0),(2,.d false (.int .i64 t.globals.length)),(3,.d false (.int .i64 i))],H',nx,mv⟩)∧
      look H' (2+i)=some (.dat z 3 ((finI (g.code.map q4N)).map q0C))∧∀ c,c≠2+i→look H' c=look H c:=by
  have hgl:=ht.gl
  have hm:g∈t.globals:=by rw [← hg,q2g,List.getD_eq_getElem?_getD,List.getElem?_eq_getElem hi];exact List.getElem_mem hi
  have hcl:=ht.cd g hm
  have fl:=q9B g.code
  have fl2:(finI (g.code.map q4N)).length=g.code.length+2:=by simp [finI]
  have hr:(gB z 2 t.globals).row? i=some (rowG (2+i,g)):=by rw [q6R hi,hg]
  have hia:=q4G (k:=3) (b:=1) (i:=0) (len:=t.globals.length) (n:=(i:Int)) (gB_k z 2 t.globals) (by omega) (by omega)
  simp only [rowG] at hr
  intro k
  induction k with
  | zero=>
    intro j H rows hj hb h1 hc hl htk hdr
    obtain rfl:j=g.code.length:=by omega
    have e:rows=finI (g.code.map q4N):=by
      rw [← List.take_append_drop g.code.length rows,htk,hdr]
      unfold finI
      rw [List.take_append_of_le_length (by simp),List.take_of_length_le (by simp),List.drop_append_of_le_length (Nat.le_refl _),List.drop_of_length_le (Nat.le_refl _)]
      rfl
    subst e
    refine ⟨H,?_,hc,fun _ _=>rfl⟩
    clear hdr htk
    rw [q1B f17_L0.eq_1]
    simp (disch:=first|decide|omega|(simp only [LN];first|done|omega)) only [SV,SW,Nat.reduceBEq,hb,h1,hia,hr,q0l,q0t,Nat.reduceEqDiff,q1H]
  | succ k ih=>
    intro j H rows hj hb h1 hc hl htk hdr
    have hj2:j < g.code.length:=by omega
    have hcode:g.code[j]? = some (nth g.code j):=q1o hj2
    have hx:(finI (g.code.map q4N))[j]? = some (q4N (nth g.code j)):=by
      unfold finI
      rw [List.getElem?_append_left (by simpa using hj2),List.getElem?_map,hcode];rfl
    have hrj:rows[j]? = some (nth g.code j):=by
      have:=congrArg (·[0]?) hdr
      simp only [List.getElem?_drop,Nat.add_zero] at this
      rw [this];unfold finI
      rw [List.getElem?_append_left hj2,hcode]
    have hn:nth rows (j:Int)=nth g.code j:=by
      rw [q2g,List.getD_eq_getElem?_getD,hrj];rfl
    have hd1:rows.drop (j+1)=(finI g.code).drop (j+1):=by
      have:=congrArg (List.drop 1) hdr
      simpa [List.drop_drop,Nat.add_comm] using this
    generalize hxx:nth g.code (j:Int)=x at *
    have hib:=q4G (k:=3) (b:=2+i) (i:=0) (len:=g.code.length) (n:=(j:Int)) (blk:=.dat z 3 (rows.map q0C)) rfl (by omega) (by omega)
    cases h3:x.op == 3 with
    | true=>
      have ef:q4N x=⟨x.op,bits .xor .i64 x.a 1,x.b⟩:=by unfold q4N;rw [h3];rfl
      obtain ⟨H',e1,e2,e3⟩:=ih (j+1) (put H (2+i) (.dat z 3 ((rows.set j (q4N x)).map q0C))) (rows.set j (q4N x)) (by omega) (by rw [q0e _ _ (Ne.symm hbi)];exact hb) (by rw [q0e _ _ (by omega)];exact h1)
        (q0Q _ _ _) (by simpa using hl) (q27 (by omega) htk (by omega) hx) (by rw [q9G];exact hd1)
      refine ⟨H',?_,e2,fun c hc=>by rw [e3 c hc,q0e _ _ (Ne.symm hc)]⟩
      rw [← e1,ef]
      clear e1 e2 e3 ih htk hdr hd1 hrj hx hcode hm
      rw [q1B f17_L0.eq_1]
      simp (disch:=first|decide|omega|(simp only [LN];first|done|omega)) only [SV,SW,Nat.reduceBEq,hb,h1,hia,hr,hc,hib,hn,q0h,h3,Nat.reduceAdd,z1T,lose,q12,q0t,Nat.reduceEqDiff]
      rfl
    | false=>
      have ef:q4N x=x:=by unfold q4N;rw [h3];rfl
      obtain ⟨H',e1,e2,e3⟩:=ih (j+1) H rows (by omega) hb h1 hc hl (by
        rw [List.take_add_one,List.take_add_one,htk,hrj,hx,ef]) hd1
      refine ⟨H',?_,e2,e3⟩
      rw [← e1]
      clear e1 e2 e3 ih htk hdr hd1 hrj hx hcode hm
      rw [q1B f17_L0.eq_1]
      simp (disch:=first|decide|omega|(simp only [LN];first|done|omega)) only [SV,SW,Nat.reduceBEq,hb,h1,hia,hr,hc,hib,hn,q0h,h3,q12,q0t,Nat.reduceEqDiff]
      rfl
theorem z0u:∀ (gs:List Glob) (p:Nat),(numG p (gs.map q4m)).map rowG=(numG p gs).map rowG
  | [],_=>rfl
  | g :: r,p=>by
    simp only [List.map_cons,numG,z0u r (p+1),List.cons.injEq,and_true]
    simp [rowG,q4m]
theorem z8z {gs:List Glob} {j:Nat} (h:j < gs.length):nth (gs.map q4m) (j:Int)=q4m (nth gs j):=by
  have h1:=q1o (l:=gs.map q4m) (j:=j) (by simpa using h)
  rw [List.getElem?_map,q1o h] at h1
  exact (Option.some.inj h1).symm
structure TF (H:List (Nat×Blk)) (z:Bool) (t:Table) (i:Nat):Prop where
  s:look H 0=some (.dat z 2 ((finS t).map q0g))
  g:look H 1=some (gB z 2 t.globals)
  c:∀ j,j < t.globals.length→look H (2+j)=some (cB z (if j < i then q4m (nth t.globals j) else nth t.globals j))
set_option maxHeartbeats 1000000 in
theorem j0o (K:Cx) (t:Table) (ht:Sm t) (b:Nat) (nx:Nat) (mv:List Nat) (z:Bool) (hb2:t.globals.length+2≤b):∀ (k i:Nat) (H:List (Nat×Blk)),i+k=t.globals.length→
    look H b=some (.mix 2 [[.bsx 0 0 t.shapes.length,.bsx 1 0 t.globals.length]])→TF H z t i→
    ∃ H',lpk K [1,2,3] f17_L1 ⟨[(1,.ptr b 0 0),(2,.d false (.int .i64 t.globals.length)),(3,.d false (.int .i64 i))],H,nx,mv⟩ =
      some (.exit 0,⟨[(1,.ptr b 0 0),(2,.d false (.int .i64 t.globals.length))],H',nx,mv⟩)∧look H' b=some (.mix 2 [[.bsx 0 0 t.shapes.length,.bsx 1 0 t.globals.length]])∧TF H' z t t.globals.length:=by
  have hgl:=ht.gl
  intro k
  induction k with
  | zero=>
    intro i H hi hb hF
    obtain rfl:i=t.globals.length:=by omega
    refine ⟨H,?_,hb,hF⟩
    clear hF
    rw [q1B f17_L1.eq_1]
    simp (disch:=first|decide|omega|(simp only [LN];first|done|omega)) only [SV,SW,Nat.reduceBEq,q0l,q0t,Nat.reduceEqDiff,q1H]
  | succ k ih=>
    intro i H hi hb hF
    have hi2:i < t.globals.length:=by omega
    have hc:=hF.c i hi2
    rw [if_neg (Nat.lt_irrefl i)] at hc
    obtain ⟨H1,e1,f1,fo⟩:=j0p K t ht b i nx mv z (nth t.globals i) hi2 rfl (by omega) (nth t.globals i).code.length 0 H (finI (nth t.globals i).code) (by omega) hb hF.g (by simpa [cB] using hc) (q9B _) (by simp) (by simp)
    obtain ⟨H',e2,g1,g2⟩:=ih (i+1) H1 (by omega) (by rw [fo b (by omega)];exact hb) ⟨by rw [fo 0 (by omega)];exact hF.s,by rw [fo 1 (by omega)];exact hF.g,fun j hj=>by
      by_cases hji:j=i
      · subst hji
        rw [f1,if_pos (by omega)];rfl
      · rw [fo _ (by omega),hF.c j hj]
        by_cases h:j < i
        · rw [if_pos h,if_pos (by omega)]
        · rw [if_neg h,if_neg (by omega)]⟩
    refine ⟨H',?_,g1,g2⟩
    rw [← e2]
    simp only [Int.natCast_zero] at e1
    clear ih hc fo f1 g1 g2 hF
    rw [q1B f17_L1.eq_1]
    simp (disch:=first|decide|omega|(simp only [LN];first|done|omega)) only [SV,SW,Nat.reduceBEq,q0l,q0t,Nat.reduceEqDiff,q1e,e1,q12]
    rfl
def z1I (t:Table):Int:=(nth t.globals ((t.globals.length:Int) - 1)).arity
def i0 (t:Table):Nat:=t.globals.findIdx fun g=>g.arity == z1I t
theorem z1H (t:Table) (h:t.globals≠[]):∃ m,t.globals.length=m+1∧z1I t=(nth t.globals (m:Int)).arity:=by
  have hl:=List.length_pos_iff.2 h
  refine ⟨t.globals.length - 1,by omega,?_⟩
  unfold z1I
  rw [show ((t.globals.length:Int) - 1)=((t.globals.length - 1:Nat):Int) by omega]
theorem z1O (t:Table) (h:t.globals≠[]):i0 t < t.globals.length:=by
  obtain ⟨m,h1,h2⟩:=z1H t h
  refine List.findIdx_lt_length_of_exists ⟨nth t.globals (m:Int),?_,by simp [h2]⟩
  have:=q1o (l:=t.globals) (j:=m) (by omega)
  exact List.mem_of_getElem? this
theorem i0_at (t:Table) (h:t.globals≠[]):((nth t.globals (i0 t:Int)).arity == z1I t)=true:=by
  have h1:=z1O t h
  have h2:=List.findIdx_getElem (xs:=t.globals) (p:=fun g=>g.arity == z1I t) (w:=by exact h1)
  have h3:=q1o h1
  rw [List.getElem?_eq_getElem h1] at h3
  rw [← Option.some.inj h3]
  exact h2
theorem i0_no (t:Table) {i:Nat} (h:i < i0 t) (hl:i < t.globals.length):((nth t.globals (i:Int)).arity == z1I t)=false:=by
  have h2:=List.not_of_lt_findIdx (xs:=t.globals) (p:=fun g=>g.arity == z1I t) h
  have h3:=q1o hl
  rw [List.getElem?_eq_getElem hl] at h3
  rw [← Option.some.inj h3]
  simpa using h2
def z1k (t:Table):Nat×Glob:=(2+(t.globals.length - 1),⟨(nth t.globals (i0 t:Int)).name,(nth t.globals (i0 t:Int)).arity,(nth t.globals ((t.globals.length:Int) - 1)).code.map q4N⟩)
def q5z (z:Bool) (t:Table):Blk:=if t.globals=[] then .dat z 3 [behD,behD] else .mix 3 ((((numG 2 (t.globals.map q4m)).set (i0 t) (z1k t)).map rowG)++[behG z,behG z])
theorem z8e (z:Bool) (t:Table) (h:t.globals≠[]):(gB z 2 t.globals).set (i0 t) 2 [.bsx (2+(t.globals.length - 1)) 0 (nth t.globals ((t.globals.length:Int) - 1)).code.length]=some (q5z z t):=by
  have h1:=z1O t h
  have hr:=q6R (z:=z) (p:=2) h1
  have hR:gB z 2 t.globals=.mix 3 ((numG 2 (t.globals.map q4m)).map rowG++[behG z,behG z]):=by rw [z0u];exact if_neg h
  rw [hR,q1i] at hr
  rw [hR]
  simp only [Blk.set,hr]
  unfold q5z
  rw [if_neg h,if_pos (by simp [rowG])]
  congr 2
  rw [List.set_append_left _ _ (by simpa [q2p] using h1),List.map_set]
  congr 2
  simp [splice,rowG,z1k]
set_option maxHeartbeats 1000000 in
theorem j0n (K:Cx) (t:Table) (ht:Sm t) (b:Nat) (H:List (Nat×Blk)) (nx:Nat) (mv:List Nat) (z:Bool) (hne:t.globals≠[]) (hb:look H b=some (.mix 2 [[.bsx 0 0 t.shapes.length,.bsx 1 0 t.globals.length]])) (h1:look H 1=some (gB z 2 t.globals)):∀ (k i:Nat),i+k=i0 t→
    lpk K [1,2,5] f17_L2 ⟨[(1,.ptr b 0 0),(2,.d false (.int .i64 t.globals.length)),(5,.d false (.int .i64 i))],H,nx,mv⟩=some (.ret,⟨[],put H 1 (q5z z t),nx,mv⟩):=by
  have hgl:=ht.gl
  have hlt:=z1O t hne
  obtain ⟨m,hm1,hm2⟩:=z1H t hne
  have hrm:(gB z 2 t.globals).row? m=some (rowG (2+m,nth t.globals (m:Int))):=q6R (by omega)
  have hjm:=q4G (k:=3) (b:=1) (i:=0) (len:=t.globals.length) (n:=(t.globals.length:Int) - 1) (gB_k z 2 t.globals) (by omega) (by omega)
  have hmi:((t.globals.length:Int) - 1).toNat=m:=by omega
  rw [hmi] at hjm
  simp only [rowG] at hrm
  intro k
  induction k with
  | zero=>
    intro i hi
    obtain rfl:i=i0 t:=by omega
    have hr:=q6R (z:=z) (p:=2) hlt
    have hia:=q4G (k:=3) (b:=1) (i:=0) (len:=t.globals.length) (n:=(i0 t:Int)) (gB_k z 2 t.globals) (by omega) (by omega)
    have hat:=i0_at t hne
    rw [hm2] at hat
    have hset:=z8e z t hne
    rw [show t.globals.length - 1=m by omega,show ((t.globals.length:Int) - 1)=(m:Int) by omega] at hset
    simp only [rowG] at hr
    rw [q1B f17_L2.eq_1]
    simp (disch:=first|decide|omega|(simp only [LN];first|done|omega)) only [SV,SW,Nat.reduceBEq,hb,h1,hia,hr,hjm,hrm,hat,hset,lose,q0l,q0t,z8F]
  | succ k ih=>
    intro i hi
    have ih:=ih (i+1) (by omega)
    have hr:=q6R (z:=z) (p:=2) (gs:=t.globals) (i:=i) (by omega)
    have hia:=q4G (k:=3) (b:=1) (i:=0) (len:=t.globals.length) (n:=(i:Int)) (gB_k z 2 t.globals) (by omega) (by omega)
    have hat:=i0_no t (i:=i) (by omega) (by omega)
    rw [hm2] at hat
    simp only [rowG] at hr
    rw [← ih]
    rw [q1B f17_L2.eq_1]
    simp (disch:=first|decide|omega|(simp only [LN];first|done|omega)) only [SV,SW,Nat.reduceBEq,hb,h1,hia,hr,hjm,hrm,hat,q12,q0t,Nat.reduceEqDiff]
    rfl
def q3X (t:Table):List Blk:=.dat false 2 ((finS t).map q0g) :: q5z false t :: (t.globals.map q4m).map (cB false)
theorem j0W {α:Type} {f:α→Option α} {l:List α} (h:∀ x∈l,f x=some x):mapO f l=some l:=
  q7O rfl fun j x hx=>by rw [h x (List.mem_of_getElem? hx),hx]
theorem q68:∀ (gs:List Glob) (p:Nat) (q:Nat×Glob),q∈numG p gs→p≤q.1∧q.1 < p+gs.length
  | g :: r,p,q,h=>by
    simp only [numG,List.mem_cons] at h
    rcases h with rfl | h
    · simp
    · have:=q68 r (p+1) q h
      simp only [List.length_cons];omega
theorem z8g {H:List (Nat×Blk)} {zz:Bool} {t:Table} (hz:zz=false) (h0:look H 0=some (.dat false 2 ((finS t).map q0g))) (h1:look H 1=some (q5z false t)) (hc:∀ j,j < t.globals.length→look H (2+j)=some (cB false (q4m (nth t.globals j)))) :
    mapO (finB zz (List.range' 0 (t.globals.length+2)) H) (List.range' 0 (t.globals.length+2))=some (q3X t):=by
  subst hz
  have ez:∀ b,(false || (false && b))=false:=fun b=>rfl
  refine q7O (by simp [q3X]) fun j b hb=>?_
  obtain ⟨hj,rfl⟩:=j0H _ _ _ _ hb
  match j,hj with
  | 0,_=>simp only [finB,Nat.add_zero,h0];rfl
  | 1,_=>
    show finB _ _ _ _=some (q5z false t)
    simp only [finB,Nat.zero_add,h1]
    by_cases hg:t.globals=[]
    · simp only [q5z,if_pos hg,Bool.false_and,Bool.or_false]
    · simp only [q5z,if_neg hg]
      rw [q7N (t':=[]) (t2:=[behG false,behG false]) rfl (j0W fun r hr=>?_)]
      · rfl
      · obtain ⟨q,hq,rfl⟩:=List.mem_map.1 hr
        have hl:=z1O t hg
        have hq1:2≤q.1∧q.1 < t.globals.length+2:=by
          rcases List.mem_or_eq_of_mem_set hq with hq | rfl
          · have:=q68 _ _ q hq
            simp only [List.length_map] at this;omega
          · simp only [z1k];omega
        exact z6M (q:=q.1) (g:=q.2) (by rw [q2O,decide_eq_true_eq];omega) (by have:=z1x (p:=0) (m:=t.globals.length+2) (j:=q.1) (by omega);rwa [Nat.zero_add] at this)
  | j+2,hj=>
    rw [show 0+(j+2)=2+j by omega]
    simp only [finB,hc j (by omega),cB,Bool.false_and,Bool.or_false]
    simp only [q3X,List.getElem?_cons_succ,List.getElem?_map,q1o (show j < t.globals.length by omega),Option.map_some,cB]
set_option maxHeartbeats 1000000 in
theorem z8f (K:Cx) (t:Table) (ht:Sm t):q0B K f17 [.agg [.bsx 0 0 t.shapes.length,.bsx 1 0 t.globals.length]] (tblk false 2 t)=some (.tup [],q3X t,[]):=by
  have hs:=ht.sh
  have hgl:=ht.gl
  have hT0:=q8J t false
  have hln:=q1P false 2 t
  generalize hH:indexed (tblk false 2 t)=H0 at hT0
  have hT:TB ((t.globals.length+2,.mix 2 [[.bsx 0 0 t.shapes.length,.bsx 1 0 t.globals.length]]) :: H0) 0 false t:=hT0.mono fun b _ hb=>q4j _ _ (by omega)
  have hb:look ((t.globals.length+2,Blk.mix 2 [[.bsx 0 0 t.shapes.length,.bsx 1 0 t.globals.length]]) :: H0) (t.globals.length+2)=some (.mix 2 [[.bsx 0 0 t.shapes.length,.bsx 1 0 t.globals.length]]):=q9t _ _ _
  generalize hH1:(t.globals.length+2,Blk.mix 2 [[.bsx 0 0 t.shapes.length,.bsx 1 0 t.globals.length]]) :: H0=H at hT hb
  have hnd:(List.range (t.globals.length+2)).Nodup:=List.nodup_range
  obtain ⟨H1,e1,hb1,hF⟩:=j0o K t ht (t.globals.length+2) (t.globals.length+2+1) [] false (Nat.le_refl _) t.globals.length 0 H (by omega) hb
    ⟨hT.s,hT.g,fun j hj=>by have:=hT.c j hj;rw [if_neg (by omega)];rw [show 2+j=0+2+j by omega];exact this⟩
  have hend:∀ (e:Ex) (H2:List (Nat×Blk)) (ρ),look H2 0=some (.dat false 2 ((finS t).map q0g))→look H2 1=some (q5z false t)→(∀ j,j < t.globals.length→look H2 (2+j)=some (cB false (q4m (nth t.globals j))))→
      finish (t.globals.length+2) false ⟨ρ,H2,t.globals.length+2+1,[]⟩ (.tup [])=some (.tup [],q3X t,[]):=by
    intro e H2 ρ g0 g1 gc
    have hfin:=z8g (zz:=((t.globals.length+2) == 0)) (by simp) g0 g1 gc
    rw [← List.range_eq_range'] at hfin
    unfold finish
    simp only [Bool.false_eq_true,if_false,hnd,decide_true,List.take_of_length_le (show (List.range (t.globals.length+2)).length≤t.globals.length+2 by simp),Bool.and_self,if_true,hfin]
    rw [show finV (t.globals.length+2 == 0) (List.range (t.globals.length+2)) H2 (V.tup [])=some (V.tup []) from rfl]
    simp
  rw [show f17=⟨f17.body,f17.res,false⟩ from rfl,q5H]
  rw [show startS [.agg [.bsx 0 0 t.shapes.length,.bsx 1 0 t.globals.length]] (tblk false 2 t)=⟨[(0,.agg [.bsx 0 0 t.shapes.length,.bsx 1 0 t.globals.length])],H0,t.globals.length+2,[]⟩ by simp only [startS,hH,hln];rfl]
  simp only [hln]
  simp only [Int.natCast_zero] at e1
  have hcF:∀ j,j < t.globals.length→look H1 (2+j)=some (cB false (q4m (nth t.globals j))):=fun j hj=>by rw [hF.c j hj,if_pos hj]
  have g0:=hF.s
  have g1:=hF.g
  clear hT hT0 hF
  by_cases hne:t.globals=[]
  · have hl0:t.globals.length=0:=by rw [hne];rfl
    have hw:q5z false t=gB false 2 t.globals:=by unfold q5z gB;rw [if_pos hne,if_pos hne]
    have he:=hend .nrm H1 [] g0 (by rw [hw];exact g1) hcF
    clear hcF hend
    have el:lpk K [1,2,5] f17_L2 ⟨[(1,.ptr (t.globals.length+2) 0 0),(2,.d false (.int .i64 t.globals.length)),(5,.d false (.int .i64 0))],H1,t.globals.length+2+1,[]⟩=some (.exit 4,⟨[],H1,t.globals.length+2+1,[]⟩):=by
      rw [q1B f17_L2.eq_1]
      simp (disch:=first|decide|omega|(simp only [LN];first|done|omega)) only [SV,SW,Nat.reduceBEq,q0l,q0t,q1H]
    simp (disch:=first|decide|omega|(simp only [LN];first|done|omega)) only [f17,q0A,q0R,q0o,q0J,q0U,q2W,e_sl,q0s,beq_self_eq_true,q0m,q0P,mkBox,V.laid,V.cells,List.length_cons,List.length_nil,Nat.zero_add,Nat.reduceAdd,if_true,q10,q1u,Nat.reduceBEq,q0T,q1Y,q0y,q1Z,List.append_nil,q0Z,q0H,q0z,q0p,q0x,q0d,q0i,q0r,q0f,List.nil_append,addBlks,hH1,q0I,q0F,q0E,q0k,q6z,e_ld,e_fa,evFa,q1d,hb,q2d,q1i,List.getElem?_cons_zero,q2c,List.drop_succ_cons,List.drop_zero,q3a,evLen,q00,q01,List.cons_append,q4Q,q1q,q0l,q0t,q1p,Nat.reduceEqDiff,q1F,if_false,q1e,e1,q3M,el,z9m,q1b,Option.map_some,q0b]
    exact he
  · have el:=j0n K t ht (t.globals.length+2) H1 (t.globals.length+2+1) [] false hne hb1 g1 (i0 t) 0 (by omega)
    have he:=hend .ret (put H1 1 (q5z false t)) [] (by rw [q0e _ _ (by omega)];exact g0) (q0Q _ _ _) (fun j hj=>by rw [q0e _ _ (by omega)];exact hcF j hj)
    simp only [Int.natCast_zero] at el
    clear hcF hend
    simp (disch:=first|decide|omega|(simp only [LN];first|done|omega)) only [f17,q0A,q0R,q0o,q0J,q0U,q2W,e_sl,q0s,beq_self_eq_true,q0m,q0P,mkBox,V.laid,V.cells,List.length_cons,List.length_nil,Nat.zero_add,Nat.reduceAdd,if_true,q10,q1u,Nat.reduceBEq,q0T,q1Y,q0y,q1Z,List.append_nil,q0Z,q0H,q0z,q0p,q0x,q0d,q0i,q0r,q0f,List.nil_append,addBlks,hH1,q0I,q0F,q0E,q0k,q6z,e_ld,e_fa,evFa,q1d,hb,q2d,q1i,List.getElem?_cons_zero,q2c,List.drop_succ_cons,List.drop_zero,q3a,evLen,q00,q01,List.cons_append,q4Q,q1q,q0l,q0t,q1p,Nat.reduceEqDiff,q1F,if_false,q1e,e1,q3M,el,z2g,q7d,q1b,Option.map_some,q0b]
    exact he
end Go.Vm
end

section
namespace Go.Vm
set_option maxRecDepth 20000
open Go.Proofs
def h2(a b:Table):List (Nat×Blk):=[(0,.mix 2 [tabV a]),(1,.mix 2 [tabV b])]
def noV:Ex×S:=(.ret,⟨[(4,.d false (.bool false))],[],0,[]⟩)
def y0(a b:Table)(r:Bool):Ex×S:=if r then(.exit 0,⟨[(2,.ptr 0 0 0),(3,.ptr 1 0 0)],h2 a b,2,[]⟩) else noV
theorem y0_t(a b):y0 a b true=(.exit 0,⟨[(2,.ptr 0 0 0),(3,.ptr 1 0 0)],h2 a b,2,[]⟩):=rfl
theorem y0_f(a b):y0 a b false=(.ret,⟨[(4,.d false (.bool false))],[],0,[]⟩):=rfl
structure Big(a:Table):Prop where
 sh:(a.shapes.length:Int)≤9223372036854775807
 gl:(a.globals.length:Int)≤9223372036854775807
 cd:∀ g∈a.globals,(g.code.length:Int)≤9223372036854775807
theorem j0C(K:Cx)(a b:Table)(ha:Big a)(hab:a.shapes.length=b.shapes.length):∀(k i:Nat),i+k=a.shapes.length→
  lp K 0 [2,3,5] f15_L0 ⟨[(2,.ptr 0 0 0),(3,.ptr 1 0 0),(5,.d false (.int .i64 i))],h2 a b,2,[]⟩=some (y0 a b (decide (a.shapes.drop i=b.shapes.drop i))):=by
 have hl:=ha.sh
 intro k
 induction k with
 |zero=>
  intro i hi
  rw[q0K f15_L0.eq_1,List.drop_of_length_le (by omega),List.drop_of_length_le (by omega)]
  simp only[decide_true,y0_t,h2,tabV]
  simp(disch:=first|decide|omega|(simp only[LN];first|done|omega)) only[SV,SW,Nat.reduceBEq,reduceCtorEq,Nat.reduceAdd]
 |succ k ih=>
  intro i hi
  have hcast:((i+1:Nat):Int)=(i:Int)+1:=by omega
  have ih:=ih (i+1) (by omega)
  rw[hcast] at ih
  rw[q0K f15_L0.eq_1,q0O (by omega:i<a.shapes.length),q0O (by omega:i<b.shapes.length)]
  generalize hx:nth a.shapes (i:Int)=x
  generalize hy:nth b.shapes (i:Int)=y
  by_cases e:x=y
  ·subst e
   rw[show decide (x :: a.shapes.drop (i+1)=x :: b.shapes.drop (i+1))=decide (a.shapes.drop (i+1)=b.shapes.drop (i+1)) by simp]
   simp only[h2,tabV] at ih ⊢
   simp(disch:=first|decide|omega|(simp only[LN];first|done|omega)) only[SV,SW,Nat.reduceBEq,hx,q0n,Nat.reduceAdd,hy,q2H,q02,q1l,reduceCtorEq]
   exact ih
  ·have hd:decide (x :: a.shapes.drop (i+1)=y :: b.shapes.drop (i+1))=false:=by simp [e]
   rw[hd,y0_f]
   clear ih
   simp only[h2,tabV]
   by_cases e1:x.name=y.name
   ·have e2:(x.fields==y.fields)=false:=by
     simp only[beq_eq_false_iff_ne];intro e3;apply e;cases x;cases y;simp_all
    clear e
    simp(disch:=first|decide|omega|(simp only[LN];first|done|omega)) only[SV,SW,Nat.reduceBEq,hx,q0n,e1,Nat.reduceAdd,hy,q2H,q02,q1l,e2]
   ·clear e
    simp(disch:=first|decide|omega|(simp only[LN];first|done|omega)) only[SV,SW,Nat.reduceBEq,hx,q0n,Nat.reduceAdd,hy,q2H,q02,q1l,e1]
def h4(a b:Table)(g h:Glob):List (Nat×Blk):=[(0,.mix 2 [tabV a]),(1,.mix 2 [tabV b]),(2,.mix 3 [[.d false (.str g.name),.d false (.int .i64 g.arity),.d false (.sl 3 (g.code.map q0C))]]),(3,.mix 3 [[.d false (.str h.name),.d false (.int .i64 h.arity),.d false (.sl 3 (h.code.map q0C))]])]
def y1(a b:Table)(j:Nat)(r:Bool):Ex×S:=if r then(.exit 4,⟨[(2,.ptr 0 0 0),(3,.ptr 1 0 0),(6,.d false (.int .i64 j))],h2 a b,2,[]⟩) else noV
theorem y1_t(a b j):y1 a b j true=(.exit 4,⟨[(2,.ptr 0 0 0),(3,.ptr 1 0 0),(6,.d false (.int .i64 j))],h2 a b,2,[]⟩):=rfl
theorem y1_f(a b j):y1 a b j false=(.ret,⟨[(4,.d false (.bool false))],[],0,[]⟩):=rfl
theorem j0B(K:Cx)(a b:Table)(g h:Glob)(hgh:g.code.length=h.code.length)(hl:(g.code.length:Int)≤9223372036854775807)(j:Nat):∀(k i:Nat),i+k=g.code.length→
  lp K 0 [2,3,6,7,8,9] f15_L1 ⟨[(2,.ptr 0 0 0),(3,.ptr 1 0 0),(6,.d false (.int .i64 j)),(7,.ptr 2 0 0),(8,.ptr 3 0 0),(9,.d false (.int .i64 i))],h4 a b g h,4,[]⟩=some (y1 a b j (decide (g.code.drop i=h.code.drop i))):=by
 intro k
 induction k with
 |zero=>
  intro i hi
  rw[q0K f15_L1.eq_1,List.drop_of_length_le (by omega),List.drop_of_length_le (by omega)]
  simp only[decide_true,y1_t,h4,h2,tabV]
  simp(disch:=first|decide|omega|(simp only[LN];first|done|omega)) only[SV,SW,Nat.reduceBEq,reduceCtorEq,Nat.reduceAdd]
 |succ k ih=>
  intro i hi
  have hcast:((i+1:Nat):Int)=(i:Int)+1:=by omega
  have ih:=ih (i+1) (by omega)
  rw[hcast] at ih
  rw[q0K f15_L1.eq_1,q0O (by omega:i<g.code.length),q0O (by omega:i<h.code.length)]
  generalize hx:nth g.code (i:Int)=x
  generalize hy:nth h.code (i:Int)=y
  by_cases e:x=y
  ·subst e
   rw[show decide (x :: g.code.drop (i+1)=x :: h.code.drop (i+1))=decide (g.code.drop (i+1)=h.code.drop (i+1)) by simp]
   simp only[h4,h2,tabV] at ih ⊢
   simp(disch:=first|decide|omega|(simp only[LN];first|done|omega)) only[SV,SW,Nat.reduceBEq,hx,q0h,Nat.reduceAdd,hy,q2H,q02,q1l,reduceCtorEq,Nat.reduceEqDiff]
   exact ih
  ·have hd:decide (x :: g.code.drop (i+1)=y :: h.code.drop (i+1))=false:=by simp [e]
   rw[hd,y1_f]
   clear ih
   simp only[h4,h2,tabV]
   by_cases e1:x.op=y.op
   ·by_cases e2:x.a=y.a
    ·have e3:(x.b==y.b)=false:=by
      simp only[beq_eq_false_iff_ne];intro e3;apply e;cases x;cases y;simp_all
     have e2:(x.a==y.a)=true:=by simpa using e2
     have e1:(x.op==y.op)=true:=by simpa using e1
     clear e
     simp(disch:=first|decide|omega|(simp only[LN];first|done|omega)) only[SV,SW,Nat.reduceBEq,hx,q0h,Nat.reduceAdd,hy,q2H,q02,q1l,e1,e2,e3]
    ·have e2:(x.a==y.a)=false:=by simpa using e2
     have e1:(x.op==y.op)=true:=by simpa using e1
     clear e
     simp(disch:=first|decide|omega|(simp only[LN];first|done|omega)) only[SV,SW,Nat.reduceBEq,hx,q0h,Nat.reduceAdd,hy,q2H,q02,q1l,e1,e2]
   ·have e1:(x.op==y.op)=false:=by simpa using e1
    clear e
    simp(disch:=first|decide|omega|(simp only[LN];first|done|omega)) only[SV,SW,Nat.reduceBEq,hx,q0h,Nat.reduceAdd,hy,q2H,q02,q1l,e1]
def y2(r:Bool):Ex×S:=if r then(.exit 2,⟨[],[],0,[]⟩) else noV
theorem y2_t:y2 true=(.exit 2,⟨[],[],0,[]⟩):=rfl
theorem y2_f:y2 false=(.ret,⟨[(4,.d false (.bool false))],[],0,[]⟩):=rfl
set_option maxHeartbeats 1000000 in
theorem j0A(K:Cx)(a b:Table)(ha:Big a)(hab:a.globals.length=b.globals.length):∀(k i:Nat),i+k=a.globals.length→
  lp K 0 [2,3,6] f15_L2 ⟨[(2,.ptr 0 0 0),(3,.ptr 1 0 0),(6,.d false (.int .i64 i))],h2 a b,2,[]⟩=some (y2 (decide (a.globals.drop i=b.globals.drop i))):=by
 have hl:=ha.gl
 intro k
 induction k with
 |zero=>
  intro i hi
  rw[q0K f15_L2.eq_1,List.drop_of_length_le (by omega),List.drop_of_length_le (by omega)]
  simp only[decide_true,y2_t,h2,tabV]
  simp(disch:=first|decide|omega|(simp only[LN];first|done|omega)) only[SV,SW,Nat.reduceBEq]
 |succ k ih=>
  intro i hi
  have hcast:((i+1:Nat):Int)=(i:Int)+1:=by omega
  have ih:=ih (i+1) (by omega)
  rw[hcast] at ih
  rw[q0K f15_L2.eq_1,q0O (by omega:i<a.globals.length),q0O (by omega:i<b.globals.length)]
  have hmem:nth a.globals (i:Int)∈a.globals:=List.mem_of_getElem? (q1o (by omega))
  generalize hx:nth a.globals (i:Int)=x at *
  generalize hy:nth b.globals (i:Int)=y
  have hcd:=ha.cd x hmem
  clear hmem
  by_cases e0:x.name=y.name
  ·have d0:decide (x.name=y.name)=true:=decide_eq_true e0
   by_cases e1:x.arity=y.arity
   ·have e1':(x.arity==y.arity)=true:=by simpa using e1
    have n1:(x.arity != y.arity)=false:=by simp [e1]
    by_cases e2:x.code.length=y.code.length
    ·have n2:((x.code.length:Int) != (y.code.length:Int))=false:=by simp [e2]
     have l1:=j0B K a b x y e2 hcd i x.code.length 0 (by omega)
     simp only[Int.natCast_zero,List.drop_zero] at l1
     have e2':=e2
     clear e2
     by_cases e3:x.code=y.code
     ·have e:x=y:=by cases x;cases y;simp_all
      rw[show decide (x :: a.globals.drop (i+1)=y :: b.globals.drop (i+1))=decide (a.globals.drop (i+1)=b.globals.drop (i+1)) by simp [e]]
      rw[decide_eq_true e3,y1_t] at l1
      clear e e1 e2' e0
      simp only[h4,h2,tabV] at ih l1 ⊢
      simp(disch:=first|decide|omega|(simp only[LN];first|done|omega)) only[SV,SW,Nat.reduceBEq,Nat.reduceAdd,hx,q0D,lose,hy,d0,n1,n2,reduceCtorEq,Nat.reduceEqDiff,l1]
      exact ih
     ·have hd:decide (x :: a.globals.drop (i+1)=y :: b.globals.drop (i+1))=false:=by
       simp only[decide_eq_false_iff_not,List.cons.injEq,not_and];intro e;exact absurd (by rw[e]) e3
      rw[hd,y2_f]
      rw[decide_eq_false e3,y1_f] at l1
      clear e1 e2' ih e3 hd e0
      simp only[h4,h2,tabV] at l1 ⊢
      simp(disch:=first|decide|omega|(simp only[LN];first|done|omega)) only[SV,SW,Nat.reduceBEq,Nat.reduceAdd,hx,q0D,lose,hy,d0,n1,n2,reduceCtorEq,Nat.reduceEqDiff,l1]
    ·have hd:decide (x :: a.globals.drop (i+1)=y :: b.globals.drop (i+1))=false:=by
      simp only[decide_eq_false_iff_not,List.cons.injEq,not_and];intro e;exact absurd (by rw[e]) e2
     have n2:((x.code.length:Int) != (y.code.length:Int))=true:=by simp;omega
     rw[hd,y2_f]
     clear e1 e2 ih hd e0
     simp only[h2,tabV]
     simp(disch:=first|decide|omega|(simp only[LN];first|done|omega)) only[SV,SW,Nat.reduceBEq,Nat.reduceAdd,hx,q0D,lose,hy,d0,n1,n2]
   ·have hd:decide (x :: a.globals.drop (i+1)=y :: b.globals.drop (i+1))=false:=by
     simp only[decide_eq_false_iff_not,List.cons.injEq,not_and];intro e;exact absurd (by rw[e]) e1
    have n1:(x.arity != y.arity)=true:=by simp [e1]
    rw[hd,y2_f]
    clear e1 ih hd e0
    simp only[h2,tabV]
    simp(disch:=first|decide|omega|(simp only[LN];first|done|omega)) only[SV,SW,Nat.reduceBEq,Nat.reduceAdd,hx,q0D,lose,hy,d0,n1]
  ·have hd:decide (x :: a.globals.drop (i+1)=y :: b.globals.drop (i+1))=false:=by
    simp only[decide_eq_false_iff_not,List.cons.injEq,not_and];intro e;exact absurd (by rw[e]) e0
   have d0:decide (x.name=y.name)=false:=decide_eq_false e0
   rw[hd,y2_f]
   clear ih hd e0
   simp only[h2,tabV]
   simp(disch:=first|decide|omega|(simp only[LN];first|done|omega)) only[SV,SW,Nat.reduceBEq,Nat.reduceAdd,hx,q0D,lose,hy,d0]
set_option maxHeartbeats 1000000 in
theorem j1q(K:Cx)(a b:Table)(ha:Big a)(hb:Big b):q0B K f15 [.agg (tabV a),.agg (tabV b)] []=some (.d false (.bool (decide (a=b))),[],[]):=by
 have hne:∀ {x y:Bool},a≠b→decide (a=b)=false:=fun h=>decide_eq_false h
 have b1:=hb.sh
 have b2:=hb.gl
 by_cases hs:a.shapes.length=b.shapes.length
 ·by_cases hg:a.globals.length=b.globals.length
  ·have n1:((a.shapes.length:Int) != (b.shapes.length:Int))=false:=by simp [hs]
   have n2:((a.globals.length:Int) != (b.globals.length:Int))=false:=by simp [hg]
   have l0:=j0C K a b ha hs a.shapes.length 0 (by omega)
   have l2:=j0A K a b ha hg a.globals.length 0 (by omega)
   simp only[Int.natCast_zero,List.drop_zero] at l0 l2
   by_cases e1:a.shapes=b.shapes
   ·rw[decide_eq_true e1,y0_t] at l0
    by_cases e2:a.globals=b.globals
    ·rw[decide_eq_true e2,y2_t] at l2
     rw[show decide (a=b)=true from decide_eq_true (by cases a;cases b;simp_all)]
     clear hs hg e1 e2
     simp only[h2,tabV] at l0 l2 ⊢
     simp(disch:=first|decide|omega|(simp only[LN];first|done|omega)) only[SV,SW,f15,Nat.reduceAdd,Nat.reduceBEq,n1,n2,reduceCtorEq,l0,l2,q0b]
    ·rw[decide_eq_false e2,y2_f] at l2
     rw[show decide (a=b)=false from decide_eq_false (fun h=>e2 (by rw[h]))]
     clear hs hg e1 e2
     simp only[h2,tabV] at l0 l2 ⊢
     simp(disch:=first|decide|omega|(simp only[LN];first|done|omega)) only[SV,SW,f15,Nat.reduceAdd,Nat.reduceBEq,n1,n2,reduceCtorEq,l0,l2,q0b]
   ·rw[decide_eq_false e1,y0_f] at l0
    rw[show decide (a=b)=false from decide_eq_false (fun h=>e1 (by rw[h]))]
    clear hs hg e1 l2
    simp only[h2,tabV] at l0 ⊢
    simp(disch:=first|decide|omega|(simp only[LN];first|done|omega)) only[SV,SW,f15,Nat.reduceAdd,Nat.reduceBEq,n1,n2,reduceCtorEq,l0,q0b]
  ·have n2:((a.globals.length:Int) != (b.globals.length:Int))=true:=by simp;omega
   rw[show decide (a=b)=false from decide_eq_false (fun h=>hg (by rw[h]))]
   have n1:((a.shapes.length:Int) != (b.shapes.length:Int))=false:=by simp [hs]
   clear hs hg
   simp only[tabV]
   simp(disch:=first|decide|omega|(simp only[LN];first|done|omega)) only[SV,SW,f15,Nat.reduceAdd,Nat.reduceBEq,n1,n2,q0b]
 ·have n1:((a.shapes.length:Int) != (b.shapes.length:Int))=true:=by simp;omega
  rw[show decide (a=b)=false from decide_eq_false (fun h=>hs (by rw[h]))]
  clear hs
  simp only[tabV]
  simp(disch:=first|decide|omega|(simp only[LN];first|done|omega)) only[SV,SW,f15,Nat.reduceAdd,Nat.reduceBEq,n1,q0b]
end Go.Vm
end

section
namespace Go.Vm
set_option maxRecDepth 20000
open Go.Proofs
def gL(z:Bool)(L:Gl):Blk:=if L=[] then .dat z 3 [behD,behD] else .mix 3 (L.map rowG++[behG z,behG z])
theorem z8y{p:Nat}{gs:List Glob}:numG p gs=[]↔gs=[]:=by
 cases gs <;> simp [numG]
theorem gB_L(z p gs):gB z p gs=gL z (numG p gs):=by
 unfold gB gL;simp only[z8y]
theorem q9n:∀(gs:List Glob)(p:Nat),(numG p gs).map (·.2)=gs
 |[],_=>rfl
 |g :: r,p=>by simp only[numG,List.map_cons,q9n r]
def q8x(p:Nat)(t:Table):Gl:=if t.globals=[] then [] else(numG p (t.globals.map q4m)).set (i0 t) (p+(t.globals.length - 1),(z1k t).2)
def q3W(t:Table):Table:=⟨t.shapes,(q8x 2 t).map (·.2)⟩
theorem q93(p:Nat)(t:Table):(q8x p t).length=t.globals.length:=by
 unfold q8x
 split
 ·rename_i h;simp [h]
 ·simp [q2p]
theorem j0q(z t):q5z z t=gL z (q8x 2 t):=by
 unfold q5z q8x gL
 by_cases h:t.globals=[]
 ·simp only[if_pos h,if_true]
 ·have:¬((numG 2 (t.globals.map q4m)).set (i0 t) (2+(t.globals.length - 1),(z1k t).2)=[]):=by
   intro e
   have:=congrArg List.length e
   simp [q2p] at this
   exact h this
  simp only[if_neg h,if_neg this]
  rfl
theorem z8c{H:List (Nat×Blk)}{z:Bool}{q:Nat×Glob}(h:look H q.1=some (cB z q.2)):mapO (q0c 5 H) (rowG q)=some (q0G q.2):=by
 have e:q0c 5 H (.bsx q.1 0 q.2.code.length)=some (.sl 3 (q.2.code.map q0C)):=by
  simp only[q0c,h,cB]
  rw[if_pos (by simp [finI])]
  congr 2
  rw[List.drop_zero,←List.map_take]
  unfold finI
  rw[List.take_append_of_le_length (Nat.le_refl _),List.take_length]
 simp only[rowG,mapO,e]
 rfl
theorem q90{H:List (Nat×Blk)}{z:Bool}:∀(L:Gl),(∀ q∈L,look H q.1=some (cB z q.2))→mapO (fun r:List V=>mapO (q0c 5 H) r) (L.map rowG)=some (L.map fun q=>q0G q.2)
 |[],_=>rfl
 |q :: L,h=>by
  simp only[List.map_cons,mapO,z8c (h q (by simp)),q90 L fun q hq=>h q (by simp [hq])]
theorem z9J{H:List (Nat×Blk)}{b:Nat}{z:Bool}{L:Gl}(hg:look H b=some (gL z L))(hL:∀ q∈L,look H q.1=some (cB z q.2)):q0c 6 H (.bsx b 0 L.length)=some (.sl 3 (L.map fun q=>q0G q.2)):=by
 unfold gL at hg
 by_cases h:L=[]
 ·subst h
  rw[if_pos rfl] at hg
  simp only[q0c,hg];rfl
 ·rw[if_neg h] at hg
  simp only[q0c,hg]
  rw[if_pos (by simp),List.drop_zero,List.take_append_of_le_length (by simp),List.take_of_length_le (by simp),q90 L hL]
  rfl
theorem z9I{H:List (Nat×Blk)}{b:Nat}{z:Bool}{t:Table}(h:look H b=some (.dat z 2 ((finS t).map q0g))):q0c 6 H (.bsx b 0 t.shapes.length)=some (.sl 2 (t.shapes.map q0g)):=by
 simp only[q0c,h]
 rw[if_pos (by simp [finS])]
 congr 2
 rw[List.drop_zero,←List.map_take]
 unfold finS
 rw[List.take_append_of_le_length (Nat.le_refl _),List.take_length]
theorem j2b{H:List (Nat×Blk)}{z:Bool}{p:Nat}{gs:List Glob}(h:∀ j,j<gs.length→look H (p+j)=some (cB z (nth gs j))):∀ q∈numG p gs,look H q.1=some (cB z q.2):=by
 intro q hq
 obtain⟨j,hj⟩:=List.getElem?_of_mem hq
 rw[q5M] at hj
 have hl:j<gs.length:=by
  rcases Nat.lt_or_ge j gs.length with h|h
  ·exact h
  ·rw[List.getElem?_eq_none h] at hj;cases hj
 rw[q1o hl] at hj
 obtain rfl:=Option.some.inj hj
 exact h j hl
theorem TB.view{H:List (Nat×Blk)}{p:Nat}{z:Bool}{t:Table}(h:TB H p z t):q0c 6 H (.bsx p 0 t.shapes.length)=some (.sl 2 (t.shapes.map q0g))∧q0c 6 H (.bsx (p+1) 0 t.globals.length)=some (.sl 3 (t.globals.map q0G)):=by
 refine⟨z9I h.s,?_⟩
 have hg:=h.g
 rw[gB_L] at hg
 have:=z9J hg (j2b h.c)
 rw[q2p] at this
 rw[this]
 congr 2
 conv=>rhs;rw[←q9n t.globals (p+2)]
 rw[List.map_map];rfl
theorem z8q(g:Nat→Nat)(L:Gl):(L.map rowG).map (renL g)=(L.map fun q=>(g q.1,q.2)).map rowG:=by
 rw[List.map_map,List.map_map];rfl
theorem z6E(g:Nat→Nat)(z:Bool)(L:Gl):(gL z L).ren g=gL z (L.map fun q=>(g q.1,q.2)):=by
 unfold gL
 by_cases h:L=[]
 ·subst h;rfl
 ·rw[if_neg h,if_neg (by simpa using h)]
  simp only[Blk.ren,List.map_append,z8q]
  rfl
theorem z9r(L:Gl):(L.map rowG).map dimL=L.map rowG:=by
 rw[List.map_map];rfl
theorem j2K(z:Bool)(L:Gl):(gL z L).dim=gL false L:=by
 unfold gL
 by_cases h:L=[]
 ·subst h;rfl
 ·rw[if_neg h,if_neg h]
  simp only[Blk.dim,List.map_append,z9r]
  rfl
theorem q9o(g:Nat→Nat):∀(gs:List Glob)(p q:Nat),(∀ i,i<gs.length→g (p+i)=q+i)→(numG p gs).map (fun x=>(g x.1,x.2))=numG q gs
 |[],_,_,_=>rfl
 |a :: r,p,q,h=>by
  have h0:=h 0 (by simp)
  simp only[numG,List.map_cons,Nat.add_zero] at h0 ⊢
  rw[h0,q9o g r (p+1) (q+1) fun i hi=>by have:=h (i+1) (by simp;omega);rw[show p+1+i=p+(i+1) by omega,show q+1+i=q+(i+1) by omega];exact this]
theorem TB.handed{H:List (Nat×Blk)}{p:Nat}{z:Bool}{t:Table}(h:TB H p z t):handed H (List.range' p (t.globals.length+2))=some (tblk false 2 t):=by
 unfold Vm.handed
 refine q7O (by simp [q1P]) fun j b hb=>?_
 obtain⟨hj,rfl⟩:=j0H _ _ _ _ hb
 match j,hj with
 |0,_=>simp only[Nat.add_zero,h.s];rfl
 |1,_=>
  show(look H (p+1)).map _=some (gB false 2 t.globals)
  rw[h.g,gB_L,gB_L]
  simp only[Option.map_some,j2K,z6E]
  congr 2
  exact q9o (List.range' p (t.globals.length+2)).idxOf t.globals (p+2) 2 fun i hi=>by rw[show p+2+i=p+(2+i) by omega];exact z1x (by omega)
 |j+2,hj=>
  rw[show p+(j+2)=p+2+j by omega,h.c j (by omega)]
  simp only[tblk,List.getElem?_cons_succ,List.getElem?_map,q1o (show j<t.globals.length by omega),Option.map_some]
  rfl
theorem z6D(pr:Nat→Bool)(z:Bool)(L:Gl)(h:∀ q∈L,pr q.1=true):(gL z L).within pr=true:=by
 unfold gL
 by_cases he:L=[]
 ·rw[if_pos he];rfl
 ·rw[if_neg he]
  simp only[Blk.within,List.all_append,Bool.and_eq_true,List.all_eq_true]
  refine⟨fun r hr=>?_,fun r hr=>?_⟩
  ·obtain⟨q,hq,rfl⟩:=List.mem_map.1 hr
   simp only[rowG,withinL,V.within,h q hq,Bool.and_self]
  ·simp only[List.mem_cons,List.not_mem_nil,or_false,or_self] at hr
   subst hr;rfl
theorem TB.closed{H:List (Nat×Blk)}{p:Nat}{z:Bool}{t:Table}(h:TB H p z t):closedB H (List.range' p (t.globals.length+2))=true:=by
 unfold closedB
 rw[List.all_eq_true]
 intro b hb
 rw[List.mem_range'_1] at hb
 obtain⟨j,rfl⟩:∃ j,b=p+j:=⟨b - p,by omega⟩
 match j,hb with
 |0,_=>simp only[Nat.add_zero,h.s];rfl
 |1,_=>
  simp only[h.g,gB_L]
  exact z6D _ _ _ fun q hq=>by have:=q68 _ _ q hq;rw[q2O,decide_eq_true_eq];omega
 |j+2,hb=>
  rw[show p+(j+2)=p+2+j by omega]
  simp only[h.c j (by omega),cB];rfl
theorem q8g{C:Cx}{H:List (Nat×Blk)}{p nx:Nat}{z:Bool}{t:Table}{f:FuncId}{r:V}{blks':List Blk}(hT:TB H p z t)(hC:C.eff f [.agg [.bsx 0 0 t.shapes.length,.bsx 1 0 t.globals.length]] (tblk false 2 t)=some (r,blks',[]))(hl:blks'.length=t.globals.length+2) :
  q61 C nx H f [.agg [.bsx p 0 t.shapes.length,.bsx (p+1) 0 t.globals.length]] (List.range' p (t.globals.length+2))=some (putAll H (q1k (List.range' p (t.globals.length+2)) nx) 0 blks',r.ren (q1k (List.range' p (t.globals.length+2)) nx),.many [],nx):=by
 have c0:(List.range' p (t.globals.length+2)).contains p=true:=by rw[q2O,decide_eq_true_eq];omega
 have c1:(List.range' p (t.globals.length+2)).contains (p+1)=true:=by rw[q2O,decide_eq_true_eq];omega
 have x0:(List.range' p (t.globals.length+2)).idxOf p=0:=by have:=z1x (p:=p) (m:=t.globals.length+2) (j:=0) (by omega);rwa [Nat.add_zero] at this
 have x1:(List.range' p (t.globals.length+2)).idxOf (p+1)=1:=z1x (by omega)
 have hnd:(List.range' p (t.globals.length+2)).Nodup:=List.nodup_range' (step:=1)
 unfold q61
 simp only[hnd,decide_true,List.all_cons,List.all_nil,V.within,withinL,c0,c1,hT.closed,Bool.and_self,if_true,hT.handed,List.map_cons,List.map_nil,V.dim,dimL,V.ren,renL,x0,x1,hC,hl,List.length_range',Nat.le_refl,q1I,Nat.sub_self,Nat.add_zero]
theorem q3w(g:Nat→Nat)(b:Nat):∀(l:List Blk)(k:Nat)(H:List (Nat×Blk)),(∀ j,j<l.length→g (k+j)≠b)→look (putAll H g k l) b=look H b
 |[],_,_,_=>rfl
 |x :: l,k,H,h=>by
  simp only[putAll]
  rw[q3w g b l (k+1) _ fun j hj=>by have:=h (j+1) (by simp;omega);rwa [show k+(j+1)=k+1+j by omega] at this]
  exact q0e _ _ (by have:=h 0 (by simp);simpa using this)
theorem q5d(g:Nat→Nat):∀(l:List Blk)(k:Nat)(H:List (Nat×Blk)),(∀ i j,i<l.length→j<l.length→g (k+i)=g (k+j)→i=j)→∀ j x,l[j]? = some x→look (putAll H g k l) (g (k+j))=some (x.ren g)
 |[],_,_,_,j,x,hx=>by simp at hx
 |y :: l,k,H,h,0,x,hx=>by
  obtain rfl:y=x:=by simpa using hx
  simp only[putAll]
  rw[q3w g _ l (k+1) _ fun j hj e=>by have:=h (j+1) 0 (by simp;omega) (by simp) (by rw[show k+(j+1)=k+1+j by omega];exact e);omega]
  exact q0Q _ _ _
 |y :: l,k,H,h,j+1,x,hx=>by
  simp only[putAll]
  rw[show k+(j+1)=k+1+j by omega]
  exact q5d g l (k+1) _ (fun i j hi hj e=>by have:=h (i+1) (j+1) (by simp;omega) (by simp;omega) (by rw[show k+(i+1)=k+1+i by omega,show k+(j+1)=k+1+j by omega];exact e);omega) j x (by simpa using hx)
theorem q89{p m nx j:Nat}(h:j<m):q1k (List.range' p m) nx j=p+j:=by
 unfold q1k
 have:(List.range' p m)[j]? = some (p+j):=by simp [h]
 rw[this]
theorem z1y{H:List (Nat×Blk)}{p nx:Nat}{l:List Blk}:(∀ j x,l[j]? = some x→look (putAll H (q1k (List.range' p l.length) nx) 0 l) (p+j)=some (x.ren (q1k (List.range' p l.length) nx)))∧
  ∀ b,b<p∨p+l.length≤b→look (putAll H (q1k (List.range' p l.length) nx) 0 l) b=look H b:=by
 refine⟨fun j x hx=>?_,fun b hb=>?_⟩
 ·have hj:=(List.getElem?_eq_some_iff.1 hx).1
  have:=q5d (q1k (List.range' p l.length) nx) l 0 H (fun i j hi hj e=>by
   rw[Nat.zero_add,Nat.zero_add,q89 hi,q89 hj] at e;omega) j x hx
  rwa [Nat.zero_add,q89 hj] at this
 ·exact q3w _ b l 0 H fun j hj e=>by rw[Nat.zero_add,q89 hj] at e;omega
theorem TB.back{H:List (Nat×Blk)}{p nx:Nat}{z:Bool}{t:Table}(h:TB H p z t):TB (putAll H (q1k (List.range' p (t.globals.length+2)) nx) 0 (tblk false 2 t)) p false t:=by
 obtain⟨h1,_⟩:=z1y (H:=H) (p:=p) (nx:=nx) (l:=tblk false 2 t)
 rw[q1P] at h1
 refine⟨?_,?_,fun j hj=>?_⟩
 ·have:=h1 0 _ rfl
  exact this
 ·have:=h1 1 _ rfl
  rw[this,gB_L,gB_L,z6E]
  congr 2
  exact q9o (q1k (List.range' p (t.globals.length+2)) nx) t.globals 2 (p+2) fun i hi=>by rw[q89 (by omega)];omega
 ·have:=h1 (j+2) (cB false (nth t.globals j)) (by simp only[tblk,List.getElem?_cons_succ,List.getElem?_map,q1o hj,Option.map_some])
  rw[show p+2+j=p+(j+2) by omega,this];rfl
theorem z5w{H:List (Nat×Blk)}{p nx:Nat}{t:Table}:q0c 6 (putAll H (q1k (List.range' p (t.globals.length+2)) nx) 0 (q3X t)) (.bsx p 0 t.shapes.length)=some (.sl 2 (t.shapes.map q0g))∧
  q0c 6 (putAll H (q1k (List.range' p (t.globals.length+2)) nx) 0 (q3X t)) (.bsx (p+1) 0 t.globals.length)=some (.sl 3 ((q3W t).globals.map q0G)):=by
 have hl:(q3X t).length=t.globals.length+2:=by simp [q3X]
 obtain⟨h1,_⟩:=z1y (H:=H) (p:=p) (nx:=nx) (l:=q3X t)
 rw[hl] at h1
 have hc:∀ j,j<t.globals.length→look (putAll H (q1k (List.range' p (t.globals.length+2)) nx) 0 (q3X t)) (p+2+j)=some (cB false (q4m (nth t.globals j))):=fun j hj=>by
  have:=h1 (j+2) (cB false (q4m (nth t.globals j))) (by simp only[q3X,List.getElem?_cons_succ,List.getElem?_map,q1o hj,Option.map_some])
  rw[show p+2+j=p+(j+2) by omega,this];rfl
 have hg:=h1 1 _ rfl
 rw[j0q,z6E] at hg
 have hm:∀ x∈q8x 2 t,2≤x.1∧x.1<t.globals.length+2:=by
  intro x hx
  unfold q8x at hx
  split at hx
  ·simp at hx
  ·rename_i hne
   have:=z1O t hne
   rcases List.mem_or_eq_of_mem_set hx with hx|rfl
   ·have:=q68 _ _ x hx
    simp only[List.length_map] at this;omega
   ·simp only;omega
 have he:∀ x∈q8x 2 t,x.2.code=(q4m (nth t.globals (x.1 - 2:Nat))).code:=by
  intro x hx
  unfold q8x at hx
  split at hx
  ·simp at hx
  ·rename_i hne
   have:=z1O t hne
   rcases List.mem_or_eq_of_mem_set hx with hx|rfl
   ·obtain⟨j,hj⟩:=List.getElem?_of_mem hx
    rw[q5M] at hj
    have hlt:j<t.globals.length:=by
     rcases Nat.lt_or_ge j t.globals.length with h|h
     ·exact h
     ·rw[List.getElem?_eq_none (by simpa using h)] at hj;cases hj
    rw[q1o (by simpa using hlt),z8z hlt] at hj
    obtain rfl:=Option.some.inj hj
    simp
   ·simp only[z1k,q4m]
    rw[show 2+(t.globals.length - 1) - 2=t.globals.length - 1 by omega,show((t.globals.length:Int) - 1)=((t.globals.length - 1:Nat):Int) by omega]
 refine⟨z9I (h1 0 _ rfl),?_⟩
 have hv:=z9J hg (fun q hq=>by
  obtain⟨x,hx,rfl⟩:=List.mem_map.1 hq
  obtain⟨m1,m2⟩:=hm x hx
  simp only
  rw[q89 m2]
  have:=hc (x.1 - 2) (by omega)
  rw[show p+2+(x.1 - 2)=p+x.1 by omega] at this
  rw[this,cB,cB,he x hx])
 rw[List.length_map,q93] at hv
 rw[hv]
 simp only[q3W,List.map_map]
 rfl
end Go.Vm
end

section
namespace Go.Vm
theorem q5C{sh:List Shape}{x:Instr}{d:Int}(g:1≤x.op∧x.op<18)(hd:1≤d):q03 sh x d=(q2h sh x d,q5c sh x d&&decide (q2h sh x d≤8000)):=by
 obtain⟨op,a,b⟩:=x
 rcases z5T g with h|h|h|h|h|h|h|h|h|h|h|h|h|h|h|h|h
 all_goals
  simp only at h
  subst h
  simp [q03,q2h,q5c]
 rotate_right
 ·by_cases h:d=1 <;> simp [h]
 ·by_cases k:8000<a
  ·simp [k];omega
  ·simp [k];omega
end Go.Vm
end

section
namespace Go.Vm
def q1K(ng:Nat)(sh:List Shape)(g:Glob):Int:=
 if q3b ng sh.length g.code.length g.code g.code.length 0=0 then
  if g.code.length=0 then 174 else depL sh g.code g.code.length 0 ((List.replicate g.code.length 0).set 0 (g.arity+1))
 else q3b ng sh.length g.code.length g.code g.code.length 0
def q1j(most:Int):List (List UInt8×Int)→List (List UInt8)→Bool
 |[],_=>true
 |(n,k) :: r,seen=>if q1w n&&!seen.contains n&&decide (0≤k)&&decide (k≤most) then q1j most r (seen++[n]) else false
def q6v(sh:List Shape):Nat→Nat→Bool
 |0,_=>true
 |k+1,i=>if i<sh.length∧nth sh i=nth givenS i then q6v sh k (i+1) else false
def q72(sh:List Shape):Bool:=q6v sh 7 0
def q4t(ng:Nat)(sh:List Shape):List Glob→Int
 |[]=>0
 |g :: r=>if q1K ng sh g=0 then q4t ng sh r else q1K ng sh g
def q2e(t:Table):Int:=
 if q37 t then 4 else
 if q1j 8 (t.shapes.map fun s=>(s.name,s.fields)) []=false then 172 else
 if q72 t.shapes=false then 172 else
 if q1j 24 (t.globals.map fun g=>(g.name,g.arity)) []=false then 172 else
 q4t t.globals.length t.shapes t.globals
theorem q1A(most:Int):∀(l:List (List UInt8×Int))(seen:List (List UInt8)),q1j most l seen=true→∀ p∈l,q1w p.1=true∧0≤p.2∧p.2≤most:=by
 intro l
 induction l with
 |nil=>intro seen _ p hp;simp at hp
 |cons q l ih=>
  obtain⟨n,k⟩:=q
  intro seen h p hp
  simp only[q1j] at h
  split at h
  ·rename_i hc
   simp only[Bool.and_eq_true,decide_eq_true_eq] at hc
   rcases List.mem_cons.1 hp with rfl|hp
   ·exact⟨hc.1.1.1,hc.1.2,hc.2⟩
   ·exact ih _ h p hp
  ·cases h
theorem z4b:∀(l:List Glob)(n m:Int),q25 l n=some m→∀ g∈l,(g.code.length:Int)≤8000:=by
 intro l
 induction l with
 |nil=>intro n m _ g hg;simp at hg
 |cons q l ih=>
  intro n m h g hg
  simp only[q25] at h
  split at h
  ·cases h
  ·rcases List.mem_cons.1 hg with rfl|hg
   ·omega
   ·exact ih _ _ h g hg
theorem q9x{t:Table}(h:q37 t=false):t.shapes.length≤2000∧t.globals.length≤2000∧∀ g∈t.globals,g.code.length≤8000:=by
 unfold q37 at h
 cases hg:q25 t.globals 0 with
 |none=>rw[hg] at h;cases h
 |some n=>
  rw[hg] at h
  simp only[Bool.or_eq_false_iff,decide_eq_false_iff_not] at h
  exact⟨by omega,by omega,fun g hm=>by have:=z4b _ _ _ hg g hm;omega⟩
end Go.Vm
end

section
namespace Go.Vm
def K21(K:Cx):Prop:=∀ s:List UInt8,(s.length:Int)≤9223372036854775807→K.call 35 [.d false (.str s)]=some (.d false (.bool (q1w s)),[])
def q7x(t:Table)(r:Bool×List (List UInt8)):Ex×S:=if r.1 then(.exit 0,⟨[(1,.ptr 0 0 0),(3,.map 1)],[(0,.mix 2 [[.d false (.sl 2 (t.shapes.map q0g)),.d false (.sl 3 (t.globals.map q0G))]]),(1,.map (q3s r.2))],2,[]⟩) else(.ret,⟨[(2,.d false (.int .i64 172))],[],0,[]⟩)
theorem q2N(t m):q7x t (false,m)=(.ret,⟨[(2,.d false (.int .i64 172))],[],0,[]⟩):=rfl
theorem q7w(t m):q7x t (true,m)=(.exit 0,⟨[(1,.ptr 0 0 0),(3,.map 1)],[(0,.mix 2 [[.d false (.sl 2 (t.shapes.map q0g)),.d false (.sl 3 (t.globals.map q0G))]]),(1,.map (q3s m))],2,[]⟩):=rfl
theorem z1r(K:Cx)(h21:K21 K)(t:Table)(hl:t.shapes.length≤2000)(hn:∀ s∈t.shapes,(s.name.length:Int)≤9223372036854775807):∀(k i:Nat)(seen:List (List UInt8)),i+k=t.shapes.length→
  lp K 0 [1,3,17,18,19] f13_L0 ⟨[(1,.ptr 0 0 0),(3,.map 1),(17,.d false (.sl 2 (t.shapes.map q0g))),(18,.d false (.int .i64 t.shapes.length)),(19,.d false (.int .i64 i))],[(0,.mix 2 [[.d false (.sl 2 (t.shapes.map q0g)),.d false (.sl 3 (t.globals.map q0G))]]),(1,.map (q3s seen))],2,[]⟩ =
  some (q7x t (q1j 8 ((t.shapes.drop i).map fun s=>(s.name,s.fields)) seen,seen++(t.shapes.drop i).map (·.name))):=by
 intro k
 induction k with
 |zero=>
  intro i seen hi
  rw[q0K f13_L0.eq_1,List.drop_of_length_le (by omega)]
  simp only[List.map_nil,q1j,List.append_nil]
  simp(disch:=first|decide|omega|(simp only[LN];first|done|omega)) only[SV,SW,Nat.reduceBEq,reduceCtorEq,Nat.reduceAdd,q7w]
 |succ k ih=>
  intro i seen hi
  have hcast:((i+1:Nat):Int)=(i:Int)+1:=by omega
  have hlt:i<t.shapes.length:=by omega
  rw[q0K f13_L0.eq_1,q0O hlt]
  have hnm:=hn _ (q2w (l:=t.shapes) (i:=(i:Int)) (by omega) (by omega))
  have hc:=h21 _ hnm
  have ih:=fun seen=>ih (i+1) seen (by omega)
  rw[hcast] at ih
  simp only[List.map_cons,q1j]
  generalize hs:nth t.shapes (i:Int)=s at hc hnm
  generalize q1w s.name=b1 at hc
  clear hnm hn
  cases hse:seen.contains s.name with
  |true=>
   cases b1 with
   |false=>
    simp only[Bool.false_and]
    simp(disch:=first|decide|omega|(simp only[LN];first|done|omega)) only[SV,SW,Nat.reduceBEq,Nat.reduceAdd,hs,q0n,lose,q0c,hc,evUn,hse,q2N]
   |true=>
    simp only[Bool.not_true,Bool.and_false,Bool.false_and]
    simp(disch:=first|decide|omega|(simp only[LN];first|done|omega)) only[SV,SW,Nat.reduceBEq,Nat.reduceAdd,hs,q0n,lose,q0c,hc,evUn,hse,q2N]
  |false=>
   cases b1 with
   |false=>
    simp only[Bool.false_and]
    simp(disch:=first|decide|omega|(simp only[LN];first|done|omega)) only[SV,SW,Nat.reduceBEq,Nat.reduceAdd,hs,q0n,lose,q0c,hc,evUn,hse,q2N]
   |true=>
    by_cases g1:0≤s.fields
    ·by_cases g2:s.fields≤8
     ·have ih:=ih (seen++[s.name])
      have e1:decide (0≤s.fields)=true:=by simpa using g1
      have e2:decide (s.fields≤8)=true:=by simpa using g2
      have hset:=z0i s.name seen hse
      simp only[e1,e2,Bool.not_false,Bool.and_self,if_true]
      rw[List.append_assoc] at ih
      simp(disch:=first|decide|omega|(simp only[LN];first|done|omega)) only[SV,SW,Nat.reduceBEq,Nat.reduceAdd,hs,q0n,lose,q0c,hc,evUn,hse,z0U,q8G,z56,hset,z2s,reduceCtorEq]
      exact ih
     ·have e2:decide (s.fields≤8)=false:=by simpa using g2
      simp only[e2,Bool.and_false]
      simp(disch:=first|decide|omega|(simp only[LN];first|done|omega)) only[SV,SW,Nat.reduceBEq,Nat.reduceAdd,hs,q0n,lose,q0c,hc,evUn,hse,q2N]
    ·have e2:decide (0≤s.fields)=false:=by simpa using g1
     simp only[e2,Bool.and_false,Bool.false_and]
     simp(disch:=first|decide|omega|(simp only[LN];first|done|omega)) only[SV,SW,Nat.reduceBEq,Nat.reduceAdd,hs,q0n,lose,q0c,hc,evUn,hse,q2N]
def q9y(t:Table)(r:Bool):Ex×S:=if r then(.exit 4,⟨[(1,.ptr 0 0 0)],[(0,.mix 2 [[.d false (.sl 2 (t.shapes.map q0g)),.d false (.sl 3 (t.globals.map q0G))]])],1,[]⟩) else(.ret,⟨[(2,.d false (.int .i64 172))],[],0,[]⟩)
theorem q3i(t):q9y t false=(.ret,⟨[(2,.d false (.int .i64 172))],[],0,[]⟩):=rfl
theorem q80(t):q9y t true=(.exit 4,⟨[(1,.ptr 0 0 0)],[(0,.mix 2 [[.d false (.sl 2 (t.shapes.map q0g)),.d false (.sl 3 (t.globals.map q0G))]])],1,[]⟩):=rfl
theorem z4c(K:Cx)(h21:K21 K)(t:Table)(hl:t.globals.length≤2000)(hn:∀ s∈t.globals,(s.name.length:Int)≤9223372036854775807):∀(k i:Nat)(seen:List (List UInt8)),i+k=t.globals.length→
  lp K 0 [1,3,72,73,74] f13_L2 ⟨[(1,.ptr 0 0 0),(3,.map 1),(72,.d false (.sl 3 (t.globals.map q0G))),(73,.d false (.int .i64 t.globals.length)),(74,.d false (.int .i64 i))],[(0,.mix 2 [[.d false (.sl 2 (t.shapes.map q0g)),.d false (.sl 3 (t.globals.map q0G))]]),(1,.map (q3s seen))],2,[]⟩ =
  some (q9y t (q1j 24 ((t.globals.drop i).map fun s=>(s.name,s.arity)) seen)):=by
 intro k
 induction k with
 |zero=>
  intro i seen hi
  rw[q0K f13_L2.eq_1,List.drop_of_length_le (by omega)]
  simp only[List.map_nil,q1j]
  simp(disch:=first|decide|omega|(simp only[LN];first|done|omega)) only[SV,SW,Nat.reduceBEq,q80]
 |succ k ih=>
  intro i seen hi
  have hcast:((i+1:Nat):Int)=(i:Int)+1:=by omega
  have hlt:i<t.globals.length:=by omega
  rw[q0K f13_L2.eq_1,q0O hlt]
  have hnm:=hn _ (q2w (l:=t.globals) (i:=(i:Int)) (by omega) (by omega))
  have hc:=h21 _ hnm
  have ih:=fun seen=>ih (i+1) seen (by omega)
  rw[hcast] at ih
  simp only[List.map_cons,q1j]
  generalize hs:nth t.globals (i:Int)=s at hc hnm
  generalize q1w s.name=b1 at hc
  clear hnm hn
  cases hse:seen.contains s.name with
  |true=>
   cases b1 with
   |false=>
    simp only[Bool.false_and]
    simp(disch:=first|decide|omega|(simp only[LN];first|done|omega)) only[SV,SW,Nat.reduceBEq,Nat.reduceAdd,hs,q0D,lose,q0c,hc,evUn,hse,q3i]
   |true=>
    simp only[Bool.not_true,Bool.and_false,Bool.false_and]
    simp(disch:=first|decide|omega|(simp only[LN];first|done|omega)) only[SV,SW,Nat.reduceBEq,Nat.reduceAdd,hs,q0D,lose,q0c,hc,evUn,hse,q3i]
  |false=>
   cases b1 with
   |false=>
    simp only[Bool.false_and]
    simp(disch:=first|decide|omega|(simp only[LN];first|done|omega)) only[SV,SW,Nat.reduceBEq,Nat.reduceAdd,hs,q0D,lose,q0c,hc,evUn,hse,q3i]
   |true=>
    by_cases g1:0≤s.arity
    ·by_cases g2:s.arity≤24
     ·have ih:=ih (seen++[s.name])
      have e1:decide (0≤s.arity)=true:=by simpa using g1
      have e2:decide (s.arity≤24)=true:=by simpa using g2
      have hset:=z0i s.name seen hse
      simp only[e1,e2,Bool.not_false,Bool.and_self,if_true]
      simp(disch:=first|decide|omega|(simp only[LN];first|done|omega)) only[SV,SW,Nat.reduceBEq,Nat.reduceAdd,hs,q0D,lose,q0c,hc,evUn,hse,z0U,q8G,z56,hset,z2s,reduceCtorEq]
      exact ih
     ·have e2:decide (s.arity≤24)=false:=by simpa using g2
      simp only[e2,Bool.and_false]
      simp(disch:=first|decide|omega|(simp only[LN];first|done|omega)) only[SV,SW,Nat.reduceBEq,Nat.reduceAdd,hs,q0D,lose,q0c,hc,evUn,hse,q3i]
    ·have e2:decide (0≤s.arity)=false:=by simpa using g1
     simp only[e2,Bool.and_false,Bool.false_and]
     simp(disch:=first|decide|omega|(simp only[LN];first|done|omega)) only[SV,SW,Nat.reduceBEq,Nat.reduceAdd,hs,q0D,lose,q0c,hc,evUn,hse,q3i]
def z1Q(t:Table)(seen:List (List UInt8))(r:Bool):Ex×S:=if r then(.exit 2,⟨[(1,.ptr 0 0 0),(3,.map 1)],[(0,.mix 2 [[.d false (.sl 2 (t.shapes.map q0g)),.d false (.sl 3 (t.globals.map q0G))]]),(1,.map (q3s seen))],2,[]⟩) else(.ret,⟨[(2,.d false (.int .i64 172))],[],0,[]⟩)
theorem q5S(t m):z1Q t m false=(.ret,⟨[(2,.d false (.int .i64 172))],[],0,[]⟩):=rfl
theorem z0J(t m):z1Q t m true=(.exit 2,⟨[(1,.ptr 0 0 0),(3,.map 1)],[(0,.mix 2 [[.d false (.sl 2 (t.shapes.map q0g)),.d false (.sl 3 (t.globals.map q0G))]]),(1,.map (q3s m))],2,[]⟩):=rfl
theorem z6C(K:Cx)(t:Table)(hl:t.shapes.length≤2000)(seen:List (List UInt8)):∀(k i:Nat),i+k=7→
  lp K 0 [1,3,48,49,50] f13_L1 ⟨[(1,.ptr 0 0 0),(3,.map 1),(48,.bsl 2 0 7),(49,.d false (.int .i64 7)),(50,.d false (.int .i64 i))],[(0,.mix 2 [[.d false (.sl 2 (t.shapes.map q0g)),.d false (.sl 3 (t.globals.map q0G))]]),(1,.map (q3s seen)),(2,.dat true 2 (givenS.map q0g))],3,[]⟩ =
  some (z1Q t seen (q6v t.shapes k i)):=by
 have h7:givenS.length=7:=rfl
 intro k
 induction k with
 |zero=>
  intro i hi
  rw[q0K f13_L1.eq_1]
  simp only[q6v]
  simp(disch:=first|decide|omega|(simp only[LN];first|done|omega)) only[SV,SW,Nat.reduceBEq,reduceCtorEq,Nat.reduceAdd,z0J]
 |succ k ih=>
  intro i hi
  have hcast:((i+1:Nat):Int)=(i:Int)+1:=by omega
  have ih:=ih (i+1) (by omega)
  rw[hcast] at ih
  rw[q0K f13_L1.eq_1]
  simp only[q6v]
  by_cases g:i<t.shapes.length
  ·generalize hs:nth t.shapes (i:Int)=s
   generalize hg:nth givenS (i:Int)=s'
   by_cases e1:s.name=s'.name
   ·by_cases e2:s.fields=s'.fields
    ·have e:s=s':=by cases s;cases s';simp at e1 e2;subst e1;subst e2;rfl
     rw[if_pos ⟨g,e⟩]
     subst e
     simp(disch:=first|decide|omega|(simp only[LN];first|done|omega)) only[SV,SW,Nat.reduceBEq,Nat.reduceAdd,hg,q0n,lose,hs,q2H,q02,q1l,reduceCtorEq,Nat.reduceEqDiff]
     exact ih
    ·rw[if_neg (fun h=>e2 (by rw[h.2]))]
     have d2:(s.fields==s'.fields)=false:=by simpa using e2
     clear e2
     simp(disch:=first|decide|omega|(simp only[LN];first|done|omega)) only[SV,SW,Nat.reduceBEq,Nat.reduceAdd,hg,q0n,lose,hs,e1,q2H,q02,q1l,d2,q5S]
   ·rw[if_neg (fun h=>e1 (by rw[h.2]))]
    have d1:decide (s.name=s'.name)=false:=by simpa using e1
    simp(disch:=first|decide|omega|(simp only[LN];first|done|omega)) only[SV,SW,Nat.reduceBEq,Nat.reduceAdd,hg,q0n,lose,hs,q2H,q02,q1l,d1,q5S]
  ·rw[if_neg (fun h=>g h.1)]
   simp(disch:=first|decide|omega|(simp only[LN];first|done|omega)) only[SV,SW,Nat.reduceBEq,Nat.reduceAdd,q0n,lose,q5S]
end Go.Vm
end

section
namespace Go.Vm
theorem z1L(K:Cx)(s:List UInt8)(hs:(s.length:Int)≤9223372036854775807):∀(k i:Nat),i+k=s.length→
    lp K 0 [0,5,6] f35_L0 ⟨[(0,.d false (.str s)),(5,.d false (.int .i64 s.length)),(6,.d false (.int .i64 i))],[],0,[]⟩ =
    some (if(s.drop i).all q4I then(.exit 0,⟨[(0,.d false (.str s))],[],0,[]⟩) else(.ret,⟨[(2,.d false (.bool false))],[],0,[]⟩)):=by
  intro k
  induction k with
  |zero=>
    intro i hi
    rw[q0K f35_L0.eq_1,List.drop_of_length_le (by omega)]
    simp(disch:=first|decide|omega|(simp only[LN];first|done|omega)) only[SV,SW,Nat.reduceBEq]
  |succ k ih=>
    intro i hi
    have ih:=ih (i+1) (by omega)
    have hcast:((i+1:Nat):Int)=(i:Int)+1:=by omega
    rw[hcast] at ih
    rw[q0K f35_L0.eq_1,q0O (by omega:i<s.length),List.all_cons]
    generalize hb:nth s (i:Int)=b
    have h0:0≤(b.toNat:Int):=by omega
    by_cases g1:(b.toNat:Int)<32
    · have:q4I b=false:=by simp [q4I];omega
      rw[this]
      simp(disch:=first|decide|omega|(simp only[LN];first|done|omega)) only[SV,SW,Nat.reduceBEq,hb]
    · by_cases g2:126<(b.toNat:Int)
      · have:q4I b=false:=by simp [q4I];omega
        rw[this]
        simp(disch:=first|decide|omega|(simp only[LN];first|done|omega)) only[SV,SW,Nat.reduceBEq,hb]
      · have:q4I b=true:=by simp [q4I];omega
        rw[this]
        simp(disch:=first|decide|omega|(simp only[LN];first|done|omega)) only[SV,SW,Nat.reduceBEq,hb]
        exact ih
theorem z6W(K:Cx)(s:List UInt8)(hs:(s.length:Int)≤9223372036854775807):q0B K f35 [.d false (.str s)] []=some (.d false (.bool (q1w s)),[],[]):=by
  have hlp:=z1L K s hs s.length 0 (by omega)
  simp only[Int.natCast_zero,List.drop_zero] at hlp
  unfold q1w
  by_cases h:s.all q4I=true
  · rw[if_pos h] at hlp
    rw[h]
    simp(disch:=first|decide|omega|(simp only[LN];first|done|omega)) only[SV,SW,f35,Nat.reduceBEq,hlp,q0b]
  · rw[if_neg h] at hlp
    rw[Bool.not_eq_true] at h
    rw[h]
    simp(disch:=first|decide|omega|(simp only[LN];first|done|omega)) only[SV,SW,f35,Nat.reduceBEq,hlp,q0b]
theorem z9b(K:Cx):q0B K f36 [] []=some (.bsl 0 0 7,[.dat true 2 (givenS.map q0g)],[]):=by
  simp(disch:=first|decide|omega|(simp only[LN];first|done|omega)) only[SV,SW,f36,Nat.reduceAdd,q0b,hNew,V.forget,V.drop1,V.ref0,V.newR,q0c,givenS,q0n]
theorem j0j{x y:Int}(h:x % 18446744073709551616=y % 18446744073709551616):IntKind.i64.wrap x=IntKind.i64.wrap y:=by
  unfold IntKind.wrap
  have e1:(2:Int) ^ IntKind.i64.bits=18446744073709551616:=by decide
  simp only[e1,h]
theorem z74(x:Int):IntKind.i64.wrap x % 18446744073709551616=x % 18446744073709551616:=by
  unfold IntKind.wrap
  have e1:(2:Int) ^ IntKind.i64.bits=18446744073709551616:=by decide
  simp only[e1]
  split <;> omega
theorem z2k(n c:Int):IntKind.i64.wrap (IntKind.i64.wrap n+c)=IntKind.i64.wrap (n+c):=by
  refine j0j ?_
  rw[Int.add_emod,z74,←Int.add_emod]
theorem z4a(K:Cx)(t:Table)(hl:(t.globals.length:Int)≤9223372036854775807)(hb:∀ g∈t.globals,(g.code.length:Int)≤9223372036854775807):∀(k i:Nat)(n v:Int),i+k=t.globals.length→v=IntKind.i64.wrap n→
    lp K 0 [1,3,7,8,9] f34_L0 ⟨[(1,.ptr 0 0 0),(3,.d false (.int .i64 v)),(7,.d false (.sl 3 (t.globals.map q0G))),(8,.d false (.int .i64 t.globals.length)),(9,.d false (.int .i64 i))],[(0,.mix 2 [[.d false (.sl 2 (t.shapes.map q0g)),.d false (.sl 3 (t.globals.map q0G))]])],1,[]⟩ =
    some (match q25 (t.globals.drop i) n with
     |none=>(.ret,⟨[(2,.d false (.bool true))],[],0,[]⟩)
     |some m=>(.exit 0,⟨[(1,.ptr 0 0 0),(3,.d false (.int .i64 (IntKind.i64.wrap m)))],[(0,.mix 2 [[.d false (.sl 2 (t.shapes.map q0g)),.d false (.sl 3 (t.globals.map q0G))]])],1,[]⟩)):=by
  intro k
  induction k with
  |zero=>
    intro i n v hi hv
    rw[q0K f34_L0.eq_1,List.drop_of_length_le (by omega)]
    simp(disch:=first|decide|omega|(simp only[LN];first|done|omega)) only[SV,SW,hv,Nat.reduceBEq,q25]
  |succ k ih=>
    intro i n v hi hv
    have hlt:i<t.globals.length:=by omega
    have hcast:((i+1:Nat):Int)=(i:Int)+1:=by omega
    rw[q0K f34_L0.eq_1,q0O hlt,q25]
    have hbg:=hb _ (q2w (l:=t.globals) (i:=(i:Int)) (by omega) (by omega))
    by_cases g1:8000<((nth t.globals i).code.length:Int)
    · rw[if_pos g1]
      clear hv
      simp(disch:=first|decide|omega|(simp only[LN];first|done|omega)) only[SV,SW,Nat.reduceBEq,Nat.reduceAdd,q0D,lose]
    · rw[if_neg g1]
      have ih:=ih (i+1) (n+(nth t.globals i).code.length) (IntKind.i64.wrap (v+(nth t.globals i).code.length)) (by omega) (by rw[hv,z2k])
      rw[hcast] at ih
      clear hv
      simp(disch:=first|decide|omega|(simp only[LN];first|done|omega)) only[SV,SW,Nat.reduceBEq,Nat.reduceAdd,q0D,lose]
      exact ih
theorem z9a(K:Cx)(t:Table)(hl:(t.globals.length:Int)≤9223372036854775807)(hs:(t.shapes.length:Int)≤9223372036854775807)(hb:∀ g∈t.globals,(g.code.length:Int)≤9223372036854775807) :
    q0B K f34 [.agg [.d false (.sl 2 (t.shapes.map q0g)),.d false (.sl 3 (t.globals.map q0G))]] []=some (.d false (.bool (q37 t)),[],[]):=by
  have hlp:=z4a K t hl hb t.globals.length 0 0 0 (by omega) (by decide)
  simp only[Int.natCast_zero,List.drop_zero] at hlp
  unfold q37
  cases h:q25 t.globals 0 with
  |none=>
    rw[h] at hlp
    simp only at hlp
    simp(disch:=first|decide|omega|(simp only[LN];first|done|omega)) only[SV,SW,f34,Nat.reduceAdd,Nat.reduceBEq,hlp,q0b]
  |some n=>
    have hle:=z0K _ _ _ h
    rw[h] at hlp
    simp only at hlp
    simp only
    by_cases hg:2000<(t.globals.length:Int)
    · clear hle
      simp(disch:=first|decide|omega|(simp only[LN];first|done|omega)) only[SV,SW,f34,Nat.reduceAdd,Nat.reduceBEq,hlp,q0b]
    · rw[q3U (by omega) (by omega)] at hlp
      clear hg
      simp(disch:=first|decide|omega|(simp only[LN];first|done|omega)) only[SV,SW,f34,Nat.reduceAdd,Nat.reduceBEq,hlp,q0b]
end Go.Vm
end
