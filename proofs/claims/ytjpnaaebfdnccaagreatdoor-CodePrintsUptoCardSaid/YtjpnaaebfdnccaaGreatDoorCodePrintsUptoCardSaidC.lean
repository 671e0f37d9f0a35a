/-
  Parts of the proof: Drawn regions whose pieces overlap: what may be worked out late may be worked out in the next pieces too. Regions that draw, their operations told in another order. Code that passed the check does what the machine says. Functions: what they return. Loops and jumps, by their rounds. The machine's equations, in a form in which simp works from the inside out and stops where a test is open. Typed data in the machine: lists of structures as rows of cells. Maps, in equations for simp. Jumps, in equations. One name for the machine's equations. One name for more of the simp set. Heaps of any size: loops whose blocks are not numbered anew; what is found behind writes. Tables of instructions as typed data. What the functions of packages peep and code come to: plain definitions. The document's answer for one instruction: its numbers, its needs, what lies behind it. The document's writer of codes: bytes behind bytes, names in quotes, numbers in base ten. Functions that defer one closure: no panic, the closure does nothing. The closures that code.Read and code.Load defer: without a panic they do nothing. The functions that both slothlaw17.awake and the document's Check run through, as the machine's text. code.forms. A table in memory of its own, with marks behind its lists: shapes, codes. A table in memory of its own, with marks behind its lists: globals. A table in memory of its own, with marks behind its lists: what comes of it. Conditions: none.
-/
import Derived.Test.YtjpnaaebfdnccaaGreatDoorCodePrintsUptoCardSaidB
import Derived.Scope
import Derived.Laws.Sem
import Derived.Test.YtjpnaaebfdnccaaGreatDoorChecked
import Derived.Lib.ItoaNum
import Derived.Recover
import Derived.KernelRfl
import Derived.Test.YtjpnaaebfdnccaaGreatDoorProg
set_option linter.unusedVariables false
set_option linter.unusedSimpArgs false

section
namespace Go.Vm
open Go.RowKit
variable {P:Program}{K:Cx}{n:Nat}{X:Nat→Nat→Prop}{base:Nat}{w0:World}{F0:Nat→Prop}{m0:Nat}{σ0:Nat→Option Loc}{ops:Array Oper}{Q:Exit→Act→World→Prop}
def q7A(g:Seg)(R:List Rec)(is:List Nat):List Nat:=is.filter fun i=>R.any fun r=>r.i==i&&q2x g.late r
def wrIx(R:List Rec):Option Nat:=(R.find? (·.isWr)).map (·.i)
def z73(g:Seg)(R:List Rec)(pend:List Nat)(mds:List Nat)(R':List Rec):Bool:=
 R'.all (fun r=>!pend.contains r.i||R.any fun q=>decide (q.i=r.i)&&q2x g.late q&&decide (r.x=q.x)&&r.ch.isEmpty&&!r.isWr&&!r.isMk)&&g.late.all (E.free mds) &&
 R.all fun q=>!q2x g.late q||match q.o.dst with
  |some d=>!(g.lets.map (·.1)).contains d&&!g.keep.contains d
  |none=>true
def z7N(tab:List (List Nat))(size k j:Nat):Bool:=(List.range' k (size - k)).all fun x=>(tab.getD x []).contains j
def q01(P:Program)(ops:Array Oper)(n:Nat)(tab:List (List Nat)):List Nat→Nat→List Seg→Bool
 |_,_,[]=>false
 |L,k,[g]=>q7V (tabB tab) P ops n (L++List.range' k g.cnt) g&&(k+g.cnt==ops.size)
 |L,k,g :: g' :: gs=>q7V (tabB tab) P ops n (L++List.range' k g.cnt) g&&match recs (tabB tab) P ops (g.mks.map (·.1)) g.ef n (L++List.range' k g.cnt) [] with
  |none=>false
  |some R=>match wrIx R with
   |none=>(L++List.range' k g.cnt).all (z7N tab ops.size (k+g.cnt))&&q01 P ops n tab [] (k+g.cnt) (g' :: gs)
   |some wi=>z7N tab ops.size (k+g.cnt) wi&&(match recs (tabB tab) P ops (g'.mks.map (·.1)) g'.ef n (q7A g R (L++List.range' k g.cnt)++List.range' (k+g.cnt) g'.cnt) [] with
    |some R'=>z73 g R (q7A g R (L++List.range' k g.cnt)) (g'.mks.map (·.1)) R'
    |none=>false)&&q01 P ops n tab (q7A g R (L++List.range' k g.cnt)) (k+g.cnt) (g' :: gs)
def q4D(P:Program)(ops:Array Oper)(n:Nat)(gs:List Seg):Bool:=q01 P ops n (z1Y gs) [] 0 gs&&z3I ops.toList (z1Y gs)
theorem j1X{B:Nat→Nat→Bool}{is is':List Nat}{g g':Seg}{R R':List Rec}{s s1 s' s1' s'':S}{T T':Tr}{news news':List Blk}{l l':List (Nat×V)}{D:Nat→Prop}{a:Act}{w:World}{F:Nat→Prop}{σ:Nat→Option Loc}
  (h:Full (q1m P K ops B n R g s s1 T X base w0 F0 m0 σ0) is g s' news l) (h':Full (q1m P K ops B n R' g' s' s1' T' X base w0 F0 m0 σ0) is' g' s'' news' l')
  (hsame:∀ e∈g.late,ev K s' e=ev K s1 e)
  (hlink:∀ r∈R',D r.i→∃ q∈R,q.i=r.i∧q2x g.late q=true∧r.x=q.x∧r.ch=[]∧r.isWr=false∧r.isMk=false)
  (hfree:∀ e∈g.late,e.free (g'.mks.map (·.1))=true)
  (hsl:∀ q∈R,q2x g.late q=true→∀ d,q.o.dst=some d→look s'.rho d=none)
  (hW:Wrt (q1m P K ops B n R g s s1 T X base w0 F0 m0 σ0) g s' D a w F σ):Inv (q1m P K ops B n R' g' s' s1' T' X base w0 F0 m0 σ0) D a w F σ:=by
 have hnx:s'.nx≤s1'.nx:=h'.nx
 have oper:∀ r∈R',∀ q∈R,q.i=r.i→q.o=r.o:=by
  intro r hr q hq he
  have h1:=(h'.ok.good.split hr)
  have h2:=(h.ok.good.split hq)
  obtain⟨_,_,_,g1⟩:=h1
  obtain⟨_,_,_,g2⟩:=h2
  cases g1 with
  |cons _ _ _ e1 _ _ _=>
   cases g2 with
   |cons _ _ _ e2 _ _ _=>
    have e1':ops[r.i]? = some r.o:=e1
    have e2':ops[q.i]? = some q.o:=e2
    rw[he,e1'] at e2'
    exact(Option.some.inj e2').symm
 have nomk:∀ r∈R',D r.i→∀ d,r.o.dst=some d→d∉g'.mks.map (·.1):=by
  intro r hr hD d hd hm
  obtain⟨r2,hr2,hd2,hm2⟩:=h'.ok.covers d hm
  obtain⟨_,_,_,_,_,_,_,hmk⟩:=hlink r hr hD
  by_cases hri:r2.i=r.i
  ·obtain rfl:=h'.ok.good.inj r2 hr2 r hr hri
   rw[hmk] at hm2;cases hm2
  ·exact absurd hd (q3O h'.ok hr2 hr hri hd2)
 refine⟨⟨hW.heap.blk,hW.heap.inj,fun b l hb=>?_,hW.heap.fro⟩,hW.glob,hW.le,hW.frame,hW.frz,hW.size,hW.dfr,fun t v hv hn=>?_,fun r hr hD d hd hwr=>?_,fun d m v n0 nw hT ⟨r,hr,hD,hd⟩=>?_,fun d m v n0 nw hT hn b h1 h2=>?_,hW.stab,hW.sub⟩
 ·obtain⟨o1,o2⟩:=hW.heap.own b l hb
  exact⟨show b<s1'.nx by omega,o2⟩
 ·refine hW.rho t v hv fun q hq hD hd=>?_
  have:=hsl q hq (hW.rest q hq hD) t hd
  have hv':look s'.rho t=some v:=hv
  rw[this] at hv';cases hv'
 ·obtain⟨q,hq,hqi,hql,hx,hch,_,_⟩:=hlink r hr hD
  have ho:=oper r hr q hq hqi
  refine⟨fun _ v hv=>?_,fun hnw=>absurd (by rw[hch];exact fun p hp=>by simp at hp) hnw⟩
  obtain⟨e,hk,hqx,hel,_⟩:=q1Y hql
  obtain⟨val,hv1,hv2,_⟩:=h.ended.late e hel _ _ h.ended.mks
  have e1:ev K s1' e=ev K s' e:=by
   have hh:s1'.heap=s'.heap:=h'.ok.s1
   obtain⟨ρ1,H1,n1,u1⟩:=s1'
   obtain⟨ρ2,H2,n2,u2⟩:=s'
   simp only at hh
   subst hh
   exact q3u K ρ2 ρ1 H1 n2 n1 u2 u1 (fun t ht=>h'.ok.old t ht) e (hfree e hel)
  have hv':ev K s1' r.x=some v:=hv
  rw[hx,hqx,e1,hsame e hel] at hv'
  have hv2':ev K s1 e=some val:=hv2
  rw[hv2'] at hv'
  obtain rfl:=Option.some.inj hv'
  exact hW.ldone q hq (by rw[hqi];exact hD) hql d (by rw[ho];exact hd) val (by rw[hqx];exact hv1)
 ·exact absurd ((h'.ok.mds d).2 ⟨m,v,n0,nw,hT⟩) (nomk r hr hD d hd)
 ·have h0:s'.nx≤n0:=(h'.ok.evm d m v n0 nw hT).2.1
  cases hb:σ b with
  |none=>rfl
  |some l=>
   have:=(hW.heap.own b l hb).1
   omega
abbrev Li(listed:Array Bool):Nat→Prop:=fun i=>listed.getD i false=true
theorem q5e{tab:List (List Nat)}(ht:Tab ops tab)(is es:List Nat)(St:(Nat→Prop)→Act→World→Prop)(dom:(Nat→Prop)→Prop)
  (his:∀ i∈is,i<ops.size) (hdom:∀ D i,dom D→i∈is→dom (plus D i))
  (hin:∀ D i,dom D→¬(∀ j∈es,D j)→i<ops.size→¬ D i→(∀ j,tabB tab j i=true→D j)→i∈is) (hes:∀ j∈es,j<ops.size)
  (hstep:∀(D:Nat→Prop) (a:Act) (w:World) (i:Nat) (Kn:Act→World→Prop),i∈is→¬ D i→(∀ q,q<ops.size→D q→∀ p,tabB tab p q=true→D p)→(∀ q,tabB tab q i=true→D q)→St D a w→(∀ a' w',St (plus D i) a' w'→Kn a' w')→wpOp P ops Q i Kn a w)
  (hrest:∀(fuel:Nat) (listed:Array Bool) (a:Act) (w:World),listed.size=ops.size→q0w listed ops.size≤fuel→dom (Li listed)→(∀ i,i<ops.size→Li listed i→∀ j,tabB tab j i=true→Li listed j)→(∀ j∈es,Li listed j)→St (Li listed) a w→wpAny P .any ops Q fuel listed a w) :
  ∀(fuel:Nat) (listed:Array Bool) (a:Act) (w:World),listed.size=ops.size→q0w listed ops.size≤fuel→dom (Li listed)→(∀ i,i<ops.size→Li listed i→∀ j,tabB tab j i=true→Li listed j)→St (Li listed) a w→wpAny P .any ops Q fuel listed a w:=by
 intro fuel
 induction fuel with
 |zero=>
  intro listed a w hsz hfuel hd hdown hs
  have hall:∀ i,i<ops.size→Li listed i:=by
   intro i hi
   cases hl:listed.getD i false with
   |true=>exact hl
   |false=>
    have hm:i∈(List.range ops.size).filter fun i=>!listed.getD i true:=by
     simp only[List.mem_filter,List.mem_range,Bool.not_eq_true']
     exact⟨hi,by rw[q4E listed i hsz hi];exact hl⟩
    have:0<q0w listed ops.size:=List.length_pos_of_mem hm
    omega
  exact hrest 0 listed a w hsz hfuel hd hdown (fun j hj=>hall j (hes j hj)) hs
 |succ fuel ih=>
  intro listed a w hsz hfuel hd hdown hs
  by_cases hall:∀ j∈es,Li listed j
  ·exact hrest (fuel+1) listed a w hsz hfuel hd hdown hall hs
  ·refine⟨fun hr=>absurd (fun j hj=>z4i ht listed hsz hr j (hes j hj)) hall,fun i hi=>?_⟩
   obtain⟨h1,h2,o,ho,h3⟩:=q4p.1 hi
   rw[q4E listed i hsz h1] at h2
   have hpre:∀ j,tabB tab j i=true→Li listed j:=by
    intro j hj
    simp only[tabB,List.contains_eq_mem,decide_eq_true_eq] at hj
    obtain⟨e,he,h4⟩:=ht.clo i o ho j hj
    rcases h4 with rfl|h4
    ·exact h3 _ he
    ·exact hdown e (by have:=ht.lt i o ho e he;omega) (h3 e he) j (by simpa [tabB] using h4)
   have hnl:¬ Li listed i:=by show ¬(listed.getD i false=true);rw[h2];simp
   have hmi:i∈is:=hin _ i hd hall h1 hnl hpre
   have hlt:i<listed.size:=by omega
   have hset:Li (listed.setIfInBounds i true)=plus (Li listed) i:=by
    funext x
    show((listed.setIfInBounds i true).getD x false=true)=_
    rw[q1E listed i x hlt]
    simp only[plus,Li,eq_iff_iff]
    by_cases hx:x=i <;> simp [hx]
   exact hstep _ a w i (wpAny P .any ops Q fuel (listed.setIfInBounds i true)) hmi hnl (fun q hq hqD p hpq=>hdown q hq hqD p hpq) hpre hs (fun a' w' hs'=>by
     refine ih _ a' w' (by simpa using hsz) ?_ (by rw[hset];exact hdom _ i hd hmi) ?_ (by rw[hset];exact hs')
     ·have:q0w (listed.setIfInBounds i true) ops.size<q0w listed ops.size:=by
       unfold q0w
       have hsub:((List.range ops.size).filter fun x=>!(listed.setIfInBounds i true).getD x true)=((List.range ops.size).filter fun x=>!listed.getD x true).filter fun x=>decide (x≠i):=by
        rw[List.filter_filter]
        refine List.filter_congr fun x _=>?_
        rw[q1E listed i x hlt]
        by_cases hx:x=i
        ·simp [hx]
        ·simp [hx]
       rw[hsub]
       have hm:i∈(List.range ops.size).filter fun i=>!listed.getD i true:=by
        simp only[List.mem_filter,List.mem_range,Bool.not_eq_true']
        exact⟨h1,by rw[q4E listed i hsz h1];exact h2⟩
       exact List.length_filter_lt_length_iff_exists.2 ⟨i,hm,by simp⟩
      omega
     ·intro x hx hxl j hj
      rw[hset] at hxl ⊢
      rcases hxl with hxl|rfl
      ·exact .inl (hdown x hx hxl j hj)
      ·exact .inl (hpre j hj))
theorem z7Q{listed:Array Bool}(hsz:listed.size=ops.size)(hall:∀ i,i<ops.size→Li listed i){fuel:Nat}{a:Act}{w:World}(hQ:Q .normal a w):wpAny P .any ops Q fuel listed a w:=by
 have hr:Region.ready .any ops listed=[]:=by
  cases hr:Region.ready .any ops listed with
  |nil=>rfl
  |cons i t=>
   have:i∈Region.ready .any ops listed:=by rw[hr];simp
   obtain⟨h1,h2,_⟩:=q4p.1 this
   rw[q4E listed i hsz h1] at h2
   have:=hall i h1
   simp only[Li] at this
   rw[this] at h2
   cases h2
 cases fuel with
 |zero=>exact⟨hr,hQ⟩
 |succ fuel=>exact⟨fun _=>hQ,fun i hi=>by rw[hr] at hi;simp at hi⟩
theorem q4t{tab:List (List Nat)}:∀(gs:List Seg)(L:List Nat)(k:Nat),q01 P ops n tab L k gs=true→k≤ops.size
 |[],_,_,h=>by simp [q01] at h
 |[g],L,k,h=>by
  simp only[q01,Bool.and_eq_true,beq_iff_eq] at h
  omega
 |g :: g' :: gs,L,k,h=>by
  simp only[q01,Bool.and_eq_true] at h
  obtain⟨_,h⟩:=h
  split at h
  ·cases h
  ·split at h
   ·simp only[Bool.and_eq_true] at h
    have:=q4t (g' :: gs) _ _ h.2
    omega
   ·simp only[Bool.and_eq_true] at h
    have:=q4t (g' :: gs) _ _ h.2
    omega
theorem z8k{tab:List (List Nat)}{size k j i:Nat}(h:z7N tab size k j=true)(h1:k≤i)(h2:i<size):tabB tab j i=true:=by
 simp only[z7N,List.all_eq_true] at h
 exact h i (by rw[List.mem_range'_1];omega)
theorem z3F{R:List Rec}{wi:Nat}(h:wrIx R=some wi):∃ r∈R,r.isWr=true∧r.i=wi:=by
 simp only[wrIx,Option.map_eq_some_iff] at h
 obtain⟨r,hr,rfl⟩:=h
 exact⟨r,List.mem_of_find?_eq_some hr,List.find?_some hr,rfl⟩
theorem q5X(hK:K.Sound P){tab:List (List Nat)}(ht:Tab ops tab)(s':S)(hQ:∀ a w F σ,StRel K X base w0 F0 m0 σ0 n s' a w F σ→Q .normal a w):∀(gs:List Seg)(L:List Nat)(k:Nat)(s:S),q01 P ops n tab L k gs=true→q1K K s gs=some s'→
  (∀ j∈L,j<k)→(∀ b blk,look s.heap b=some blk→b<s.nx)→m0≤s.nx→(∀ b k,X b k→b<m0)→
  ∀(fuel:Nat) (listed:Array Bool) (a:Act) (w:World),listed.size=ops.size→q0w listed ops.size≤fuel→(∀ i,i<k→i∉L→Li listed i)→(∀ i,k≤i→¬ Li listed i)→(∀ i,i<ops.size→Li listed i→∀ j,tabB tab j i=true→Li listed j)→
   (∀ g gs',gs=g :: gs'→∀ R s1 T s2 news l,Full (q1m P K ops (tabB tab) n R g s s1 T X base w0 F0 m0 σ0) (L++List.range' k g.cnt) g s2 news l→Stage (q1m P K ops (tabB tab) n R g s s1 T X base w0 F0 m0 σ0) g s2 (Li listed) a w)→
   wpAny P .any ops Q fuel listed a w
 |[],_,_,_,hok,_,_,_,_,_=>by simp [q01] at hok
 |[g],L,k,s,hok,hev,hL,hdm,hnm,hxm=>by
  intro fuel listed a w hsz hfuel hlo hhi hdown hst
  simp only[q01,Bool.and_eq_true,beq_iff_eq] at hok
  obtain⟨hok1,hsize⟩:=hok
  simp only[q1K] at hev
  cases hg:q28 K s g with
  |none=>simp [hg] at hev
  |some s2=>
   simp only[hg,true_or,if_true,Option.some.injEq] at hev
   subst hev
   obtain⟨R,s1,T,news,l,hf⟩:=q3r (X:=X) (base:=base) (w0:=w0) (F0:=F0) (m0:=m0) (σ0:=σ0) hok1 hK hg hdm hnm hxm
   have hmem:∀ q∈R,q.i∈L++List.range' k g.cnt:=fun q hq=>(q0K hf.seg q.i).1 ⟨q,hq,rfl⟩
   have hlt:∀ i∈L++List.range' k g.cnt,i<ops.size:=fun i hi=>by
    rcases List.mem_append.1 hi with h|h
    ·have:=hL i h;omega
    ·rw[List.mem_range'_1] at h;omega
   refine q5e ht (L++List.range' k g.cnt) (L++List.range' k g.cnt) (Stage (q1m P K ops (tabB tab) n R g s s1 T X base w0 F0 m0 σ0) g s2) (fun D=>∀ i,i<k→i∉L→D i) hlt (fun D i hd _ j hj hjL=>.inl (hd j hj hjL))
    (fun D i hd _ hi hD _=>?_) hlt (fun D a w i Kn hi hD hdn hpre hs hKn=>?_) (fun fuel listed a w q1 q2 q3 q4 q5 hs=>?_) fuel listed a w hsz hfuel hlo hdown (hst g [] rfl R s1 T s2 news l hf)
   ·rcases Nat.lt_or_ge i k with h|h
    ·by_cases hiL:i∈L
     ·exact List.mem_append_left _ hiL
     ·exact absurd (hd i h hiL) hD
    ·exact List.mem_append_right _ (by rw[List.mem_range'_1];omega)
   ·obtain⟨r,hr,rfl⟩:=(q0K hf.seg i).2 hi
    exact q3z hf hs hr hD (fun q hq hqD p hp hpq=>hdn q.i (hlt _ (hmem q hq)) hqD p.i hpq) (fun q hq hqr=>hpre q.i hqr) hKn
   ·obtain⟨F,σ,hst2⟩:=q4b hf hs (fun r hr=>q5 r.i (hmem r hr))
    refine z7Q q1 (fun i hi=>?_) (hQ a w F σ hst2)
    by_cases h:i∈L++List.range' k g.cnt
    ·exact q5 i h
    ·refine q3 i ?_ (fun hiL=>h (List.mem_append_left _ hiL))
     rcases Nat.lt_or_ge i k with h2|h2
     ·exact h2
     ·exact absurd (List.mem_append_right _ (by rw[List.mem_range'_1];omega)) h
 |g :: g' :: gs,L,k,s,hok,hev,hL,hdm,hnm,hxm=>by
  intro fuel listed a w hsz hfuel hlo hhi hdown hst
  simp only[q01,Bool.and_eq_true] at hok
  obtain⟨hok1,hok⟩:=hok
  simp only[q1K] at hev
  cases hg:q28 K s g with
  |none=>simp [hg] at hev
  |some s2=>
   simp only[hg,reduceCtorEq,false_or] at hev
   split at hev
   case isFalse=>cases hev
   rename_i hsame
   obtain⟨R,s1,T,news,l,hf⟩:=q3r (X:=X) (base:=base) (w0:=w0) (F0:=F0) (m0:=m0) (σ0:=σ0) hok1 hK hg hdm hnm hxm
   have hrec:recs (tabB tab) P ops (g.mks.map (·.1)) g.ef n (L++List.range' k g.cnt) []=some R:=hf.seg.recs
   rw[hrec] at hok
   simp only at hok
   have hmem:∀ q∈R,q.i∈L++List.range' k g.cnt:=fun q hq=>(q0K hf.seg q.i).1 ⟨q,hq,rfl⟩
   have hkc:k+g.cnt≤ops.size:=by
    split at hok
    ·simp only[Bool.and_eq_true] at hok
     exact q4t _ _ _ hok.2
    ·simp only[Bool.and_eq_true] at hok
     exact q4t _ _ _ hok.2
   have hlt0:∀ i∈L++List.range' k g.cnt,i<k+g.cnt:=fun i hi=>by
    rcases List.mem_append.1 hi with h|h
    ·have:=hL i h;omega
    ·rw[List.mem_range'_1] at h;omega
   have hlt:∀ i∈L++List.range' k g.cnt,i<ops.size:=fun i hi=>Nat.lt_of_lt_of_le (hlt0 i hi) hkc
   obtain⟨hdm2,hnm2⟩:(∀ b blk,look s2.heap b=some blk→b<s2.nx)∧s.nx≤s2.nx:=by
    have hd1:=z0F hf
    have hn1:=hf.nx
    rcases hf.ended.wr with⟨_,he⟩|⟨d,wr,hw,_,he⟩|⟨d,wr,H,v,p,nx,hw,_,hev',he⟩
    ·subst he;exact⟨hd1,hn1⟩
    ·subst he;exact⟨hd1,hn1⟩
    ·subst he
     obtain⟨h1,h2⟩:=z1e hev' hd1
     exact⟨fun b blk hb=>by obtain⟨y,hy⟩:=q7z _ _ _ _ hb;exact h1 b y hy,Nat.le_trans hn1 h2⟩
   have hstep:∀(D:Nat→Prop) (a:Act) (w:World) (i:Nat) (Kn:Act→World→Prop),i∈L++List.range' k g.cnt→¬ D i→(∀ q,q<ops.size→D q→∀ p,tabB tab p q=true→D p)→(∀ q,tabB tab q i=true→D q)→
     Stage (q1m P K ops (tabB tab) n R g s s1 T X base w0 F0 m0 σ0) g s2 D a w→(∀ a' w',Stage (q1m P K ops (tabB tab) n R g s s1 T X base w0 F0 m0 σ0) g s2 (plus D i) a' w'→Kn a' w')→wpOp P ops Q i Kn a w:=fun D a w i Kn hi hD hdn hpre hs hKn=>by
    obtain⟨r,hr,rfl⟩:=(q0K hf.seg i).2 hi
    exact q3z hf hs hr hD (fun q hq hqD p hp hpq=>hdn q.i (hlt _ (hmem q hq)) hqD p.i hpq) (fun q hq hqr=>hpre q.i hqr) hKn
   have hdom:∀(D:Nat→Prop) i,((∀ i,i<k→i∉L→D i)∧∀ i,k+g.cnt≤i→¬ D i)→i∈L++List.range' k g.cnt→(∀ j,j<k→j∉L→plus D i j)∧∀ j,k+g.cnt≤j→¬ plus D i j:=fun D i hd hi=>⟨fun j hj hjL=>.inl (hd.1 j hj hjL),fun j hj=>by
    rintro(h|rfl)
    ·exact hd.2 j hj h
    ·have:=hlt0 _ hi;omega⟩
   have hinn:∀(D:Nat→Prop) i,((∀ i,i<k→i∉L→D i)∧∀ i,k+g.cnt≤i→¬ D i)→¬ D i→i<k+g.cnt→i∈L++List.range' k g.cnt:=fun D i hd hD hi=>by
    rcases Nat.lt_or_ge i k with h|h
    ·by_cases hiL:i∈L
     ·exact List.mem_append_left _ hiL
     ·exact absurd (hd.1 i h hiL) hD
    ·exact List.mem_append_right _ (by rw[List.mem_range'_1];omega)
   have h0:(∀ i,i<k→i∉L→Li listed i)∧∀ i,k+g.cnt≤i→¬ Li listed i:=⟨hlo,fun i hi=>hhi i (by omega)⟩
   cases hwi:wrIx R with
   |none=>
    simp only[hwi,Bool.and_eq_true,List.all_eq_true] at hok
    obtain⟨hbar,hok2⟩:=hok
    refine q5e ht (L++List.range' k g.cnt) (L++List.range' k g.cnt) (Stage (q1m P K ops (tabB tab) n R g s s1 T X base w0 F0 m0 σ0) g s2) (fun D=>(∀ i,i<k→i∉L→D i)∧∀ i,k+g.cnt≤i→¬ D i) hlt hdom
     (fun D i hd hne hi hD hpre=>?_) hlt hstep (fun fuel listed a w q1 q2 q3 q4 q5 hs=>?_) fuel listed a w hsz hfuel h0 hdown (hst g _ rfl R s1 T s2 news l hf)
    ·rcases Nat.lt_or_ge i (k+g.cnt) with h|h
     ·exact hinn D i hd hD h
     ·exact absurd (fun j hj=>hpre j (z8k (hbar j hj) h hi)) hne
    ·obtain⟨F,σ,hst2⟩:=q4b hf hs (fun r hr=>q5 r.i (hmem r hr))
     refine q5X hK ht s' hQ (g' :: gs) [] (k+g.cnt) s2 hok2 hev (fun j hj=>by simp at hj) hdm2 (Nat.le_trans hnm hnm2) hxm fuel listed a w q1 q2 (fun i hi _=>?_) q3.2 q4 (fun g1 gs1 he R' s1' T' s3 news' l' hf'=>?_)
     ·by_cases h:i∈L++List.range' k g.cnt
      ·exact q5 i h
      ·exact Classical.byContradiction fun hD=>h (hinn _ i q3 hD hi)
     ·refine(q0P (P:=P) (ops:=ops) (B:=tabB tab) (R:=R') (s':=s3) hf'.traced hst2).congr (fun r hr=>?_)
      have hri:=(q0K hf'.seg r.i).1 ⟨r,hr,rfl⟩
      rw[List.nil_append,List.mem_range'_1] at hri
      exact⟨fun h=>h.elim,fun h=>q3.2 r.i hri.1 h⟩
   |some wi=>
    simp only[hwi,Bool.and_eq_true] at hok
    obtain⟨⟨hbar,hlk⟩,hok2⟩:=hok
    obtain⟨rw0,hrw,hrww,hrwi⟩:=z3F hwi
    refine q5e ht (L++List.range' k g.cnt) [wi] (Stage (q1m P K ops (tabB tab) n R g s s1 T X base w0 F0 m0 σ0) g s2) (fun D=>(∀ i,i<k→i∉L→D i)∧∀ i,k+g.cnt≤i→¬ D i) hlt hdom
     (fun D i hd hne hi hD hpre=>?_) (fun j hj=>?_) hstep (fun fuel listed a w q1 q2 q3 q4 q5 hs=>?_) fuel listed a w hsz hfuel h0 hdown (hst g _ rfl R s1 T s2 news l hf)
    ·rcases Nat.lt_or_ge i (k+g.cnt) with h|h
     ·exact hinn D i hd hD h
     ·refine absurd (fun j hj=>?_) hne
      obtain rfl:j=wi:=by simpa using hj
      exact hpre j (z8k hbar h hi)
    ·obtain rfl:j=wi:=by simpa using hj
     rw[←hrwi]
     exact hlt _ (hmem rw0 hrw)
    ·have hwD:Li listed wi:=q5 wi (by simp)
     rcases hs with⟨hno,_⟩|⟨_,F,σ,hW⟩
     ·have:=hno rw0 hrw (by rw[hrwi];exact hwD)
      rw[hrww] at this;cases this
     ·refine q5X hK ht s' hQ (g' :: gs) (q7A g R (L++List.range' k g.cnt)) (k+g.cnt) s2 hok2 hev (fun j hj=>hlt0 j (List.mem_filter.1 hj).1) hdm2 (Nat.le_trans hnm hnm2) hxm fuel listed a w q1 q2 (fun i hi hnp=>?_) q3.2 q4 (fun g1 gs1 he R' s1' T' s3 news' l' hf'=>?_)
      ·refine Classical.byContradiction fun hD=>?_
       have hmi:=hinn _ i q3 hD hi
       obtain⟨r,hr,rfl⟩:=(q0K hf.seg i).2 hmi
       have hl:=hW.rest r hr hD
       refine hnp (List.mem_filter.2 ⟨hmi,?_⟩)
       simp only[List.any_eq_true]
       exact⟨r,hr,by simp [hl]⟩
      ·obtain⟨rfl,rfl⟩:=List.cons.inj he
       have hrec':recs (tabB tab) P ops (g'.mks.map (·.1)) g'.ef n (q7A g R (L++List.range' k g.cnt)++List.range' (k+g.cnt) g'.cnt) []=some R':=hf'.seg.recs
       rw[hrec'] at hlk
       simp only[z73,Bool.and_eq_true,List.all_eq_true] at hlk
       obtain⟨⟨hl1,hl2⟩,hl3⟩:=hlk
       have hpend:∀ r∈R',Li listed r.i→r.i∈q7A g R (L++List.range' k g.cnt):=fun r hr hD=>by
        rcases List.mem_append.1 ((q0K hf'.seg r.i).1 ⟨r,hr,rfl⟩) with h|h
        ·exact h
        ·rw[List.mem_range'_1] at h
         exact absurd hD (q3.2 r.i h.1)
       have hlink:∀ r∈R',Li listed r.i→∃ q∈R,q.i=r.i∧q2x g.late q=true∧r.x=q.x∧r.ch=[]∧r.isWr=false∧r.isMk=false:=fun r hr hD=>by
        have:=hl1 r hr
        simp only[Bool.or_eq_true,Bool.not_eq_true',List.any_eq_true,Bool.and_eq_true,decide_eq_true_eq,List.isEmpty_iff] at this
        rcases this with h|⟨q,hq,⟨⟨⟨⟨h1,h2⟩,h3⟩,h4⟩,h5⟩,h6⟩
        ·have h':=hpend r hr hD
         rw[List.contains_eq_mem,decide_eq_false_iff_not] at h
         exact absurd h' h
        ·exact⟨q,hq,h1,h2,h3,h4,h5,h6⟩
       refine .inl ⟨fun r hr hD=>(hlink r hr hD).choose_spec.2.2.2.2.2.1,F,σ,j1X hf hf' (fun e he'=>(hsame.resolve_left (by simp)) e he' _ _ hf.ended.mks) hlink hl2 (fun q hq hql d hd=>?_) hW⟩
       -- the slot of a late one is not known behind the piece
       have h3:=hl3 q hq
       simp only[hql,Bool.not_true,Bool.false_or,hd,Bool.and_eq_true,Bool.not_eq_true',List.contains_eq_mem,decide_eq_false_iff_not] at h3
       obtain⟨h4,h5⟩:=h3
       have hnone:look (l++q0f s1.rho g.keep) d=none:=by
        cases hh:look (l++q0f s1.rho g.keep) d with
        |none=>rfl
        |some u=>
         rw[q22] at hh
         cases hll:look l d with
         |some u2=>
          obtain⟨e2,he2,_⟩:=(q11 _ _ _ _ hf.ended.lets).1 d u2 hll
          exact absurd (List.mem_map.2 ⟨_,he2,rfl⟩) h4
         |none=>
          rw[hll] at hh
          exact absurd (q0z _ _ _ _ hh).1 h5
       have hlose:∀ p:Lost,look (lose p (l++q0f s1.rho g.keep)) d=none:=fun p=>by
        cases hh:look (lose p (l++q0f s1.rho g.keep)) d with
        |none=>rfl
        |some u=>
         obtain⟨y,hy,_⟩:=q6x _ _ _ _ hh
         rw[hnone] at hy;cases hy
       rcases hf.ended.wr with⟨_,he2⟩|⟨d0,wr,hw0,_,he2⟩|⟨d0,wr,H,v,p,nx,hw0,_,_,he2⟩
       ·subst he2;exact hnone
       ·subst he2;exact hnone
       ·subst he2
        cases d0 with
        |none=>exact hlose p
        |some d0=>
         simp only[look]
         split
         ·rename_i hdd
          subst hdd
          rcases hf.seg.wr with⟨_,hn0⟩|⟨r0,x0,hr0,hk0,hg0,_⟩
          ·rw[hn0] at hw0;cases hw0
          ·rw[hg0] at hw0
           simp only[Option.some.injEq,Prod.mk.injEq] at hw0
           have hqr:q.i≠r0.i:=fun e=>by
            obtain rfl:=hf.ok.good.inj q hq r0 hr0 e
            obtain⟨_,hkk,_⟩:=q1Y hql
            rw[hk0] at hkk;cases hkk
           exact absurd hw0.1 (q3O hf.ok hq hr0 hqr hd)
         ·exact hlose p
theorem q8k{id:Nat}{gs:List Seg}{s s':S}{a:Act}{w:World}{F:Nat→Prop}{σ:Nat→Option Loc}(hm:P.follows .mixedOrders=true)(hK:K.Sound P)(hok:q4D P ops n gs=true)(hev:q1K K s gs=some s')(hst:StRel K X base w0 F0 m0 σ0 n s a w F σ)
  (hQ:∀ a w F σ,StRel K X base w0 F0 m0 σ0 n s' a w F σ→Q .normal a w):(Code.region id ops true).wp P Q a w:=by
 simp only[q4D,Bool.and_eq_true] at hok
 refine wp_region_any hm ?_
 have hno:∀ i,(Array.replicate ops.size false).getD i false=false:=by
  intro i
  simp only[Array.getD_eq_getD_getElem?,Array.getElem?_replicate]
  split <;> rfl
 refine q5X hK (z0L hok.2) s' hQ gs [] 0 s hok.1 hev (fun j hj=>by simp at hj) hst.dom hst.nxm hst.xm ops.size _ a _ (by simp) ?_ (fun i hi=>by omega) (fun i _ h=>by simp only[Li] at h;rw[hno] at h;cases h) (fun i _ h=>by simp only[Li] at h;rw[hno] at h;cases h) (fun g gs' he R s1 T s2 news l hf=>?_)
 ·unfold q0w
  refine Nat.le_trans (List.length_filter_le _ _) ?_
  simp
 ·refine(q0P (P:=P) (ops:=ops) (B:=tabB (z1Y gs)) (R:=R) (s':=s2) hf.traced (hst.drawn _)).congr (fun r hr=>?_)
  exact⟨fun h=>h.elim,fun h=>by simp only[Li] at h;rw[hno] at h;cases h⟩
end Go.Vm
end

section
namespace Go.Vm
open Go.RowKit
variable {P:Program}{K:Cx}{n:Nat}{X:Nat→Nat→Prop}{base:Nat}{w0:World}{F0:Nat→Prop}{m0:Nat}{σ0:Nat→Option Loc}{ops:Array Oper}{Q:Exit→Act→World→Prop}
def q6j(π:List Nat)(o:Oper):Oper:={ o with after:=o.after.map fun e=>{ e with on:=π.idxOf e.on } }
def q2w(π:List Nat)(ops:Array Oper):Array Oper:=(π.map fun i=>q6j π ((ops[i]?).getD default)).toArray
def z4b(π:List Nat)(ops:Array Oper):Bool:=decide (π.length=ops.size)&&decide (π.Nodup)&&π.all (fun i=>decide (i<ops.size))&&(List.range ops.size).all (fun i=>π.contains i)&&ops.toList.all fun o=>o.guard.isNone
theorem q7N(π:List Nat)(o:Oper):q2A (q6j π o)=(q2A o).map π.idxOf:=by
 unfold q2A q6j
 simp only[Array.toList_map]
 induction o.after.toList with
 |nil=>rfl
 |cons e l ih=>
  simp only[List.map_cons,List.filter_cons]
  have hb:Region.binds .any ({ e with on:=π.idxOf e.on }:Edge)=Region.binds .any e:=rfl
  rw[hb]
  split
  ·simp only[List.map_cons,ih]
  ·exact ih
theorem z8Y(π:List Nat)(o:Oper)(a:Act)(w:World)(Kn:Act→World→Prop):(q6j π o).wp P a w Kn Q↔o.wp P a w Kn Q:=Iff.rfl
structure Perm(π:List Nat)(ops:Array Oper):Prop where
 len:π.length=ops.size
 nd:π.Nodup
 mem:∀ i,i∈π↔i<ops.size
 gd:∀(i:Nat) (o:Oper),ops[i]? = some o→o.guard=none
theorem z8W{π:List Nat}(h:z4b π ops=true):Perm π ops:=by
 simp only[z4b,Bool.and_eq_true,decide_eq_true_eq,List.all_eq_true,List.contains_eq_mem,List.mem_range,Option.isNone_iff_eq_none] at h
 obtain⟨⟨⟨⟨h1,h2⟩,h3⟩,h4⟩,h5⟩:=h
 refine⟨h1,h2,fun i=>⟨h3 i,fun hi=>by simpa using h4 i hi⟩,fun i o ho=>h5 o ?_⟩
 exact Array.mem_toList_iff.2 (Array.mem_of_getElem? ho)
theorem q6f{π:List Nat}(h:Perm π ops):(q2w π ops).size=ops.size:=by simp [q2w,h.len]
theorem z4I{π:List Nat}(h:Perm π ops){i:Nat}(hi:i<ops.size):π.idxOf i<ops.size:=by
 rw[←h.len];exact List.idxOf_lt_length_of_mem ((h.mem i).2 hi)
theorem j0T{π:List Nat}(h:Perm π ops){i:Nat}(hi:¬ i<ops.size):π.idxOf i=ops.size:=by
 rw[←h.len];exact List.idxOf_eq_length (fun hm=>hi ((h.mem i).1 hm))
theorem q7X{π:List Nat}(h:Perm π ops){i:Nat}{o:Oper}(ho:ops[i]? = some o):(q2w π ops)[π.idxOf i]? = some (q6j π o):=by
 have hi:i<ops.size:=(Array.getElem?_eq_some_iff.1 ho).1
 have hm:=(h.mem i).2 hi
 have hg:π[π.idxOf i]? = some i:=by
  rw[List.getElem?_eq_getElem (List.idxOf_lt_length_of_mem hm)]
  simp
 simp only[q2w,List.getElem?_toArray,List.getElem?_map,hg,Option.map_some,ho,Option.getD_some]
theorem z2e{bs:List Nat}(hn:bs.Nodup){i b:Nat}(h:bs[i]? = some b):bs.idxOf b=i:=by
 obtain⟨hi,rfl⟩:=List.getElem?_eq_some_iff.1 h
 exact hn.idxOf_getElem i hi
theorem q7t{π:List Nat}(h:Perm π ops){la lb:Array Bool}(ha:la.size=ops.size)(hb:lb.size=ops.size)(hl:∀ i,la.getD i false=lb.getD (π.idxOf i) false){i:Nat}(hi:i∈Region.ready .any ops la):π.idxOf i∈Region.ready .any (q2w π ops) lb:=by
 rw[q4p] at hi ⊢
 obtain⟨h1,h2,o,h3,h4⟩:=hi
 have hk:=z4I h h1
 refine⟨by rw[q6f h];exact hk,?_,_,q7X h h3,?_⟩
 ·have e1:lb.getD (π.idxOf i) true=lb.getD (π.idxOf i) false:=q4E lb (π.idxOf i) hb hk
  rw[e1,←hl,←q4E la i ha h1]
  exact h2
 ·rw[q7N]
  intro j hj
  obtain⟨j0,hj0,rfl⟩:=List.mem_map.1 hj
  rw[←hl]
  exact h4 j0 hj0
theorem z6J{π:List Nat}(h:Perm π ops):∀(fuel:Nat)(la lb:Array Bool)(a:Act)(w:World),la.size=ops.size→lb.size=ops.size→(∀ i,la.getD i false=lb.getD (π.idxOf i) false)→
  wpAny P .any (q2w π ops) Q fuel lb a w→wpAny P .any ops Q fuel la a w:=by
 have none_of:∀ {la lb:Array Bool},la.size=ops.size→lb.size=ops.size→(∀ i,la.getD i false=lb.getD (π.idxOf i) false)→Region.ready .any ops la=[]→Region.ready .any (q2w π ops) lb=[]:=by
  intro la lb ha hb hl h0
  refine List.eq_nil_iff_forall_not_mem.2 fun k hk=>?_
  rw[q4p] at hk
  obtain⟨k1,k2,o',k3,k4⟩:=hk
  rw[q6f h] at k1
  have hkm:k<π.length:=by rw[h.len];exact k1
  have hik:π.idxOf π[k]=k:=z2e h.nd (List.getElem?_eq_getElem hkm)
  have hi:π[k]<ops.size:=(h.mem _).1 (List.getElem_mem hkm)
  have ho:=Array.getElem?_eq_getElem hi
  have hg:=q7X h ho
  rw[hik,k3] at hg
  obtain rfl:=Option.some.inj hg
  have:π[k]∈Region.ready .any ops la:=by
   rw[q4p]
   refine⟨hi,?_,_,ho,fun j hj=>?_⟩
   ·rw[q4E la _ ha hi,hl,hik,←q4E lb k hb k1];exact k2
   ·rw[hl]
    refine k4 _ ?_
    rw[q7N]
    exact List.mem_map.2 ⟨j,hj,rfl⟩
  rw[h0] at this
  cases this
 intro fuel
 induction fuel with
 |zero=>
  intro la lb a w ha hb hl hw
  obtain⟨h1,h2⟩:=hw
  refine⟨List.eq_nil_iff_forall_not_mem.2 fun i hi=>?_,h2⟩
  have:=q7t h ha hb hl hi
  rw[h1] at this
  cases this
 |succ fuel ih=>
  intro la lb a w ha hb hl hw
  obtain⟨h1,h2⟩:=hw
  refine⟨fun h0=>h1 (none_of ha hb hl h0),fun i hi=>?_⟩
  have hk:=h2 _ (q7t h ha hb hl hi)
  rw[q4p] at hi
  obtain⟨q1,_,o,q3,_⟩:=hi
  have step:∀ a w,wpAny P .any (q2w π ops) Q fuel (lb.setIfInBounds (π.idxOf i) true) a w→wpAny P .any ops Q fuel (la.setIfInBounds i true) a w:=by
   intro a w hw
   refine ih _ _ a w (by simp [ha]) (by simp [hb]) (fun j=>?_) hw
   rw[q1E la i j (by omega) false,q1E lb (π.idxOf i) (π.idxOf j) (by rw[hb];exact z4I h q1) false,hl]
   by_cases hj:j=i
   ·subst hj;simp
   ·rw[if_neg hj]
    by_cases hjs:j<ops.size
    ·rw[if_neg]
     intro he
     have e1:π[π.idxOf j]'(List.idxOf_lt_length_of_mem ((h.mem j).2 hjs))=j:=by simp
     have e2:π[π.idxOf i]'(List.idxOf_lt_length_of_mem ((h.mem i).2 q1))=i:=by simp
     apply hj
     rw[←e1,←e2]
     congr 1
    ·rw[if_neg]
     intro he
     rw[j0T h hjs] at he
     have:=z4I h q1
     omega
  unfold wpOp at hk ⊢
  rw[q7X h q3] at hk
  rw[q3]
  have hg:=h.gd i o q3
  have w1:∀ y,Region.wanted (q6j π o) y=true:=fun y=>by
   have:(q6j π o).guard=none:=hg
   simp [Region.wanted,this]
  have w2:∀ y,Region.wanted o y=true:=fun y=>by simp [Region.wanted,hg]
  simp only[w1,w2,if_true] at hk ⊢
  exact hk.imp (fun h=>Oper.wp_mono step ((z8Y π o a w _).1 h)) (fun h=>h)
def q8m(P:Program)(ops:Array Oper)(n:Nat)(π:List Nat)(gs:List Seg):Bool:=z4b π ops&&q4D P (q2w π ops) n gs
theorem z2E{π:List Nat}{gs:List Seg}{s s':S}{a:Act}{w:World}{F:Nat→Prop}{σ:Nat→Option Loc}(hK:K.Sound P)(hok:q8m P ops n π gs=true)(hev:q1K K s gs=some s')(hst:StRel K X base w0 F0 m0 σ0 n s a w F σ)
  (hQ:∀ a w F σ,StRel K X base w0 F0 m0 σ0 n s' a w F σ→Q .normal a w):wpAny P .any ops Q ops.size (Array.replicate ops.size false) a { w with drawn:=w.drawn+1 }:=by
 simp only[q8m,q4D,Bool.and_eq_true] at hok
 obtain⟨hpm,hok⟩:=hok
 have hp:=z8W hpm
 refine z6J hp ops.size _ (Array.replicate ops.size false) a _ (by simp) (by simp) (fun i=>?_) ?_
 ·simp only[Array.getD_eq_getD_getElem?,Array.getElem?_replicate]
  split <;> split <;> rfl
 have hsz:=q6f hp
 generalize q2w π ops=ops' at hok hsz
 rw[←hsz]
 have hno:∀ i,(Array.replicate ops'.size false).getD i false=false:=by
  intro i
  simp only[Array.getD_eq_getD_getElem?,Array.getElem?_replicate]
  split <;> rfl
 refine q5X (ops:=ops') hK (z0L hok.2) s' hQ gs [] 0 s hok.1 hev (fun j hj=>by simp at hj) hst.dom hst.nxm hst.xm ops'.size _ a _ (by simp) ?_ (fun i hi=>by omega) (fun i _ h=>by simp only[Li] at h;rw[hno] at h;cases h) (fun i _ h=>by simp only[Li] at h;rw[hno] at h;cases h) (fun g gs' he R s1 T s2 news l hf=>?_)
 ·unfold q0w
  refine Nat.le_trans (List.length_filter_le _ _) ?_
  simp
 ·refine(q0P (P:=P) (ops:=ops') (B:=tabB (z1Y gs)) (R:=R) (s':=s2) hf.traced (hst.drawn _)).congr (fun r hr=>?_)
  exact⟨fun h=>h.elim,fun h=>by simp only[Li] at h;rw[hno] at h;cases h⟩
end Go.Vm
end

section
namespace Go.Vm
open Go.RowKit
variable {P:Program}{K:Cx}{n:Nat}{X:Nat→Nat→Prop}{base:Nat}{w0:World}{F0:Nat→Prop}{m0:Nat}{σ0:Nat→Option Loc}{Q:Exit→Act→World→Prop}
def one:List Seg→Option Seg
 |[g]=>some g
 |_=>none
def chk(P:Program)(m n:Nat):C→Code→Bool
 |.stuck,_=>true
 |.skip,.skip=>true
 |.reg l,.region _ ops draw=>if draw then z0y P ops n l else q4a P ops n 0 l
 |.seq (.tidy m' _) b,c=>m'==m&&chk P m n b c
 |.seq (.own t _) b,c=>decide (t<n)&&chk P m n b c
 |.seq (.keep _) b,c=>chk P m n b c
 |.seq (.frz m' _ _) b,c=>(m'==m)&&chk P m n b c
 |.seq (.ownc _ _ _) b,c=>chk P m n b c
 |.regl l,.region _ ops draw=>draw&&q4D P ops n l
 |.regp π l,.region _ ops draw=>draw&&q8m P ops n π l
 |.regg m' l,.region _ ops draw=>(m'==m)&&if draw then q8n P ops n l else q2T P ops n 0 l
 |.seq a b,.seq x y=>chk P m n a x&&chk P m n b y
 |.cond e a b,.cond c x y=>decide (q0h P [] 0 c=some e)&&chk P m n a x&&chk P m n b y
 |.block id c,.block id' x=>id==id'&&chk P m n c x
 |.loop c,.loop x=>chk P m n c x
 |.exit id,.exit id'=>id==id'
 |.scope c ls,.scope x=>chk P m n c x&&chk P m n ls x
 |.lnil,_=>true
 |.lcons l c ls,x=>(match findLabel x l with|some rest=>chk P m n c rest|none=>false)&&chk P m n ls x
 |.label l,.label l'=>l==l'
 |.goto l,.goto l'=>l==l'
 |.ret,.ret=>true
 |_,_=>false
def Ex.to:Ex→Exit
 |.nrm=>.normal
 |.exit id=>.exit id
 |.goto l=>.goto l
 |.ret=>.ret
def Post(K:Cx)(X:Nat→Nat→Prop)(base:Nat)(w0:World)(F0:Nat→Prop)(m0:Nat)(σ0:Nat→Option Loc)(n:Nat)(r:Ex×S)(e:Exit)(a:Act)(w:World):Prop:=
 e=r.1.to∧∃ F σ,StRel K X base w0 F0 m0 σ0 n r.2 a w F σ
theorem z4j{bs:List Nat}(hn:bs.Nodup){i b:Nat}(h:bs[i]? = some b):bs.idxOf b=i:=by
 obtain⟨hi,rfl⟩:=List.getElem?_eq_some_iff.1 h
 exact hn.idxOf_getElem i hi
theorem q6w(H:List (Nat×Blk))(bs0:List Nat):∀(bs:List Nat)(k i:Nat)(x:Blk),look ((bs.zipIdx k).filterMap fun p=>(look H p.1).map fun blk=>(p.2,blk.ren bs0.idxOf)) i=some x→k≤i∧∃ b x0,bs[i - k]? = some b∧look H b=some x0∧x=x0.ren bs0.idxOf
 |[],k,i,x,h=>by simp [look] at h
 |b :: bs,k,i,x,h=>by
  simp only[List.zipIdx_cons,List.filterMap_cons] at h
  have rest:look ((bs.zipIdx (k+1)).filterMap fun p=>(look H p.1).map fun blk=>(p.2,blk.ren bs0.idxOf)) i=some x→k≤i∧∃ b' x0,(b :: bs)[i - k]? = some b'∧look H b'=some x0∧x=x0.ren bs0.idxOf:=by
   intro h
   obtain⟨h1,b',x0,h2,h3,h4⟩:=q6w H bs0 bs (k+1) i x h
   refine⟨by omega,b',x0,?_,h3,h4⟩
   have:i - k=(i - (k+1))+1:=by omega
   rw[this,List.getElem?_cons_succ]
   exact h2
  cases hb:look H b with
  |none=>
   simp only[hb,Option.map_none] at h
   exact rest h
  |some x0=>
   simp only[hb,Option.map_some,look] at h
   split at h
   ·rename_i he
    subst he
    exact⟨Nat.le_refl _,b,x0,by simp,hb,(Option.some.inj h).symm⟩
   ·exact rest h
theorem StRel.tidy{s s':S}{a:Act}{w:World}{F:Nat→Prop}{σ:Nat→Option Loc}{slots:List Nat}(ht:q5z m0 slots s=some s')(h:StRel K X base w0 F0 m0 σ0 n s a w F σ):∃ σ',StRel K X base w0 F0 m0 σ0 n s' a w F σ':=by
 unfold q5z at ht
 simp only at ht
 split at ht
 case isFalse=>cases ht
 rename_i hc
 obtain rfl:=Option.some.inj ht
 generalize hbs:q0N s.heap (refN s.heap+64) [] (List.range m0++refsL ((q0f s.rho slots).map (·.2)))=bs at hc
 simp only[Bool.and_eq_true,decide_eq_true_eq,List.all_eq_true] at hc
 obtain⟨⟨⟨hnd,hpre⟩,hwi⟩,hcl⟩:=hc
 simp only[closedB,List.all_eq_true] at hcl
 have hF:∀ b,F b→F b∧w.heap[b]? = w.heap[b]?:=fun b hb=>⟨hb,rfl⟩
 have hσ:∀ b l,bs.contains b=true→σ b=some l→inn bs σ (bs.idxOf b)=some l:=fun b l h1 h2=>by rw[z0l (by simpa using h1)];exact h2
 refine⟨inn bs σ,⟨fun i x hx=>?_,fun i j l l' h1 h2 he=>?_,fun i l hi=>?_,h.heap.fro⟩,h.glob,h.le,h.frame,h.frz,h.size,h.dfr,fun t v hv=>?_,fun i x hx=>?_,fun b l hb h0 hm=>?_,?_,h.xm,h.sub⟩
 ·obtain⟨_,b,x0,h1,h2,rfl⟩:=q6w s.heap bs bs 0 i x hx
  rw[Nat.sub_zero] at h1
  have hσi:inn bs σ i=σ b:=by unfold inn;rw[h1]
  have hb:=hcl b (List.mem_of_getElem? h1)
  rw[h2] at hb
  exact(h.heap.blk b x0 h2).ren (w':=w) (F':=F) (p:=bs.contains) hF (fun _ _ h=>h) hσ hb (fun l hl=>by rw[hσi];exact hl) (fun hl=>by rw[hσi];exact hl) (fun _ _=>rfl)
 ·obtain⟨b,hb1,h3⟩:=q1d h1
  obtain⟨b',hb2,h4⟩:=q1d h2
  obtain rfl:=h.heap.inj b b' l l' h3 h4 he
  exact(List.getElem?_inj (List.getElem?_eq_some_iff.1 hb1).1 hnd).1 (hb1.trans hb2.symm)
 ·obtain⟨b,hb1,h3⟩:=q1d hi
  obtain⟨_,o2,o3,o4⟩:=h.heap.own b l h3
  refine⟨(List.getElem?_eq_some_iff.1 hb1).1,o2,o3.imp id (fun hx=>?_),o4⟩
  have hbm:=h.xm b _ hx
  have:bs[b]? = some b:=by
   have:(bs.take m0)[b]? = some b:=by rw[hpre];simp [hbm]
   simpa [List.getElem?_take,hbm] using this
  have:=(List.getElem?_inj (List.getElem?_eq_some_iff.1 hb1).1 hnd).1 (hb1.trans this.symm)
  rw[this]
  exact hx
 ·simp only at hv
  rw[show((q0f s.rho slots).map fun p=>(p.1,p.2.ren bs.idxOf))=(q0f s.rho slots).map fun(t,v)=>(t,(V.ren bs.idxOf) v) from rfl,q2K] at hv
  simp only[Option.map_eq_some_iff] at hv
  obtain⟨v0,h1,rfl⟩:=hv
  have hm:=z01 _ _ _ h1
  exact((h.rho t v0 (q0z _ _ _ _ h1).2).ren (base':=base) (fun _ _ h=>h) hσ (hwi _ hm))
 ·obtain⟨_,b,x0,h1,_⟩:=q6w s.heap bs bs 0 i x hx
  rw[Nat.sub_zero] at h1
  exact(List.getElem?_eq_some_iff.1 h1).1
 ·have hb2:bs[b]? = some b:=by
   have:(bs.take m0)[b]? = some b:=by rw[hpre];simp [hb]
   simpa [List.getElem?_take,hb] using this
  unfold inn
  rw[hb2]
  refine h.stab b l hb h0 fun hm'=>hm ?_
  simp only[List.mem_filter,List.mem_range]
  exact⟨hb,by simpa using hm'⟩
 ·have:=congrArg List.length hpre
  simp only[List.length_take,List.length_range] at this
  show m0≤bs.length
  omega
theorem StRel.own{s:S}{a:Act}{w:World}{F:Nat→Prop}{σ:Nat→Option Loc}{t k k':Nat}{c:Bool}(hl:look s.rho t=some (.fs c k' []))(h:StRel K X base w0 F0 m0 σ0 n s a w F σ) :
  StRel K X base w0 F0 m0 σ0 n ⟨put s.rho t (.bsl s.nx 0 0),(s.nx,.dat true k []) :: s.heap,s.nx+1,s.mv⟩ a w F σ:=by
 have hnone:σ s.nx=none:=by
  cases hs:σ s.nx with
  |none=>rfl
  |some l=>have:=(h.heap.own _ l hs).1;omega
 refine⟨⟨fun b blk hb=>?_,h.heap.inj,fun b l hb=>⟨by have:=(h.heap.own b l hb).1;show b<s.nx+1;omega,(h.heap.own b l hb).2⟩,h.heap.fro⟩,h.glob,h.le,h.frame,h.frz,h.size,h.dfr,fun u v hv=>?_,fun b blk hb=>?_,h.stab,by have:=h.nxm;show m0≤s.nx+1;omega,h.xm,h.sub⟩
 ·simp only[look] at hb
  split at hb
  ·rename_i he
   subst he
   obtain rfl:=Option.some.inj hb
   exact .inl ⟨rfl,hnone⟩
  ·exact h.heap.blk b blk hb
 ·simp only at hv
  rw[q0x] at hv
  split at hv
  ·rename_i he
   subst he
   obtain rfl:=Option.some.inj hv
   have:=h.rho t _ hl
   generalize a.tmps.getD t undef=u at this ⊢
   cases this with
   |fs _ ad len _ _ hd=>
    cases hd with
    |sl0=>exact .bsl0 _ _ _
    |sl b o l cap k rows g h1=>simp at h1;subst h1;exact .bsl0 _ _ _
  ·exact h.rho u v hv
 ·simp only[look] at hb
  split at hb
  ·rename_i he;show b<s.nx+1;omega
  ·have:=h.dom b blk hb;show b<s.nx+1;omega
theorem StRel.ownc{s:S}{a:Act}{w:World}{F:Nat→Prop}{σ:Nat→Option Loc}(t j k:Nat)(h:StRel K X base w0 F0 m0 σ0 n s a w F σ):StRel K X base w0 F0 m0 σ0 n (z6K t j k s) a w F σ:=by
 unfold z6K
 split
 case h_2=>exact h
 rename_i b hb
 split
 case h_2=>exact h
 rename_i k0 row hrow
 split
 case h_2=>exact h
 rename_i c k' hj
 split
 case isFalse=>exact h
 have hnone:σ s.nx=none:=by
  cases hs:σ s.nx with
  |none=>rfl
  |some l=>have:=(h.heap.own _ l hs).1;omega
 refine⟨⟨fun i blk hi=>?_,h.heap.inj,fun b l hb=>⟨by have:=(h.heap.own b l hb).1;show b<s.nx+1;omega,(h.heap.own b l hb).2⟩,h.heap.fro⟩,h.glob,h.le,h.frame,h.frz,h.size,h.dfr,h.rho,fun i blk hi=>?_,h.stab,by have:=h.nxm;show m0≤s.nx+1;omega,h.xm,h.sub⟩
 ·simp only[look] at hi
  split at hi
  ·rename_i he
   subst he
   obtain rfl:=Option.some.inj hi
   exact .inl ⟨rfl,hnone⟩
  ·rw[q0x] at hi
   split at hi
   ·rename_i he
    subst he
    obtain rfl:=Option.some.inj hi
    rcases h.heap.blk b _ hrow with⟨hz,_⟩|⟨_,_,_,_,hmap,_⟩|⟨lb,cs,T,q1,q2,q3,q4,q5,q6,q7⟩
    ·simp [Blk.n] at hz
    ·cases hmap
    ·refine .inr (.inr ⟨lb,cs,T,q1,q2,q3,q4,q5,fun i r hr=>?_,rfl⟩)
     cases i with
     |succ i=>simp [Blk.row?] at hr
     |zero=>
      simp only[Blk.row?,List.getElem?_cons_zero,Option.some.injEq] at hr
      subst hr
      obtain⟨g1,g2⟩:=q6 0 row rfl
      refine⟨by simpa [Blk.k] using g1,fun jj x hx=>?_⟩
      by_cases hjj:j=jj
      ·subst hjj
       have hlt:j<row.length:=(List.getElem?_eq_some_iff.1 hj).1
       rw[List.getElem?_set_self (by simpa using hlt)] at hx
       obtain rfl:=Option.some.inj hx
       obtain⟨v,g3,g4,g5⟩:=g2 j _ hj
       refine⟨v,g3,g4,?_⟩
       cases g5 with
       |fs _ ad len _ _ hd=>
        cases hd with
        |sl0=>exact .bsl0 _ _ _
        |sl b o l cap k rows g h1=>simp at h1;subst h1;exact .bsl0 _ _ _
      ·rw[List.getElem?_set_ne hjj] at hx
       exact g2 jj x hx
   ·exact h.heap.blk i blk hi
 ·simp only[look] at hi
  split at hi
  ·rename_i he;show i<s.nx+1;omega
  ·rw[q0x] at hi
   split at hi
   ·rename_i he;subst he;have:=h.dom _ _ hrow;show b<s.nx+1;omega
   ·have:=h.dom i blk hi;show i<s.nx+1;omega
theorem q7b{c:Code}(J:Nat→Act→World→Prop)(h0:∀ a w,¬ J 0 a w)(round:∀ m a w,J (m+1) a w→c.wp P (Exit.then (J m) Q) a w){m:Nat}{a:Act}{w:World}(h:J m a w):(Code.loop c).wp P Q a w:=by
 intro b k cs
 have key:∀ m a w,J m a w→∃ e a' w',Q e a' w'∧Arrives P (lone (b.at a (.code c :: .inLoop c :: k)) cs w) b k cs e a' w':=by
  intro m
  induction m with
  |zero=>intro a w h;exact absurd h (h0 a w)
  |succ m ih=>
   intro a w hI
   obtain⟨e,a₁,w₁,hq,harr⟩:=round m a w hI b (.inLoop c :: k) cs
   cases e with
   |normal=>
    obtain⟨e₂,a₂,w₂,hq₂,harr₂⟩:=ih a₁ w₁ hq
    exact⟨e₂,a₂,w₂,hq₂,.of_steps (Steps.trans harr (.one step_inLoop)) harr₂⟩
   |exit id=>exact⟨_,a₁,w₁,hq,.pass (x:=.inLoop c) rfl (fun _ _=>.inl (by simp)) harr⟩
   |goto l=>exact⟨_,a₁,w₁,hq,.pass (x:=.inLoop c) rfl (fun _ _=>.inl (by simp)) harr⟩
   |ret=>exact⟨_,a₁,w₁,hq,.pass (x:=.inLoop c) rfl (fun _ _=>.inl (by simp)) harr⟩
   |panic ch=>exact⟨_,a₁,w₁,hq,.pass (x:=.inLoop c) rfl (fun _ _=>.inl (by simp)) harr⟩
   |outgrown=>exact⟨_,a₁,w₁,hq,.pass (x:=.inLoop c) rfl (fun _ _=>.inl (by simp)) harr⟩
 obtain⟨e,a',w',hq,harr⟩:=key m a w h
 exact⟨e,a',w',hq,.of_steps (.one step_loop) harr⟩
theorem z4N{a:Act}{w:World}{F:Nat→Prop}{σ:Nat→Option Loc}{s:S}(h:StRel K X base w0 F0 m0 σ0 n s a w F σ){x:Operand}{t:TypeId}{e:E}{r:V}(he:q0h P [] t x=some e)(hr:ev K s e=some r):RepV w F base σ (a.eval x) r:=by
 have:Held P K s [] w F base σ a x:=by
  cases x with
  |const v=>exact q45
  |global g=>exact q6F h.glob
  |func f=>exact q6G
  |tmp t=>
   refine q8a fun r hr=>?_
   simp only[Env.get,look,ev] at hr
   exact h.rho t r hr
 exact this t e r he hr
def Exit.jumpR(J:Nat→Act→World→Prop)(Q:Exit→Act→World→Prop):Exit→Act→World→Prop
 |.goto l,a,w=>J l a w
 |e,a,w=>Q e a w
theorem q50{c:Code}(J:Nat→Nat→Act→World→Prop)(h0:∀ l a w,¬ J 0 l a w)(round:∀ m l a w,J (m+1) l a w→∃ rest,findLabel c l=some rest∧rest.wp P (Exit.jumpR (J m) Q) a w){m:Nat}{a:Act}{w:World}(first:c.wp P (Exit.jumpR (J m) Q) a w):(Code.scope c).wp P Q a w:=by
 intro b k cs
 have key:∀ m l rest a w,findLabel c l=some rest→J m l a w→∃ e a' w',Q e a' w'∧Arrives P (lone (b.at a (.code rest :: .inScope c :: k)) cs w) b k cs e a' w':=by
  intro m
  induction m with
  |zero=>intro l rest a w _ h;exact absurd h (h0 l a w)
  |succ m ih=>
   intro l rest a w hf hJ
   obtain⟨rest',hf',hwp⟩:=round m l a w hJ
   rw[hf] at hf'
   obtain rfl:=Option.some.inj hf'
   obtain⟨e,a₁,w₁,hq,harr⟩:=hwp b (.inScope c :: k) cs
   cases e with
   |normal=>exact⟨.normal,a₁,w₁,hq,Steps.trans harr (.one step_inScope)⟩
   |exit id=>exact⟨.exit id,a₁,w₁,hq,fun k' hk=>harr k' (by simp [exitTo,hk])⟩
   |goto l'=>
    have hq':J m l' a₁ w₁:=hq
    cases m with
    |zero=>exact absurd hq' (h0 l' a₁ w₁)
    |succ m=>
     obtain⟨rest2,hf2,_⟩:=round m l' a₁ w₁ hq'
     obtain⟨e₂,a₂,w₂,hq₂,harr₂⟩:=ih l' rest2 a₁ w₁ hf2 hq'
     have hg:gotoIn l' (.inScope c :: k)=some (.code rest2 :: .inScope c :: k):=by simp [gotoIn,hf2]
     exact⟨e₂,a₂,w₂,hq₂,.of_steps (harr _ hg) harr₂⟩
   |ret=>exact⟨_,a₁,w₁,hq,harr⟩
   |panic ch=>exact⟨_,a₁,w₁,hq,harr⟩
   |outgrown=>exact⟨_,a₁,w₁,hq,harr⟩
 obtain⟨e,a₁,w₁,hq,harr⟩:=first b (.inScope c :: k) cs
 cases e with
 |normal=>exact⟨.normal,a₁,w₁,hq,.head step_scope (Steps.trans harr (.one step_inScope))⟩
 |exit id=>exact⟨.exit id,a₁,w₁,hq,fun k' hk=>.head step_scope (harr k' (by simp [exitTo,hk]))⟩
 |goto l'=>
  have hq':J m l' a₁ w₁:=hq
  cases m with
  |zero=>exact absurd hq' (h0 l' a₁ w₁)
  |succ m=>
   obtain⟨rest2,hf2,_⟩:=round m l' a₁ w₁ hq'
   obtain⟨e₂,a₂,w₂,hq₂,harr₂⟩:=key _ l' rest2 a₁ w₁ hf2 hq'
   have hg:gotoIn l' (.inScope c :: k)=some (.code rest2 :: .inScope c :: k):=by simp [gotoIn,hf2]
   exact⟨e₂,a₂,w₂,hq₂,.of_steps (.head step_scope (harr _ hg)) harr₂⟩
 |ret=>exact⟨_,a₁,w₁,hq,.of_steps (.one step_scope) harr⟩
 |panic ch=>exact⟨_,a₁,w₁,hq,.of_steps (.one step_scope) harr⟩
 |outgrown=>exact⟨_,a₁,w₁,hq,.of_steps (.one step_scope) harr⟩
theorem z47(hm:P.follows .mixedOrders=true)(hK:K.Sound P):∀(c:C),(∀(code:Code)(s:S)(r:Ex×S)(a:Act)(w:World)(F:Nat→Prop)(σ:Nat→Option Loc),chk P m0 n c code=true→exec K c s=some r→StRel K X base w0 F0 m0 σ0 n s a w F σ→
  code.wp P (Post K X base w0 F0 m0 σ0 n r) a w)∧
  ∀(code:Code) (l:Nat) (g:S→Option (Ex×S)),chk P m0 n c code=true→exec.labelled K c l=some g→∃ rest,findLabel code l=some rest∧∀(s:S) (r:Ex×S) (a:Act) (w:World) (F:Nat→Prop) (σ:Nat→Option Loc),g s=some r→StRel K X base w0 F0 m0 σ0 n s a w F σ→rest.wp P (Post K X base w0 F0 m0 σ0 n r) a w:=by
 intro c
 induction c with
 |skip=>
  refine⟨?_,fun code l g _ h=>by simp [exec.labelled] at h⟩
  intro code s r a w F σ hc he hs
  cases code <;> simp only[chk] at hc <;> (try(cases hc;done))
  simp only[exec,Option.some.injEq] at he
  subst he
  exact wp_skip ⟨rfl,F,σ,hs⟩
 |ownc t j k=>
  refine⟨?_,fun code l g _ h=>by simp [exec.labelled] at h⟩
  intro code s r a w F σ hc he hs
  cases code <;> simp [chk] at hc
 |regl l=>
  refine⟨?_,fun code l g _ h=>by simp [exec.labelled] at h⟩
  intro code s r a w F σ hc he hs
  cases code <;> simp only[chk] at hc <;> (try(cases hc;done))
  rename_i id ops draw
  simp only[Bool.and_eq_true] at hc
  obtain⟨rfl,hc⟩:=hc
  simp only[exec] at he
  cases hev:q1K K s l with
  |none=>simp [hev] at he
  |some s'=>
   simp only[hev,Option.some.injEq] at he
   subst he
   exact q8k hm hK hc hev hs fun a w F σ h=>⟨rfl,F,σ,h⟩
 |regp π l=>
  refine⟨?_,fun code l g _ h=>by simp [exec.labelled] at h⟩
  intro code s r a w F σ hc he hs
  cases code <;> simp only[chk] at hc <;> (try(cases hc;done))
  rename_i id ops draw
  simp only[Bool.and_eq_true] at hc
  obtain⟨rfl,hc⟩:=hc
  simp only[exec] at he
  cases hev:q1K K s l with
  |none=>simp [hev] at he
  |some s'=>
   simp only[hev,Option.some.injEq] at he
   subst he
   exact wp_region_any hm (z2E hK hc hev hs fun a w F σ h=>⟨rfl,F,σ,h⟩)
 |regg m' l=>
  refine⟨?_,fun code l g _ h=>by simp [exec.labelled] at h⟩
  intro code s r a w F σ hc he hs
  cases code <;> simp only[chk] at hc <;> (try(cases hc;done))
  rename_i id ops draw
  simp only[Bool.and_eq_true] at hc
  obtain⟨hm',hc⟩:=hc
  obtain rfl:m'=m0:=by simpa using hm'
  simp only[exec] at he
  cases hev:q2i m' K s l with
  |none=>simp [hev] at he
  |some s'=>
   simp only[hev,Option.some.injEq] at he
   subst he
   cases draw with
   |false=>
    simp only[Bool.false_eq_true,if_false] at hc
    exact q8F hK hc hev hs fun a w F σ h=>⟨rfl,F,σ,h⟩
   |true=>
    simp only[if_true] at hc
    exact q8l hm hK hc hev hs fun a w F σ h=>⟨rfl,F,σ,h⟩
 |reg l=>
  refine⟨?_,fun code l g _ h=>by simp [exec.labelled] at h⟩
  intro code s r a w F σ hc he hs
  cases code <;> simp only[chk] at hc <;> (try(cases hc;done))
  rename_i id ops draw
  simp only[exec] at he
  cases hev:q1N K s l with
  |none=>simp [hev] at he
  |some s'=>
   simp only[hev,Option.some.injEq] at he
   subst he
   cases draw with
   |false=>
    simp only[Bool.false_eq_true,if_false] at hc
    exact q9V hK hc hev hs fun a w F σ h=>⟨rfl,F,σ,h⟩
   |true=>
    simp only[if_true] at hc
    exact q9z hm hK hc hev hs fun a w F σ h=>⟨rfl,F,σ,h⟩
 |seq x y ihx ihy=>
  refine⟨?_,fun code l g _ h=>by simp [exec.labelled] at h⟩
  intro code s r a w F σ hc he hs
  simp only[exec] at he
  have plain:∀ cx cy,code=.seq cx cy→chk P m0 n x cx=true→chk P m0 n y cy=true→code.wp P (Post K X base w0 F0 m0 σ0 n r) a w:=by
   rintro cx cy rfl h1 h2
   cases hx:exec K x s with
   |none=>simp [hx] at he
   |some p=>
    obtain⟨ex,s'⟩:=p
    refine wp_seq (wp_mono (ihx.1 cx s _ a w F σ h1 hx hs) fun e a' w' hp=>?_)
    obtain⟨rfl,F',σ',hs'⟩:=hp
    cases ex with
    |nrm=>
     simp only[hx] at he
     exact ihy.1 cy s' r a' w' F' σ' h2 he hs'
    |exit id=>simp only[hx,Option.some.injEq] at he;subst he;exact⟨rfl,F',σ',hs'⟩
    |goto l=>simp only[hx,Option.some.injEq] at he;subst he;exact⟨rfl,F',σ',hs'⟩
    |ret=>simp only[hx,Option.some.injEq] at he;subst he;exact⟨rfl,F',σ',hs'⟩
  by_cases hkp:∃ sl,x=.keep sl
  ·obtain⟨sl,rfl⟩:=hkp
   have hc':chk P m0 n y code=true:=by cases code <;> simpa only[chk] using hc
   simp only[exec] at he
   exact ihy.1 code _ r a w F σ hc' he (hs.skipM sl)
  by_cases hgc:∃ m' sl,x=.tidy m' sl
  ·obtain⟨m',sl,rfl⟩:=hgc
   have hc':(m'==m0)=true∧chk P m0 n y code=true:=by cases code <;> simpa only[chk,Bool.and_eq_true] using hc
   obtain⟨hm',hc'⟩:=hc'
   obtain rfl:m'=m0:=by simpa using hm'
   simp only[exec] at he
   cases hts:q5z m' sl s with
   |none=>simp [hts] at he
   |some s'=>
    simp only[hts] at he
    obtain⟨σ',hs'⟩:=hs.tidy hts
    exact ihy.1 code _ r a w F σ' hc' he hs'
  ·by_cases hown:∃ t k,x=.own t k
   ·obtain⟨t,k,rfl⟩:=hown
    have hc':decide (t<n)=true∧chk P m0 n y code=true:=by cases code <;> simpa only[chk,Bool.and_eq_true] using hc
    simp only[exec] at he
    cases hl:look s.rho t with
    |none=>simp only[hl] at he;exact ihy.1 code s r a w F σ hc'.2 he hs
    |some v=>
     cases v with
     |fs c k' rows=>
      cases rows with
      |nil=>
       simp only[hl] at he
       by_cases hk:k'=k
       ·simp only[hk,if_true] at he
        exact ihy.1 code _ r a w F σ hc'.2 he (hs.own hl)
       ·simp only[hk,if_false] at he;exact ihy.1 code s r a w F σ hc'.2 he hs
      |cons _ _=>simp only[hl] at he;exact ihy.1 code s r a w F σ hc'.2 he hs
     |_=>simp only[hl] at he;exact ihy.1 code s r a w F σ hc'.2 he hs
   ·by_cases hfrz:∃ m' t j,x=.frz m' t j
    ·obtain⟨m',t,j,rfl⟩:=hfrz
     have hc':(m'==m0)=true∧chk P m0 n y code=true:=by cases code <;> simpa only[chk,Bool.and_eq_true] using hc
     obtain⟨hm',hc'⟩:=hc'
     obtain rfl:m'=m0:=by simpa using hm'
     simp only[exec] at he
     obtain⟨F',σ',hs'⟩:=hs.freeze t j
     exact ihy.1 code _ r a w F' σ' hc' he hs'
    ·by_cases hoc:∃ t j k,x=.ownc t j k
     ·obtain⟨t,j,k,rfl⟩:=hoc
      have hc':chk P m0 n y code=true:=by cases code <;> simpa only[chk] using hc
      simp only[exec] at he
      exact ihy.1 code _ r a w F σ hc' he (hs.ownc t j k)
     ·cases code with
      |seq cx cy=>
       have:chk P m0 n x cx=true∧chk P m0 n y cy=true:=by
        cases x <;> first|(exact absurd ⟨_,rfl⟩ hkp)|(exact absurd ⟨_,_,rfl⟩ hgc)|(exact absurd ⟨_,_,rfl⟩ hown)|(exact absurd ⟨_,_,_,rfl⟩ hfrz)|(exact absurd ⟨_,_,_,rfl⟩ hoc)|(simpa only[chk,Bool.and_eq_true] using hc)
       exact plain cx cy rfl this.1 this.2
      |_=>cases x <;> first|(exact absurd ⟨_,rfl⟩ hkp)|(exact absurd ⟨_,_,rfl⟩ hgc)|(exact absurd ⟨_,_,rfl⟩ hown)|(exact absurd ⟨_,_,_,rfl⟩ hfrz)|(exact absurd ⟨_,_,_,rfl⟩ hoc)|(simp [chk] at hc)
 |cond e x y ihx ihy=>
  refine⟨?_,fun code l g _ h=>by simp [exec.labelled] at h⟩
  intro code s r a w F σ hc he hs
  cases code <;> simp only[chk] at hc <;> (try(cases hc;done))
  rename_i oc cx cy
  simp only[Bool.and_eq_true,decide_eq_true_eq] at hc
  simp only[exec] at he
  cases hv:ev K s e with
  |none=>simp [hv] at he
  |some v=>
   cases v with
   |d k x=>
    cases x with
    |bool b=>
     simp only[hv] at he
     have hb:=(z4N hs hc.1.1 hv).bool_inv
     refine wp_cond hb ?_
     cases b with
     |true=>exact ihx.1 cx s r a w F σ hc.1.2 (by simpa using he) hs
     |false=>exact ihy.1 cy s r a w F σ hc.2 (by simpa using he) hs
    |_=>simp [hv] at he
   |_=>simp [hv] at he
 |block id x ih=>
  refine⟨?_,fun code l g _ h=>by simp [exec.labelled] at h⟩
  intro code s r a w F σ hc he hs
  cases code <;> simp only[chk] at hc <;> (try(cases hc;done))
  rename_i id' cx
  simp only[Bool.and_eq_true,beq_iff_eq] at hc
  obtain⟨rfl,hc⟩:=hc
  simp only[exec] at he
  cases hx:exec K x s with
  |none=>simp [hx] at he
  |some p=>
   obtain⟨ex,s'⟩:=p
   refine wp_block (wp_mono (ih.1 cx s _ a w F σ hc hx hs) fun e a' w' hp=>?_)
   obtain⟨rfl,F',σ',hs'⟩:=hp
   cases ex with
   |exit i=>
    simp only[hx] at he
    simp only[Ex.to,Exit.inBlock]
    split at he
    ·rename_i hi
     rw[if_pos hi]
     simp only[Option.some.injEq] at he
     subst he
     exact⟨rfl,F',σ',hs'⟩
    ·rename_i hi
     rw[if_neg hi]
     simp only[Option.some.injEq] at he
     subst he
     exact⟨rfl,F',σ',hs'⟩
   |nrm=>simp only[hx,Option.some.injEq] at he;subst he;exact⟨rfl,F',σ',hs'⟩
   |goto l=>simp only[hx,Option.some.injEq] at he;subst he;exact⟨rfl,F',σ',hs'⟩
   |ret=>simp only[hx,Option.some.injEq] at he;subst he;exact⟨rfl,F',σ',hs'⟩
 |loop x ih=>
  refine⟨?_,fun code l g _ h=>by simp [exec.labelled] at h⟩
  intro code s r a w F σ hc he hs
  cases code <;> simp only[chk] at hc <;> (try(cases hc;done))
  rename_i cx
  simp only[exec,q3J] at he
  split at he
  case isFalse=>cases he
  rename_i hex
  refine q7b (J:=fun m a w=>∃ s F σ,iter (exec K x) m s=some r∧StRel K X base w0 F0 m0 σ0 n s a w F σ) (fun a w h=>?_) (fun m a w h=>?_) (m:=hex.choose) ⟨s,F,σ,he,hs⟩
  ·obtain⟨s,F,σ,h,_⟩:=h
   simp [iter] at h
  ·obtain⟨s,F,σ,h,hs⟩:=h
   simp only[iter] at h
   cases hx:exec K x s with
   |none=>simp [hx] at h
   |some p=>
    obtain⟨ex,s'⟩:=p
    refine wp_mono (ih.1 cx s _ a w F σ hc hx hs) fun e a' w' hp=>?_
    obtain⟨rfl,F',σ',hs'⟩:=hp
    cases ex with
    |nrm=>simp only[hx] at h;exact⟨s',F',σ',h,hs'⟩
    |exit id=>simp only[hx,Option.some.injEq] at h;subst h;exact⟨rfl,F',σ',hs'⟩
    |goto l=>simp only[hx,Option.some.injEq] at h;subst h;exact⟨rfl,F',σ',hs'⟩
    |ret=>simp only[hx,Option.some.injEq] at h;subst h;exact⟨rfl,F',σ',hs'⟩
 |exit id=>
  refine⟨?_,fun code l g _ h=>by simp [exec.labelled] at h⟩
  intro code s r a w F σ hc he hs
  cases code <;> simp only[chk] at hc <;> (try(cases hc;done))
  simp only[beq_iff_eq] at hc
  subst hc
  simp only[exec,Option.some.injEq] at he
  subst he
  exact wp_exit ⟨rfl,F,σ,hs⟩
 |scope x ls ihx ihl=>
  refine⟨?_,fun code l g _ h=>by simp [exec.labelled] at h⟩
  intro code s r a w F σ hc he hs
  cases code <;> simp only[chk] at hc <;> (try(cases hc;done))
  rename_i cx
  simp only[Bool.and_eq_true] at hc
  simp only[exec,z0S] at he
  split at he
  case isFalse=>cases he
  rename_i hex
  generalize hex.choose=m at he
  cases m with
  |zero=>simp [q2o] at he
  |succ m=>
   have post:∀(m:Nat) (p:Ex×S) (e:Exit) (a:Act) (w:World),q2o (fun l=>exec.labelled K ls l) (m+1) (some p)=some r→Post K X base w0 F0 m0 σ0 n p e a w→
     Exit.jumpR (fun l a w=>∃ g s F σ,exec.labelled K ls l=some g∧q2o (fun l=>exec.labelled K ls l) m (g s)=some r∧StRel K X base w0 F0 m0 σ0 n s a w F σ) (Post K X base w0 F0 m0 σ0 n r) e a w:=by
    intro m p e a w hj hp
    obtain⟨ex,s'⟩:=p
    obtain⟨rfl,F',σ',hs'⟩:=hp
    simp only[q2o] at hj
    cases ex with
    |nrm=>simp only[Option.some.injEq] at hj;subst hj;exact⟨rfl,F',σ',hs'⟩
    |exit id=>simp only[Option.some.injEq] at hj;subst hj;exact⟨rfl,F',σ',hs'⟩
    |ret=>simp only[Option.some.injEq] at hj;subst hj;exact⟨rfl,F',σ',hs'⟩
    |goto l=>
     simp only at hj
     cases hl:exec.labelled K ls l with
     |none=>simp [hl] at hj
     |some g=>
      simp only[hl] at hj
      exact⟨g,s',F',σ',hl,hj,hs'⟩
   cases hx:exec K x s with
   |none=>simp [hx,q2o] at he
   |some p=>
    rw[hx] at he
    refine q50 (m:=m) (J:=fun m l a w=>∃ g s F σ,exec.labelled K ls l=some g∧q2o (fun l=>exec.labelled K ls l) m (g s)=some r∧StRel K X base w0 F0 m0 σ0 n s a w F σ) (fun l a w h=>?_) (fun m l a w h=>?_) (wp_mono (ihx.1 cx s _ a w F σ hc.1 hx hs) fun e a' w' hp=>post m p e a' w' he hp)
    ·obtain⟨g,s,F,σ,_,h,_⟩:=h
     simp [q2o] at h
    ·obtain⟨g,s,F,σ,hl,hj,hs⟩:=h
     obtain⟨rest,hf,hrest⟩:=ihl.2 cx l g hc.2 hl
     refine⟨rest,hf,?_⟩
     cases hg:g s with
     |none=>rw[hg] at hj;simp [q2o] at hj
     |some p=>
      rw[hg] at hj
      exact wp_mono (hrest s p a w F σ hg hs) fun e a' w' hp=>post m p e a' w' hj hp
 |lnil=>exact⟨fun code s r a w F σ hc he=>by simp [exec] at he,fun code l g _ h=>by simp [exec.labelled] at h⟩
 |lcons l0 c ls ihc ihl=>
  refine⟨fun code s r a w F σ hc he=>by simp [exec] at he,fun code l g hc h=>?_⟩
  have hc':((match findLabel code l0 with|some rest=>chk P m0 n c rest|none=>false)&&chk P m0 n ls code)=true:=by cases code <;> simpa only[chk] using hc
  simp only[Bool.and_eq_true] at hc'
  simp only[exec.labelled] at h
  split at h
  ·rename_i he
   subst he
   obtain rfl:=Option.some.inj h
   cases hf:findLabel code l0 with
   |none=>simp [hf] at hc'
   |some rest=>
    simp only[hf] at hc'
    exact⟨rest,rfl,fun s r a w F σ he hs=>ihc.1 rest s r a w F σ hc'.1 he hs⟩
  ·exact ihl.2 code l g hc'.2 h
 |label l=>
  refine⟨?_,fun code l g _ h=>by simp [exec.labelled] at h⟩
  intro code s r a w F σ hc he hs
  cases code <;> simp only[chk] at hc <;> (try(cases hc;done))
  simp only[exec,Option.some.injEq] at he
  subst he
  exact wp_label ⟨rfl,F,σ,hs⟩
 |goto l=>
  refine⟨?_,fun code l g _ h=>by simp [exec.labelled] at h⟩
  intro code s r a w F σ hc he hs
  cases code <;> simp only[chk] at hc <;> (try(cases hc;done))
  simp only[beq_iff_eq] at hc
  subst hc
  simp only[exec,Option.some.injEq] at he
  subst he
  exact wp_goto ⟨rfl,F,σ,hs⟩
 |ret=>
  refine⟨?_,fun code l g _ h=>by simp [exec.labelled] at h⟩
  intro code s r a w F σ hc he hs
  cases code <;> simp only[chk] at hc <;> (try(cases hc;done))
  simp only[exec,Option.some.injEq] at he
  subst he
  exact wp_ret ⟨rfl,F,σ,hs⟩
 |keep=>exact⟨fun code s r a w F σ hc he=>by cases code <;> simp [chk] at hc,fun code l g _ h=>by simp [exec.labelled] at h⟩
 |tidy=>exact⟨fun code s r a w F σ hc he=>by cases code <;> simp [chk] at hc,fun code l g _ h=>by simp [exec.labelled] at h⟩
 |own=>exact⟨fun code s r a w F σ hc he=>by cases code <;> simp [chk] at hc,fun code l g _ h=>by simp [exec.labelled] at h⟩
 |stuck=>exact⟨fun code s r a w F σ hc he=>by simp [exec] at he,fun code l g _ h=>by simp [exec.labelled] at h⟩
 |frz=>exact⟨fun code s r a w F σ hc he=>by cases code <;> simp [chk] at hc,fun code l g _ h=>by simp [exec.labelled] at h⟩
theorem q10(hm:P.follows .mixedOrders=true)(hK:K.Sound P)(c:C)(code:Code)(s:S)(r:Ex×S)(a:Act)(w:World)(F:Nat→Prop)(σ:Nat→Option Loc)(hc:chk P m0 n c code=true)(he:exec K c s=some r)(hs:StRel K X base w0 F0 m0 σ0 n s a w F σ) :
  code.wp P (Post K X base w0 F0 m0 σ0 n r) a w:=(z47 hm hK c).1 code s r a w F σ hc he hs
end Go.Vm
end

section
namespace Go.Vm
open Go.RowKit

def hNew (H : List (Nat × Blk)) : Bool := H.all fun p => match p.2 with
  | .dat c _ _ => c
  | .mix _ rows => rows.all (·.all V.newR)
  | .map es => es.all fun q => match q.2 with
    | .agg cs => cs.all V.newR
    | v => v.newR

def restH (bs : List Nat) (H : List (Nat × Blk)) : List (Nat × Blk) := forgetH bs.contains (H.filter fun p => !bs.contains p.1)

def finC (z : Bool) (bs : List Nat) (H : List (Nat × Blk)) : V → Option V
  | .d c y => some (.d c y)
  | .fs c k r => some (.fs c k r)
  | .ptr b i j => if bs.contains b then some (.ptr (bs.idxOf b) i j) else (q0d viewDepth (restH bs H) (.ptr b i j)).map (.d (z && hNew (restH bs H)))
  | .bsl b i n => if bs.contains b then some (.bsl (bs.idxOf b) i n) else (q0d viewDepth (restH bs H) (.bsl b i n)).map (.d (z && hNew (restH bs H)))
  | .bsx b i n => if bs.contains b then some (.bsx (bs.idxOf b) i n) else (q0d viewDepth (restH bs H) (.bsx b i n)).map (.d (z && hNew (restH bs H)))
  | .iface t v => (q0d viewDepth (restH bs H) (V.drop1 bs.contains (.iface t v))).map (.d false)
  | .map b => if bs.contains b then some (.map (bs.idxOf b)) else none
  | _ => none
def finA (z : Bool) (bs : List Nat) (H : List (Nat × Blk)) : V → Option V
  | .agg cs => (mapO (finC z bs H) cs).map .agg
  | .fn f cs => (mapO (finC z bs H) cs).map (.fn f)
  | v => finC z bs H v
def finV (z : Bool) (bs : List Nat) (H : List (Nat × Blk)) : V → Option V
  | .tup vs => (mapO (finA z bs H) vs).map .tup
  | v => finA z bs H v
def finB (z : Bool) (bs : List Nat) (H : List (Nat × Blk)) (b : Nat) : Option Blk := match look H b with
  | some (.dat c k rows) => some (.dat c k rows)
  | some (.mix k rows) => (mapO (mapO (finC z bs H)) rows).map (.mix k)
  | some (.map es) => (mapO (fun q => (finA z bs H q.2).map fun v => (q.1, v)) es).map .map
  | none => none

structure Fun where
  body : C
  res : List E
  own : Bool
  deriving Inhabited

def q0b : List V → V
  | [v] => v
  | vs => .tup vs

def finish (m : Nat) (own : Bool) (s : S) (v : V) : Option (V × List Blk × List Nat) :=
  let bs := if own then q0N s.heap (refN s.heap + 64) [] (List.range m ++ v.refs) else List.range m
  if decide bs.Nodup && decide (bs.take m = List.range m) then
    match finV (m == 0) bs s.heap v, mapO (finB (m == 0) bs s.heap) bs with
    | some r, some news => some (r, news, (List.range m).filter fun b => s.mv.contains b)
    | _, _ => none
  else none

def startS (args : List V) (blks : List Blk) : S := ⟨(args.zipIdx.map fun (v, i) => (i, v)), indexed blks, blks.length, []⟩

noncomputable def q0o (K : Cx) (g : Fun) (args : List V) (blks : List Blk) : Option (V × List Blk × List Nat) :=
  match exec K g.body (startS args blks) with
  | some (.nrm, s) => match mapO (ev K s) g.res with
    | some vs => finish blks.length g.own s (q0b vs)
    | none => none
  | some (.ret, s) => match mapO (ev K s) g.res with
    | some vs => finish blks.length g.own s (q0b vs)
    | none => none
  | _ => none

def resE (P : Program) : ResultVar → Option E
  | .tmp t => some (.sl t)
  | .cell a t => match P.info? t, P.underlying t with
    | some i, some d => some (.ld i.size (q1L d) (.sl a))
    | _, _ => none

def q0J (P : Program) (f : FuncId) (m n : Nat) (g : Fun) : Bool :=
  match P.funcs[f]? with
  | some fn => match fn.body with
    | some code => chk P m fn.ntmps g.body code && decide (mapO (resE P) fn.results.toList = some g.res) && decide (n ≤ fn.ntmps) && (fn.name != "runtime.NumGoroutine")
    | none => false
  | none => false

variable {P : Program} {w : World} {F : Nat → Prop} {X : Nat → Nat → Prop} {base nx : Nat} {σ : Nat → Option Loc} {H : List (Nat × Blk)} {bs : List Nat}

theorem q6B {f : V → Option V} : ∀ {es es' : List (D × V)}, mapO (fun q => (f q.2).map fun v => (q.1, v)) es = some es' → es'.map (·.1) = es.map (·.1)
  | [], es', h => by obtain rfl := Option.some.inj h; rfl
  | q :: es, es', h => by
    simp only [mapO] at h
    cases hq : f q.2 with
    | none => simp [hq] at h
    | some v =>
      cases hr : mapO (fun q => (f q.2).map fun v => (q.1, v)) es with
      | none => simp [hq, hr] at h
      | some r =>
        simp only [hq, hr, Option.map_some, Option.some.injEq] at h
        subst h
        simp only [List.map_cons, q6B hr]

theorem MemObj.ofO {f : V → Option V} {w w' : World} {σ σ' : Nat → Option Loc} {l : Loc} {ck : Nat} {es : Array MapEntry} {ds ds' : List (D × V)} (hw : w'.heap[l.blk]? = w.heap[l.blk]?) (hes : mapO (fun q => (f q.2).map fun v => (q.1, v)) ds = some ds')
    (hf : ∀ q ∈ ds, ∀ y, f q.2 = some y → ∀ v, BufV σ v q.2 → BufV σ' v y) (h : MemObj w σ l es ck ds) : MemObj w' σ' l es ck ds' := by
  have hk := q6B hes
  rcases h with ⟨h, hx, ht⟩ | ⟨T, p, v, x, h1, h2, h3, h4⟩ | ⟨T, cur, fz, bs, h1, h2, h3⟩
  · refine .inl ⟨by rw [hw]; exact h, hx, ?_⟩
    cases ds with
    | nil => obtain rfl : ds' = [] := by simpa using hk
             rfl
    | cons q ds =>
      obtain ⟨k, v⟩ := q
      cases ds' with
      | nil => simp at hk
      | cons q' ds' =>
        obtain ⟨k', v'⟩ := q'
        simp only [List.map_cons, List.cons.injEq] at hk
        obtain ⟨rfl, _⟩ := hk
        cases k' <;> first | rfl | (simp [q02] at ht)
  · subst h1
    simp only [mapO] at hes
    cases hx : f x with
    | none => simp [hx] at hes
    | some y =>
      simp only [hx, Option.map_some, Option.some.injEq] at hes
      subst hes
      exact .inr (.inl ⟨T, p, v, y, rfl, by rw [hw]; exact h2, h3, hf (.nils T, x) (by simp) y hx v h4⟩)
  · exact .inr (.inr ⟨T, cur, fz, bs, by rw [hk]; exact h1, by rw [hw]; exact h2, h3⟩)

theorem z5K {c : Bool} {b : Nat} (h : col F base true b) : col (New F base) base c b := by
  cases c
  · exact h
  · exact ⟨h, h.2⟩

theorem RepV.newF {v : Value} {x : V} (hx : x.newR = true) (h : RepV w F base σ v x) : RepV w (New F base) base σ v x := by
  cases h with
  | d c v x h =>
    simp only [V.newR, V.new1, Bool.or_eq_true] at hx
    cases c with
    | true => exact .d _ _ _ (h.mono fun b hb => ⟨z5K hb, rfl⟩)
    | false => exact .d _ _ _ (h.flat (by simpa using hx))
  | fs c a len k rows h =>
    simp only [V.newR, V.new1] at hx
    subst hx
    exact .fs _ _ _ _ _ (h.mono fun b hb => ⟨z5K hb, rfl⟩)
  | ptr b i j l hl => exact .ptr b i j l hl
  | bsl0 a b i => exact .bsl0 a b i
  | bsl b i len cap l hl h1 h2 => exact .bsl b i len cap l hl h1 h2
  | bsx b i len cap l a hl h1 h2 h3 => exact .bsx b i len cap l a hl h1 h2 h3
  | map b l hl => exact .map b l hl
  | _ => simp [V.newR, V.new1] at hx

theorem z6Q {c : Bool} (hc : c = true) (d : D) : (mkd c d).newR = true := by
  subst hc
  unfold mkd
  split <;> simp [V.newR, V.new1, *]

theorem HeapRel.newF (hn : hNew H = true) (h : HeapRel w F X base σ nx H) : HeapRel w (New F base) X base σ nx H := by
  refine ⟨fun b blk hb => ?_, h.inj, fun b l hb => ⟨(h.own b l hb).1, fun hf => (h.own b l hb).2.1 hf.1, (h.own b l hb).2.2⟩, fun b hb => h.fro b hb.1⟩
  have hin : ∃ p ∈ H, p = (b, blk) := by
    clear hn h
    induction H with
    | nil => simp [look] at hb
    | cons p H ih =>
      obtain ⟨k, v⟩ := p
      simp only [look] at hb
      split at hb
      · rename_i hk
        subst hk
        obtain rfl := Option.some.inj hb
        exact ⟨_, List.mem_cons_self .., rfl⟩
      · obtain ⟨p, hp, he⟩ := ih hb
        exact ⟨p, List.mem_cons_of_mem _ hp, he⟩
  obtain ⟨p, hp, rfl⟩ := hin
  simp only [hNew, List.all_eq_true] at hn
  have hnb := hn _ hp
  rcases h.blk b blk hb with ⟨h1, h2⟩ | ⟨l, es, ck, ds, rfl, h1, h2, h3, h4, h5⟩ | ⟨l, cs, T, h1, h2, h3, h4, h5, h6, h7⟩
  · exact .inl ⟨h1, h2⟩
  · have := h5.transM (f := fun x => x) (w' := w) (F' := New F base) (base' := base) (σ' := σ) fun q hq v hv => by
      simp only [List.all_eq_true] at hnb
      have hqn := hnb q hq
      obtain ⟨qk, qv⟩ := q
      cases qv with
      | agg cs =>
        cases hv with
        | agg vs _ g1 g2 g3 =>
          simp only [List.all_eq_true] at hqn
          exact .agg vs cs g1 (fun j v x hv hx => (g2 j v x hv hx).newF (hqn x (List.mem_of_getElem? hx))) g3
      | _ => exact hv.newF hqn
    exact .inr (.inl ⟨l, es, ck, ds, rfl, h1, h2, h3, h4, by simpa using this⟩)
  · refine .inr <| .inr ⟨l, cs, T, h1, h2, h3, h4, h5, fun i row hrow => ⟨(h6 i row hrow).1, fun j x hx => ?_⟩, h7⟩
    obtain ⟨v, g1, g2, g3⟩ := (h6 i row hrow).2 j x hx
    refine ⟨v, g1, g2, g3.newF ?_⟩
    cases blk with
    | dat c k rows =>
      simp only [Blk.row?, Option.map_eq_some_iff] at hrow
      obtain ⟨r, _, rfl⟩ := hrow
      simp only [List.getElem?_map, Option.map_eq_some_iff] at hx
      obtain ⟨d, _, rfl⟩ := hx
      exact z6Q hnb d
    | mix k rows =>
      simp only [Blk.row?] at hrow
      simp only [List.all_eq_true] at hnb
      exact hnb row (List.mem_of_getElem? hrow) x (List.mem_of_getElem? hx)
    | map es => simp [Blk.entries] at h7

def wo (bs : List Nat) (σ : Nat → Option Loc) (b : Nat) : Option Loc := if bs.contains b then none else σ b
def outs (bs : List Nat) (σ : Nat → Option Loc) (i : Nat) : Option Loc := match bs[i]? with
  | some b => σ b
  | none => none

theorem q3Q {b : Nat} {l : Loc} (h : wo bs σ b = some l) : bs.contains b = false ∧ σ b = some l := by
  unfold wo at h
  split at h
  · cases h
  · rename_i hb; exact ⟨by simpa using hb, h⟩
theorem z1V : ∀ b l, σ b = some l → bs.contains b = false → wo bs σ b = some l := by
  intro b l h1 h2
  unfold wo
  rw [if_neg (by rw [h2]; exact Bool.false_ne_true)]
  exact h1

theorem q3W (p : Nat → Bool) : ∀ (H : List (Nat × Blk)) (b : Nat) (blk : Blk), look (H.filter fun q => p q.1) b = some blk → p b = true ∧ look H b = some blk
  | [], b, blk, h => by simp [look] at h
  | (k, v) :: H, b, blk, h => by
    simp only [List.filter_cons] at h
    split at h
    · rename_i hk
      simp only [look] at h ⊢
      split at h
      · rename_i he
        subst he
        rw [if_pos rfl]
        exact ⟨hk, h⟩
      · rename_i he
        rw [if_neg he]
        exact q3W p H b blk h
    · rename_i hk
      obtain ⟨h1, h2⟩ := q3W p H b blk h
      refine ⟨h1, ?_⟩
      simp only [look]
      rw [if_neg (fun e => hk (by subst e; exact h1))]
      exact h2

theorem q8Z (h : HeapRel w F X base σ nx H) : HeapRel w F X base (wo bs σ) nx (restH bs H) := by
  refine ⟨fun b blk hb => ?_, fun b b' l l' h1 h2 => h.inj b b' l l' (q3Q h1).2 (q3Q h2).2, fun b l hb => h.own b l (q3Q hb).2, h.fro⟩
  unfold restH forgetH at hb
  rw [q2d] at hb
  simp only [Option.map_eq_some_iff] at hb
  obtain ⟨blk0, h1, rfl⟩ := hb
  obtain ⟨h2, h3⟩ := q3W (fun b => !bs.contains b) H b blk0 h1
  have h2' : bs.contains b = false := by simpa using h2
  have hs : ∀ l, σ b = some l → wo bs σ b = some l := fun l hl => z1V b l hl h2'
  refine (h.blk b blk0 h3).forget _ (fun b hb => ⟨hb, rfl⟩) z1V hs (fun h4 => ?_) (fun _ _ => rfl)
  unfold wo
  split
  · rfl
  · exact h4

def FZ (F : Nat → Prop) (bs : List Nat) (σ : Nat → Option Loc) : Nat → Prop := All F (wo bs σ)

variable {z : Bool}

def z2L (X : Nat → Nat → Prop) (base : Nat) (bs : List Nat) (σ : Nat → Option Loc) : Prop := ∀ i l, wo bs σ i = some l → base ≤ l.blk

theorem q6i {b : Nat} {l : Loc} (h1 : σ b = some l) (h2 : bs.contains b = true) : outs bs σ (bs.idxOf b) = some l := by
  unfold outs
  have hm : b ∈ bs := by simpa using h2
  have : bs[bs.idxOf b]? = some b := by
    rw [List.getElem?_eq_getElem (List.idxOf_lt_length_of_mem hm)]
    rw [List.getElem_idxOf]
  rw [this]
  exact h1

theorem z7e {z : Bool} {x y : V} (hy : finC z bs H x = some y) {v : Value} (hv : BufV σ v x) : BufV (outs bs σ) v y := by
  cases x with
  | bsl b i n =>
    simp only [finC] at hy
    split at hy
    · rename_i hb
      obtain rfl := Option.some.inj hy
      obtain ⟨h0, h | ⟨l, h1, h2⟩⟩ := hv
      · exact ⟨h0, .inl h⟩
      · exact ⟨h0, .inr ⟨l, q6i h1 hb, h2⟩⟩
    · simp only [Option.map_eq_some_iff] at hy
      obtain ⟨d, _, rfl⟩ := hy
      trivial
  | d c d => obtain rfl := Option.some.inj hy; trivial
  | fs c k r => obtain rfl := Option.some.inj hy; trivial
  | ptr b i j =>
    simp only [finC] at hy
    split at hy
    · obtain rfl := Option.some.inj hy; trivial
    · simp only [Option.map_eq_some_iff] at hy
      obtain ⟨d, _, rfl⟩ := hy
      trivial
  | bsx b i j =>
    simp only [finC] at hy
    split at hy
    · obtain rfl := Option.some.inj hy; trivial
    · simp only [Option.map_eq_some_iff] at hy
      obtain ⟨d, _, rfl⟩ := hy
      trivial
  | iface t u =>
    simp only [finC, Option.map_eq_some_iff] at hy
    obtain ⟨d, _, rfl⟩ := hy
    trivial
  | map b =>
    simp only [finC] at hy
    split at hy
    · obtain rfl := Option.some.inj hy; trivial
    · cases hy
  | _ => simp [finC] at hy
theorem z7f {z : Bool} {x y : V} (hy : finA z bs H x = some y) {v : Value} (hv : BufV σ v x) : BufV (outs bs σ) v y := by
  cases x with
  | agg cs =>
    simp only [finA, Option.map_eq_some_iff] at hy
    obtain ⟨d, _, rfl⟩ := hy
    trivial
  | fn f cs =>
    simp only [finA, Option.map_eq_some_iff] at hy
    obtain ⟨d, _, rfl⟩ := hy
    trivial
  | _ => exact z7e (by simpa only [finA] using hy) hv

theorem q7G (h : HeapRel w F X base σ nx H) (hy : z2L X base bs σ) (v : Value) (x r : V) (hr : finC z bs H x = some r) (hR : RepV w F base σ v x) : RepV w (FZ F bs σ) base (outs bs σ) v r := by
  have hsub : ∀ b, F b → FZ F bs σ b ∧ w.heap[b]? = w.heap[b]? := fun b hb => ⟨.inl hb, rfl⟩
  have frozen : ∀ (x : V), x.newR = true → (∃ y, (q0d viewDepth (restH bs H) x) = some y ∧ r = .d (z && hNew (restH bs H)) y) → RepV w F base (wo bs σ) v x → RepV w (FZ F bs σ) base (outs bs σ) v r := by
    rintro x hx ⟨y, hyy, rfl⟩ hR
    have hH := q8Z (bs := bs) h
    cases hn : z && hNew (restH bs H) with
    | false => exact .d _ _ _ (q1u hH _ _ _ _ hyy hR)
    | true =>
      simp only [Bool.and_eq_true] at hn
      refine .d _ _ _ ((q1u (hH.newF hn.2) _ _ _ _ hyy (hR.newF hx)).mono fun b hb => ⟨?_, rfl⟩)
      rcases hb with hb | ⟨i, l, hl, rfl⟩
      · exact ⟨.inl hb.1, hb.2⟩
      · exact ⟨.inr ⟨i, l, hl, rfl⟩, hy i l hl⟩
  have hFF : ∀ b, F b → F b ∧ w.heap[b]? = w.heap[b]? := fun b hb => ⟨hb, rfl⟩
  cases x with
  | d c y =>
    simp only [finC, Option.some.injEq] at hr
    subst hr
    cases hR with
    | d _ _ _ hd => exact .d _ _ _ (hd.mono (q3G hsub c))
  | fs c k rows =>
    simp only [finC, Option.some.injEq] at hr
    subst hr
    cases hR with
    | fs _ _ _ _ _ hd => exact .fs _ _ _ _ _ (hd.mono (q3G hsub c))
  | ptr b i j =>
    simp only [finC] at hr
    split at hr
    · rename_i hb
      obtain rfl := Option.some.inj hr
      cases hR with
      | ptr _ _ _ l hl => exact .ptr _ _ _ l (q6i hl hb)
    · rename_i hb
      simp only [Option.map_eq_some_iff] at hr
      obtain ⟨y, hy, rfl⟩ := hr
      exact frozen (.ptr b i j) rfl ⟨y, hy, rfl⟩ (hR.keep0 hFF z1V (by simpa [V.ref0] using hb))
  | bsl b i n =>
    simp only [finC] at hr
    split at hr
    · rename_i hb
      obtain rfl := Option.some.inj hr
      cases hR with
      | bsl0 => exact .bsl0 _ _ _
      | bsl _ _ _ cap l hl h1 h2 => exact .bsl _ _ _ cap l (q6i hl hb) h1 h2
    · rename_i hb
      simp only [Option.map_eq_some_iff] at hr
      obtain ⟨y, hy, rfl⟩ := hr
      exact frozen (.bsl b i n) rfl ⟨y, hy, rfl⟩ (hR.keep0 hFF z1V (by simpa [V.ref0] using hb))
  | bsx b i n =>
    simp only [finC] at hr
    split at hr
    · rename_i hb
      obtain rfl := Option.some.inj hr
      cases hR with
      | bsx _ _ _ cap l a hl h1 h2 h3 => exact .bsx _ _ _ cap l a (q6i hl hb) h1 h2 h3
    · rename_i hb
      simp only [Option.map_eq_some_iff] at hr
      obtain ⟨y, hy, rfl⟩ := hr
      exact frozen (.bsx b i n) rfl ⟨y, hy, rfl⟩ (hR.keep0 hFF z1V (by simpa [V.ref0] using hb))
  | iface t u =>
    simp only [finC, Option.map_eq_some_iff] at hr
    obtain ⟨y, hy, rfl⟩ := hr
    exact .d _ _ _ (q1u (q8Z (bs := bs) h) _ _ _ _ hy (hR.drop1 hFF z1V))
  | map b =>
    simp only [finC] at hr
    split at hr
    · rename_i hb
      obtain rfl := Option.some.inj hr
      cases hR with
      | map _ l hl => exact .map _ l (q6i hl hb)
    · cases hr
  | _ => simp [finC] at hr

theorem q7W {f : V → Option V} {R R' : Value → V → Prop} (hf : ∀ v x r, f x = some r → R v x → R' v r) {cs : Array Value} {xs rs : List V} (hm : mapO f xs = some rs) (hsz : cs.size = xs.length) (h : ∀ (j : Nat) (v : Value) (x : V), cs[j]? = some v → xs[j]? = some x → R v x) :
    cs.size = rs.length ∧ ∀ (j : Nat) (v : Value) (x : V), cs[j]? = some v → rs[j]? = some x → R' v x := by
  obtain ⟨m1, m2⟩ := q0i hm
  refine ⟨by omega, fun j v x hv hx => ?_⟩
  have hj : j < xs.length := by rw [← m1]; exact (List.getElem?_eq_some_iff.1 hx).1
  obtain ⟨y, hy, hvd⟩ := m2 j _ (List.getElem?_eq_getElem hj)
  rw [hx] at hy
  obtain rfl := Option.some.inj hy
  exact hf v _ x hvd (h j v _ hv (List.getElem?_eq_getElem hj))

theorem q48 (h : HeapRel w F X base σ nx H) (hy : z2L X base bs σ) (v : Value) (x r : V) (hr : finA z bs H x = some r) (hR : RepV w F base σ v x) : RepV w (FZ F bs σ) base (outs bs σ) v r := by
  have one : ∀ v x r, finC z bs H x = some r → RepV w F base σ v x → RepV w (FZ F bs σ) base (outs bs σ) v r := fun v x r h1 h2 => q7G h hy v x r h1 h2
  cases x with
  | agg xs =>
    simp only [finA, Option.map_eq_some_iff] at hr
    obtain ⟨rs, hm, rfl⟩ := hr
    cases hR with
    | agg cs _ h1 h2 h3 =>
      obtain ⟨g1, g2⟩ := q7W one hm h1 h2
      exact .agg cs rs g1 g2 h3
  | fn f xs =>
    simp only [finA, Option.map_eq_some_iff] at hr
    obtain ⟨rs, hm, rfl⟩ := hr
    cases hR with
    | fn _ cs _ h1 h2 =>
      obtain ⟨g1, g2⟩ := q7W one hm h1 h2
      exact .fn f cs rs g1 g2
  | _ => simp only [finA] at hr; exact one v _ r hr hR

theorem q7F (h : HeapRel w F X base σ nx H) (hy : z2L X base bs σ) {v : Value} {x r : V} (hr : finV z bs H x = some r) (hR : RepV w F base σ v x) : RepV w (FZ F bs σ) base (outs bs σ) v r := by
  cases x with
  | tup xs =>
    simp only [finV, Option.map_eq_some_iff] at hr
    obtain ⟨rs, hm, rfl⟩ := hr
    cases hR with
    | tup cs _ h1 h2 =>
      obtain ⟨g1, g2⟩ := q7W (q48 h hy) hm h1 h2
      exact .tup cs rs g1 g2
  | _ => simp only [finV] at hr; exact q48 h hy v _ r hr hR

theorem q6h {i : Nat} {l : Loc} (hi : outs bs σ i = some l) : ∃ b, bs[i]? = some b ∧ σ b = some l := by
  unfold outs at hi
  split at hi
  · rename_i b hb; exact ⟨b, hb, hi⟩
  · cases hi

theorem q9p (h : HeapRel w F X base σ nx H) (hy : z2L X base bs σ) (hbs : bs.Nodup) (hX : ∀ b k, X b k → bs[b]? = some b) {news : List Blk} (hm : mapO (finB z bs H) bs = some news) : HeapRel w (FZ F bs σ) X base (outs bs σ) news.length (indexed news) := by
  obtain ⟨m1, m2⟩ := q0i hm
  have hsub : ∀ b, F b → FZ F bs σ b ∧ w.heap[b]? = w.heap[b]? := fun b hb => ⟨.inl hb, rfl⟩
  refine ⟨fun i blk hi => ?_, fun i j l l' h1 h2 he => ?_, fun i l hi => ?_, fun b hb => ?_⟩
  · rw [q0Y] at hi
    have hil : i < bs.length := by rw [← m1]; exact (List.getElem?_eq_some_iff.1 hi).1
    obtain ⟨y, hyy, hb⟩ := m2 i _ (List.getElem?_eq_getElem hil)
    rw [hi] at hyy
    obtain rfl := Option.some.inj hyy
    have hout : outs bs σ i = σ bs[i] := by unfold outs; rw [List.getElem?_eq_getElem hil]
    unfold finB at hb
    split at hb
    · rename_i c k rows hlk
      obtain rfl := Option.some.inj hb
      rcases h.blk _ _ hlk with ⟨g1, g2⟩ | ⟨_, _, _, _, hbad, _⟩ | ⟨l, cs, T, g1, g2, g3, g4, g5, g6, g7⟩
      · exact .inl ⟨g1, by rw [hout]; exact g2⟩
      · cases hbad
      · refine .inr <| .inr ⟨l, cs, T, by rw [hout]; exact g1, g2, g3, g4, g5, fun i row hrow => ⟨(g6 i row hrow).1, fun j x hx => ?_⟩, g7⟩
        obtain ⟨v, e1, e2, e3⟩ := (g6 i row hrow).2 j x hx
        refine ⟨v, e1, e2, ?_⟩
        simp only [Blk.row?, Option.map_eq_some_iff] at hrow
        obtain ⟨r, _, rfl⟩ := hrow
        simp only [List.getElem?_map, Option.map_eq_some_iff] at hx
        obtain ⟨d, _, rfl⟩ := hx
        refine e3.keep0 (p := fun _ => true) hsub (fun _ _ _ h => by cases h) ?_
        unfold mkd
        split <;> rfl
    · rename_i k rows hlk
      simp only [Option.map_eq_some_iff] at hb
      obtain ⟨rows', hrows, rfl⟩ := hb
      obtain ⟨p1, p2⟩ := q0i hrows
      rcases h.blk _ _ hlk with ⟨g1, g2⟩ | ⟨_, _, _, _, hbad, _⟩ | ⟨l, cs, T, g1, g2, g3, g4, g5, g6, g7⟩
      · exact .inl ⟨by simp only [Blk.n] at g1 ⊢; omega, by rw [hout]; exact g2⟩
      · cases hbad
      · refine .inr <| .inr ⟨l, cs, T, by rw [hout]; exact g1, g2, g3, by simp only [Blk.n] at g4 ⊢; omega, g5, fun i row hrow => ?_, rfl⟩
        simp only [Blk.row?] at hrow
        have hi' : i < rows.length := by rw [← p1]; exact (List.getElem?_eq_some_iff.1 hrow).1
        obtain ⟨row', hrow', hm'⟩ := p2 i _ (List.getElem?_eq_getElem hi')
        rw [hrow] at hrow'
        obtain rfl := Option.some.inj hrow'
        obtain ⟨q1, q2⟩ := q0i hm'
        obtain ⟨r1, r2⟩ := g6 i rows[i] (by simp [Blk.row?, hi'])
        refine ⟨by simp only [Blk.k] at r1 ⊢; omega, fun j x hx => ?_⟩
        have hj : j < rows[i].length := by rw [← q1]; exact (List.getElem?_eq_some_iff.1 hx).1
        obtain ⟨x', hx', hfx⟩ := q2 j _ (List.getElem?_eq_getElem hj)
        rw [hx] at hx'
        obtain rfl := Option.some.inj hx'
        obtain ⟨v, e1, e2, e3⟩ := r2 j _ (List.getElem?_eq_getElem hj)
        exact ⟨v, e1, e2, q7G h hy v _ x hfx e3⟩
    · rename_i es hlk
      simp only [Option.map_eq_some_iff] at hb
      obtain ⟨es', hes, rfl⟩ := hb
      obtain ⟨p1, p2⟩ := q0i hes
      rcases h.blk _ _ hlk with ⟨g1, _⟩ | ⟨l, xs, ck, ds, hds, g1, g2, g3, g4, g5⟩ | ⟨_, _, _, _, _, _, _, _, _, hbad⟩
      · refine .inl ⟨?_, by rw [hout]; assumption⟩
        have hk := q6B hes
        simp only [Blk.n, q7w, hk] at g1 ⊢
        exact g1
      · obtain rfl : es = ds := by injection hds
        refine .inr (.inl ⟨l, xs, ck, es', rfl, by rw [hout]; exact g1, g2.ofO rfl hes (fun q hq y hy v hv => z7f hy hv), g3, g4, by rw [g5.1, p1], fun j e p he hp => ?_⟩)
        have hj : j < es.length := by rw [← p1]; exact (List.getElem?_eq_some_iff.1 hp).1
        obtain ⟨y, hy', hfy⟩ := p2 j _ (List.getElem?_eq_getElem hj)
        rw [hp] at hy'
        obtain rfl := Option.some.inj hy'
        simp only [Option.map_eq_some_iff] at hfy
        obtain ⟨u, hu, rfl⟩ := hfy
        obtain ⟨q1, q2, q3⟩ := g5.2 j e _ he (List.getElem?_eq_getElem hj)
        exact ⟨q1, q2.flat q1, q48 h hy _ _ u hu q3⟩
      · simp [Blk.entries] at hbad
    · cases hb
  · obtain ⟨b, hb, h3⟩ := q6h h1
    obtain ⟨b', hb', h4⟩ := q6h h2
    obtain rfl := h.inj b b' l l' h3 h4 he
    have hi := (List.getElem?_eq_some_iff.1 hb).1
    exact (List.getElem?_inj hi hbs).1 (hb.trans hb'.symm)
  · obtain ⟨b, hb, h3⟩ := q6h hi
    obtain ⟨o1, o2, o3, o4⟩ := h.own b l h3
    refine ⟨by rw [m1]; exact (List.getElem?_eq_some_iff.1 hb).1, ?_, o3.imp id (fun hx => ?_), o4⟩
    · rintro (hF | ⟨b', l', hl', he⟩)
      · exact o2 hF
      · obtain ⟨h5, h6⟩ := q3Q hl'
        obtain rfl := h.inj b' b l' l h6 h3 he
        have : b' ∈ bs := List.mem_of_getElem? hb
        simp [this] at h5
    · have := (List.getElem?_inj (List.getElem?_eq_some_iff.1 hb).1 hbs).1 (hb.trans (hX b _ hx).symm)
      rw [this]
      exact hx
  · rcases hb with hb | ⟨i, l, hl, rfl⟩
    · exact h.fro b hb
    · exact (h.own i l (q3Q hl).2).2.2.2

def z6B (tmps : Array Value) (rv : ResultVar) : Sem Value := match rv with
  | .tmp t => pure (tmps.getD t undef)
  | .cell b t => do loadVar t (← asAddr (tmps.getD b undef))

theorem z16 (fn : Func) (tmps : Array Value) : results fn tmps = (do
    let vs ← fn.results.mapM (z6B tmps)
    pure (if h : vs.size = 1 then vs[0] else .tuple vs)) := by
  unfold results
  congr 1

theorem q4j {K : Cx} {n m0 : Nat} {σ0 : Nat → Option Loc} {w0 : World} {F0 : Nat → Prop} {s : S} {a : Act} (h : StRel K X base w0 F0 m0 σ0 n s a w F σ) {fn : Func} {es : List E} {vs : List V} (he : mapO (resE P) fn.results.toList = some es) (hv : mapO (ev K s) es = some vs) :
    ∃ v, (results fn a.tmps).run P w = .ok v w ∧ RepV w F base σ v (q0b vs) := by
  have one : ∀ (rv : ResultVar) (e : E) (x : V), resE P rv = some e → ev K s e = some x → ∃ v, (z6B a.tmps rv).run P w = .ok v w ∧ RepV w F base σ v x := by
    intro rv e x he hx
    cases rv with
    | tmp t =>
      simp only [resE, Option.some.injEq] at he
      subst he
      simp only [ev] at hx
      exact ⟨_, rfl, h.rho t x hx⟩
    | cell b t =>
      simp only [resE] at he
      cases hi : P.info? t with
      | none => simp [hi] at he
      | some i =>
        cases hd : P.underlying t with
        | none => simp [hi, hd] at he
        | some d =>
          simp only [hi, hd, Option.some.injEq] at he
          subst he
          simp only [ev] at hx
          cases hp : look s.rho b with
          | none => simp [hp] at hx
          | some p =>
            simp only [hp] at hx
            rw [z5n] at hx
            cases hc : q3b s.heap p with
            | none => simp [hc] at hx
            | some xs =>
              simp only [hc, Option.bind_some] at hx
              obtain ⟨ba, of, hva, hcell⟩ := q4I h.heap hc (h.rho b p hp)
              obtain ⟨v, h1, h2⟩ := q4s (P := P) hd hi hcell hx
              exact ⟨v, by simp [z6B, hva, asAddr, h1], h2⟩
  have many : ∀ (l : List ResultVar) (es : List E) (vs : List V), mapO (resE P) l = some es → mapO (ev K s) es = some vs → ∃ us : List Value, (l.mapM (z6B a.tmps)).run P w = .ok us w ∧ us.length = vs.length ∧ ∀ (j : Nat) (v : Value) (x : V), us[j]? = some v → vs[j]? = some x → RepV w F base σ v x := by
    intro l
    induction l with
    | nil =>
      intro es vs he hv
      simp only [mapO, Option.some.injEq] at he
      subst he
      simp only [mapO, Option.some.injEq] at hv
      subst hv
      exact ⟨[], by simp, rfl, fun j v x h => by simp at h⟩
    | cons rv l ih =>
      intro es vs he hv
      simp only [mapO] at he
      cases hr : resE P rv with
      | none => simp [hr] at he
      | some e =>
        cases hl : mapO (resE P) l with
        | none => simp [hr, hl] at he
        | some es' =>
          simp only [hr, hl, Option.some.injEq] at he
          subst he
          simp only [mapO] at hv
          cases hx : ev K s e with
          | none => simp [hx] at hv
          | some x =>
            cases hxs : mapO (ev K s) es' with
            | none => simp [hx, hxs] at hv
            | some xs =>
              simp only [hx, hxs, Option.some.injEq] at hv
              subst hv
              obtain ⟨v, h1, h2⟩ := one rv e x hr hx
              obtain ⟨us, h3, h4, h5⟩ := ih es' xs hl hxs
              refine ⟨v :: us, ?_, by simp [h4], fun j u y hu hy => ?_⟩
              · rw [List.mapM_cons, Sem.run_bind, h1]
                show Sem.run P (do let a ← List.mapM _ l; pure (v :: a)) w = _
                rw [Sem.run_bind, h3]
                rfl
              · cases j with
                | zero => simp only [List.getElem?_cons_zero, Option.some.injEq] at hu hy; subst hu; subst hy; exact h2
                | succ j => exact h5 j u y (by simpa using hu) (by simpa using hy)
  obtain ⟨us, h1, h2, h3⟩ := many _ es vs he hv
  refine ⟨if h : us.length = 1 then us[0] else .tuple us.toArray, ?_, ?_⟩
  · rw [z16, Sem.run_bind]
    rw [Array.mapM_eq_mapM_toList, ← bind_pure_comp, Sem.run_bind, h1]
    show Sem.run P (pure (if h : us.toArray.size = 1 then us.toArray[0] else .tuple us.toArray)) w = _
    by_cases hu : us.length = 1
    · rw [dif_pos hu, dif_pos (by simpa using hu)]; rfl
    · rw [dif_neg hu, dif_neg (by simpa using hu)]; rfl
  · match us, vs, h2, h3 with
    | [], [], _, h3 => exact .tup _ _ rfl fun j v x hv hx => h3 j v x (by simp at hv) hx
    | [u], [x], _, h3 => exact h3 0 u x rfl rfl
    | u1 :: u2 :: us, x1 :: x2 :: xs, h2, h3 =>
      simp only [List.length_cons, Nat.reduceEqDiff, q0b]
      rw [dif_neg (by simp)]
      exact .tup _ _ (by simpa using h2) fun j v x hv hx => h3 j v x (by simpa using hv) hx

theorem q9d (l : List V) : ∀ (k t : Nat) (v : V), look ((l.zipIdx k).map fun (v, i) => (i, v)) t = some v → k ≤ t ∧ l[t - k]? = some v := by
  induction l with
  | nil => intro k t v h; simp [look] at h
  | cons x l ih =>
    intro k t v h
    simp only [List.zipIdx_cons, List.map_cons, look] at h
    split at h
    · rename_i he
      subst he
      exact ⟨Nat.le_refl _, by simpa using h⟩
    · obtain ⟨h1, h2⟩ := ih (k + 1) t v h
      refine ⟨by omega, ?_⟩
      have : t - k = (t - (k + 1)) + 1 := by omega
      rw [this, List.getElem?_cons_succ]
      exact h2

theorem q8X (hm : P.follows .mixedOrders = true) {K : Cx} (hd0 : K.dfr = []) (hK : K.Sound P) {f : FuncId} {g : Fun} {args : List V} {blks : List Blk} {r : V} {news : List Blk} {mv : List Nat} (hok : q0J P f blks.length args.length g = true) (hr : q0o K g args blks = some (r, news, mv))
    {w : World} {F : Nat → Prop} {σ : Nat → Option Loc} {vals : Array Value} (hG : GlobRel w F K.glob) (hH : HeapRel w F (OwnB σ) w.heap.size σ blks.length (indexed blks)) (hargs : Reps w F w.heap.size σ vals args) :
    q0p P f = true ∧ Calls P f vals w fun e w' => ∃ v F' σ', e = .returned v ∧ Frame (OwnB σ) w.heap.size w w' ∧ (∀ b, F b → F' b) ∧ (∀ b, F' b → F b ∨ w.heap.size ≤ b) ∧
      RepV w' F' w.heap.size σ' v r ∧ HeapRel w' F' (OwnB σ) w.heap.size σ' news.length (indexed news) ∧ ∀ i l, i < blks.length → σ i = some l → i ∉ mv → σ' i = some l := by
  unfold q0J at hok
  cases hf : P.funcs[f]? with
  | none => simp [hf] at hok
  | some fn =>
    cases hb : fn.body with
    | none => simp [hf, hb] at hok
    | some code =>
      simp only [hf, hb, Bool.and_eq_true, decide_eq_true_eq] at hok
      obtain ⟨⟨⟨hc, hres⟩, hn⟩, hname⟩ := hok
      refine ⟨by simp [q0p, hf, hb, hname], ?_⟩
      refine calls_of_wp hf hb ?_
      have hst : StRel K (OwnB σ) w.heap.size w F blks.length σ fn.ntmps (startS args blks) { tmps := vals ++ Array.replicate (fn.ntmps - vals.size) undef, defers := [] } w F σ := by
        refine ⟨hH, hG, Nat.le_refl _, .refl _ _ _, fun b hb => .inl hb, ?_, hd0.symm, fun t v hv => ?_, fun b blk h => ?_, fun _ _ _ h _ => h, Nat.le_refl _, fun b k hx => ?_, fun _ h => h⟩
        · have := hargs.1
          simp; omega
        · obtain ⟨_, hv'⟩ := q9d args 0 t v hv
          rw [Nat.sub_zero] at hv'
          have ht : t < vals.size := by rw [hargs.1]; exact (List.getElem?_eq_some_iff.1 hv').1
          have hget : (vals ++ Array.replicate (fn.ntmps - vals.size) undef).getD t undef = vals[t] := by
            rw [Array.getD_eq_getD_getElem?, Array.getElem?_append_left ht]
            simp [ht]
          show RepV w F w.heap.size σ ((vals ++ Array.replicate (fn.ntmps - vals.size) undef).getD t undef) v
          rw [hget]
          exact hargs.2 t _ v (by simp [ht]) hv'
        · have : (indexed blks).length = blks.length := by simp [indexed]
          simp only [startS] at h ⊢
          rw [q0Y] at h
          exact (List.getElem?_eq_some_iff.1 h).1
        · obtain ⟨l, hl, _⟩ := hx
          exact (hH.own b l hl).1
      have fin : ∀ (s : S) (a : Act) (w' : World) (F' : Nat → Prop) (σ' : Nat → Option Loc) (vs : List V), StRel K (OwnB σ) w.heap.size w F blks.length σ fn.ntmps s a w' F' σ' → mapO (ev K s) g.res = some vs → finish blks.length g.own s (q0b vs) = some (r, news, mv) →
          a.defers = [] ∧ ∃ v, (results fn a.tmps).run P w' = .ok v w' ∧ ∃ v' F' σ', Ending.returned v = .returned v' ∧ Frame (OwnB σ) w.heap.size w w' ∧ (∀ b, F b → F' b) ∧ (∀ b, F' b → F b ∨ w.heap.size ≤ b) ∧
            RepV w' F' w.heap.size σ' v' r ∧ HeapRel w' F' (OwnB σ) w.heap.size σ' news.length (indexed news) ∧ ∀ i l, i < blks.length → σ i = some l → i ∉ mv → σ' i = some l := by
        intro s a w' F' σ' vs hs hvs hfin
        obtain ⟨v, h1, h2⟩ := q4j hs hres hvs
        unfold finish at hfin
        simp only at hfin
        generalize (if g.own = true then q0N s.heap (refN s.heap + 64) [] (List.range blks.length ++ (q0b vs).refs) else List.range blks.length) = bs at hfin
        split at hfin
        case isFalse => cases hfin
        rename_i hc2
        simp only [Bool.and_eq_true, decide_eq_true_eq] at hc2
        obtain ⟨hnd, hpre⟩ := hc2
        cases h3 : finV (blks.length == 0) bs s.heap (q0b vs) with
        | none => simp [h3] at hfin
        | some r' =>
          cases h4 : mapO (finB (blks.length == 0) bs s.heap) bs with
          | none => simp [h3, h4] at hfin
          | some news' =>
            simp only [h3, h4, Option.some.injEq, Prod.mk.injEq] at hfin
            obtain ⟨rfl, rfl, rfl⟩ := hfin
            have hpin : ∀ b, b < blks.length → bs[b]? = some b := fun b hb' => by
              have : (bs.take blks.length)[b]? = some b := by rw [hpre]; simp [hb']
              simpa [List.getElem?_take, hb'] using this
            have hX : ∀ b k, OwnB σ b k → bs[b]? = some b := fun b k hx => hpin b (hs.xm b k hx)
            have hy : z2L (OwnB σ) w.heap.size bs σ' := by
              intro i l hl
              obtain ⟨hni, hl'⟩ := q3Q hl
              rcases (hs.heap.own i l hl').2.2.1 with h | h
              · exact h
              · have := List.mem_of_getElem? (hX i _ h)
                simp [this] at hni
            refine ⟨hs.dfr.trans hd0, v, h1, v, FZ F' bs σ', outs bs σ', rfl, hs.frame, fun b hb' => .inl (hs.sub b hb'), fun b hb' => ?_, q7F hs.heap hy h3 h2, q9p hs.heap hy hnd hX h4, fun i l hi hl hm' => ?_⟩
            · rcases hb' with hb' | ⟨i, l, hl, rfl⟩
              · exact hs.frz b hb'
              · exact .inr (hy i l hl)
            · unfold outs
              rw [hpin i hi]
              exact hs.stab i l hi hl (fun hc => hm' (List.mem_filter.2 ⟨List.mem_range.2 hi, by simpa [List.contains_eq_mem] using hc⟩))
      unfold q0o at hr
      cases hex : exec K g.body (startS args blks) with
      | none => simp [hex] at hr
      | some p =>
        obtain ⟨ex, s⟩ := p
        refine wp_mono (q10 hm hK g.body code _ _ _ _ _ _ hc hex hst) fun e a w' hp => ?_
        obtain ⟨rfl, F', σ', hs⟩ := hp
        cases ex with
        | nrm =>
          simp only [hex] at hr
          cases hvs : mapO (ev K s) g.res with
          | none => simp [hvs] at hr
          | some vs =>
            simp only [hvs] at hr
            exact fin s a w' F' σ' vs hs hvs hr
        | ret =>
          simp only [hex] at hr
          cases hvs : mapO (ev K s) g.res with
          | none => simp [hvs] at hr
          | some vs =>
            simp only [hvs] at hr
            exact fin s a w' F' σ' vs hs hvs hr
        | exit id => simp [hex] at hr
        | goto l => simp [hex] at hr

theorem q3B (hm : P.follows .mixedOrders = true) {K : Cx} (hK : K.Sound P) {f : FuncId} {g : Fun} {args : List V} {r : V} {news : List Blk} {mv : List Nat} (hok : q0J P f 0 args.length g = true) (hr : q0o K g args [] = some (r, news, mv)) (hd0 : K.dfr = [] := by rfl) :
    q0p P f = true ∧ q1f P K.glob f args r news := by
  have hcal : q0p P f = true := by
    unfold q0J at hok
    cases hf : P.funcs[f]? with
    | none => simp [hf] at hok
    | some fn =>
      cases hb : fn.body with
      | none => simp [hf, hb] at hok
      | some code =>
        simp only [hf, hb, Bool.and_eq_true] at hok
        simp [q0p, hf, hb, hok.2]
  refine ⟨hcal, fun w F vals hF hG hargs => ?_⟩
  have hX : ∀ b k, ¬ OwnB (fun _ => none) b k := by rintro b k ⟨l, h, _⟩; cases h
  have hH : HeapRel w F (OwnB fun _ => none) w.heap.size (fun _ => none) ([] : List Blk).length (indexed []) := ⟨fun b blk h => by simp [indexed, look] at h, fun b b' l l' h => (by cases h), fun b l h => (by cases h), hF⟩
  obtain ⟨_, h⟩ := q8X hm hd0 hK hok hr hG hH hargs
  refine h.mono fun e w' ⟨v, F', σ', he, hfr, _, hF', hR, hHr, _⟩ => ⟨v, F', σ', he, ⟨hfr.os, hfr.tape, hfr.output, hfr.size, fun k hk => hfr.block k hk (fun b => hX b k)⟩, hF', hR, ⟨hHr.blk, hHr.inj, fun b l hb => ?_, hHr.fro⟩⟩
  obtain ⟨o1, o2, o3, o4⟩ := hHr.own b l hb
  exact ⟨o1, o2, o3.imp id (fun hx => hX b _ hx), o4⟩

theorem q9y (hm : P.follows .mixedOrders = true) {K : Cx} (hK : K.Sound P) {f : FuncId} {g : Fun} {args : List V} {blks : List Blk} {r : V} {news : List Blk} {mv : List Nat} (hok : q0J P f blks.length args.length g = true) (hr : q0o K g args blks = some (r, news, mv)) (hd0 : K.dfr = [] := by rfl) :
    q0p P f = true ∧ q37 P K.glob f args blks r news mv := by
  have hcal : q0p P f = true := by
    unfold q0J at hok
    cases hf : P.funcs[f]? with
    | none => simp [hf] at hok
    | some fn =>
      cases hb : fn.body with
      | none => simp [hf, hb] at hok
      | some code =>
        simp only [hf, hb, Bool.and_eq_true] at hok
        simp [q0p, hf, hb, hok.2]
  exact ⟨hcal, fun w F σ vals hG hH hargs => (q8X hm hd0 hK hok hr hG hH hargs).2⟩

end Go.Vm
end

section
namespace Go.Vm
theorem q6E{f:S→Option (Ex×S)}:∀ {n:Nat}{s:S}{r:Ex×S},iter f n s=some r→∀ m,n≤m→iter f m s=some r
 |0,s,r,h,m,_=>by simp [iter] at h
 |n+1,s,r,h,0,hm=>by omega
 |n+1,s,r,h,m+1,hm=>by
  simp only[iter] at h ⊢
  cases hf:f s with
  |none=>simp [hf] at h
  |some p=>
   obtain⟨e,s'⟩:=p
   cases e with
   |nrm=>simp only[hf] at h⊢;exact q6E h m (by omega)
   |exit id=>simpa [hf] using h
   |goto l=>simpa [hf] using h
   |ret=>simpa [hf] using h
theorem q3C{f:S→Option (Ex×S)}{n:Nat}{s:S}{r:Ex×S}(h:iter f n s=some r):q3J f s=some r:=by
 have hex:∃ n,(iter f n s).isSome:=⟨n,by rw[h];rfl⟩
 unfold q3J
 rw[dif_pos hex]
 have hc:=hex.choose_spec
 obtain⟨r',hr'⟩:=Option.isSome_iff_exists.1 hc
 have h1:=q6E h (n+hex.choose) (by omega)
 have h2:=q6E hr' (n+hex.choose) (by omega)
 rw[hr',←h2,h1]
theorem q44{f:Nat→Option (S→Option (Ex×S))}:∀ {n:Nat}{q:Option (Ex×S)}{r:Ex×S},q2o f n q=some r→∀ m,n≤m→q2o f m q=some r
 |0,q,r,h,m,_=>by simp [q2o] at h
 |n+1,q,r,h,0,hm=>by omega
 |n+1,q,r,h,m+1,hm=>by
  simp only[q2o] at h ⊢
  cases q with
  |none=>simp at h
  |some p=>
   obtain⟨e,s'⟩:=p
   cases e with
   |goto l=>
    simp only at h ⊢
    cases hl:f l with
    |none=>simp [hl] at h
    |some g=>simp only[hl] at h⊢;exact q44 h m (by omega)
   |nrm=>simpa using h
   |exit id=>simpa using h
   |ret=>simpa using h
theorem z3Q{f:Nat→Option (S→Option (Ex×S))}{n:Nat}{q:Option (Ex×S)}{r:Ex×S}(h:q2o f n q=some r):z0S f q=some r:=by
 have hex:∃ n,(q2o f n q).isSome:=⟨n,by rw[h];rfl⟩
 unfold z0S
 rw[dif_pos hex]
 have hc:=hex.choose_spec
 obtain⟨r',hr'⟩:=Option.isSome_iff_exists.1 hc
 have h1:=q44 h (n+hex.choose) (by omega)
 have h2:=q44 hr' (n+hex.choose) (by omega)
 rw[hr',←h2,h1]
end Go.Vm
end

section
namespace Go.Vm
def thn(x:Option (Ex×S))(f:S→Option (Ex×S)):Option (Ex×S):=match x with
 |some (.nrm,s)=>f s
 |r=>r
theorem q2S(s:S) (f):thn (some (.nrm,s)) f=f s:=rfl
theorem z8I(s:S) (f):thn (some (.ret,s)) f=some (.ret,s):=rfl
theorem z6v(n:Nat)(s:S) (f):thn (some (.exit n,s)) f=some (.exit n,s):=rfl
theorem z6u(n:Nat)(s:S) (f):thn (some (.goto n,s)) f=some (.goto n,s):=rfl
def brn(x:Option V)(f g:S→Option (Ex×S))(s:S):Option (Ex×S):=match x with
 |some (.d _ (.bool b))=>if b then f s else g s
 |_=>none
theorem z7K(c) (f g)(s:S):brn (some (.d c (.bool true))) f g s=f s:=rfl
theorem q65(c) (f g)(s:S):brn (some (.d c (.bool false))) f g s=g s:=rfl
def blk(id:Nat)(x:Option (Ex×S)):Option (Ex×S):=match x with
 |some (.exit i,s')=>if i=id then some (.nrm,s') else some (.exit i,s')
 |r=>r
theorem z9X(id)(s:S):blk id (some (.nrm,s))=some (.nrm,s):=rfl
theorem z5A(id)(s:S):blk id (some (.ret,s))=some (.ret,s):=rfl
theorem z7M(id n)(s:S):blk id (some (.goto n,s))=some (.goto n,s):=rfl
theorem q5U(id i)(s:S):blk id (some (.exit i,s))=if i=id then some (.nrm,s) else some (.exit i,s):=rfl
def nrm(x:Option S):Option (Ex×S):=x.map fun s=>(.nrm,s)
theorem q2q(s:S):nrm (some s)=some (.nrm,s):=rfl
theorem q6S(K s):exec K .skip s=some (.nrm,s):=rfl
theorem q25(K l s):exec K (.reg l) s=nrm (q1N K s l):=by
 simp only[exec,nrm];cases q1N K s l <;> rfl
theorem q1U(K a b s):exec K (.seq a b) s=thn (exec K a s) (exec K b):=by
 simp only[exec,thn];cases exec K a s with
 |none=>rfl
 |some p=>obtain⟨e,s'⟩:=p;cases e <;> rfl
theorem q6T(K e a b s):exec K (.cond e a b) s=brn (ev K s e) (exec K a) (exec K b) s:=by
 simp only[exec,brn]
 rcases ev K s e with _|v
 ·rfl
 ·cases v with
  |d c x=>cases x <;> rfl
  |_=>rfl
theorem q3D(K id c s):exec K (.block id c) s=blk id (exec K c s):=by
 simp only[exec,blk]
 rcases exec K c s with _|⟨e,s'⟩
 ·rfl
 ·cases e <;> rfl
theorem z45(K id s):exec K (.exit id) s=some (.exit id,s):=rfl
theorem z44(K l s):exec K (.goto l) s=some (.goto l,s):=rfl
theorem q8g(K s):exec K .ret s=some (.ret,s):=rfl
theorem q9r(K m l s):exec K (.tidy m l) s=nrm (q5z m l s):=by
 simp only[exec,nrm];cases q5z m l s <;> rfl
theorem exec_own(K t k s):exec K (.own t k) s=match look s.rho t with
  |some (.fs _ k' [])=>if k'=k then some (.nrm,⟨put s.rho t (.bsl s.nx 0 0),(s.nx,.dat true k []) :: s.heap,s.nx+1,s.mv⟩) else some (.nrm,s)
  |_=>some (.nrm,s):=rfl
def o1{α β:Type}(f:α→Option β)(x:Option α):Option β:=x.bind f
theorem q2X{α β:Type}(f:α→Option β)(a:α):o1 f (some a)=f a:=rfl
def o2{α β γ:Type}(f:α→β→Option γ)(x:Option α)(y:Option β):Option γ:=x.bind fun a=>y.bind fun b=>f a b
theorem q3S{α β γ:Type}(f:α→β→Option γ)(a:α)(b:β):o2 f (some a) (some b)=f a b:=rfl
def o4(f:V→V→V→V→Option V)(x y z w:Option V):Option V:=x.bind fun a=>y.bind fun b=>z.bind fun c=>w.bind fun d=>f a b c d
theorem z4e(f:V→V→V→V→Option V)(a b c d:V):o4 f (some a) (some b) (some c) (some d)=f a b c d:=rfl
noncomputable def segs(K:Cx)(r:List Seg)(s:S):Option S:=q1N K s r
theorem q2U(K s):segs K [] s=some s:=rfl
theorem q00(K s g r):q1N K s (g :: r)=o1 (segs K r) (q28 K s g):=by
 simp only[q1N,o1,segs];cases q28 K s g <;> rfl
theorem q8U(K s g r):segs K (g :: r) s=o1 (segs K r) (q28 K s g):=q00 K s g r
def segL(K:Cx)(s:S)(g:Seg)(p:S×List Blk):Option S:=
 match q2t K p.1 g.lets with
  |some l=>if q7h K p.1 g.chk then match g.wr with
    |none=>some ⟨l++q0f p.1.rho g.keep,addBlks s.heap s.nx p.2,p.1.nx,s.mv⟩
    |some (d,wr)=>match wonB K p.1 g.wg with
     |some true=>match evWr K p.1 (addBlks s.heap s.nx p.2) wr with
      |some (H,v,q,nx)=>match d with
       |some d=>some ⟨(d,v) :: lose q (l++q0f p.1.rho g.keep),loseH q H,nx,q.ids++s.mv⟩
       |none=>some ⟨lose q (l++q0f p.1.rho g.keep),loseH q H,nx,q.ids++s.mv⟩
      |none=>none
     |some false=>some ⟨l++q0f p.1.rho g.keep,addBlks s.heap s.nx p.2,p.1.nx,s.mv⟩
     |none=>none
   else none
  |none=>none
def segW(K:Cx)(s s1:S)(news:List Blk)(keep:List Nat)(wr:Option (Option Nat×Wr))(won:Option Bool)(chk:Bool)(l:Option (List (Nat×V))):Option S:=
 match l with
 |some l=>if chk then match wr with
   |none=>some ⟨l++q0f s1.rho keep,addBlks s.heap s.nx news,s1.nx,s.mv⟩
   |some (d,wr)=>match won with
    |some true=>match evWr K s1 (addBlks s.heap s.nx news) wr with
     |some (H,v,q,nx)=>match d with
      |some d=>some ⟨(d,v) :: lose q (l++q0f s1.rho keep),loseH q H,nx,q.ids++s.mv⟩
      |none=>some ⟨lose q (l++q0f s1.rho keep),loseH q H,nx,q.ids++s.mv⟩
     |none=>none
    |some false=>some ⟨l++q0f s1.rho keep,addBlks s.heap s.nx news,s1.nx,s.mv⟩
    |none=>none
  else none
 |none=>none
theorem q27(K s mks lets chk wr keep cnt aux wg):q28 K s ⟨mks,lets,chk,wr,keep,cnt,aux,wg,[]⟩=o1 (segL K s ⟨[],lets,chk,wr,keep,cnt,[],wg,[]⟩) (q2z K s mks):=by
 have h:∀ mv H1,z06 K s mv H1 ⟨mks,lets,chk,wr,keep,cnt,aux,wg,[]⟩:=fun mv H1 e he=>by simp at he
 have h2:q28 K s ⟨mks,lets,chk,wr,keep,cnt,aux,wg,[]⟩=q7K K s ⟨mks,lets,chk,wr,keep,cnt,aux,wg,[]⟩:=by
  unfold q28
  split
  ·rename_i s' he;rw[if_pos (h _ _),he]
  ·rename_i he;rw[he]
 rw[h2]
 simp only[q7K,o1,segL];cases q2z K s mks <;> rfl
theorem q3R(K s mks lets chk wr keep cnt aux wg late s1 news):segL K s ⟨mks,lets,chk,wr,keep,cnt,aux,wg,late⟩ (s1,news)=segW K s s1 news keep wr (wonB K s1 wg) (q7h K s1 chk) (q2t K s1 lets):=by
 simp only[segL,segW]
def segO(s:S)(d:Option Nat)(ρ:List (Nat×V))(x:Option (List (Nat×Blk)×V×Lost×Nat)):Option S:=match x with
 |some (H,v,q,nx)=>match d with
  |some d=>some ⟨(d,v) :: lose q ρ,loseH q H,nx,q.ids++s.mv⟩
  |none=>some ⟨lose q ρ,loseH q H,nx,q.ids++s.mv⟩
 |none=>none
theorem q6a(s d ρ H v q nx):segO s (some d) ρ (some (H,v,q,nx))=some ⟨(d,v) :: lose q ρ,loseH q H,nx,q.ids++s.mv⟩:=rfl
theorem q8V(s ρ H v q nx):segO s none ρ (some (H,v,q,nx))=some ⟨lose q ρ,loseH q H,nx,q.ids++s.mv⟩:=rfl
theorem q16(K s s1 news keep won l):segW K s s1 news keep none won true (some l)=some ⟨l++q0f s1.rho keep,addBlks s.heap s.nx news,s1.nx,s.mv⟩:=rfl
theorem q59(K s s1 news keep d wr l):segW K s s1 news keep (some (d,wr)) (some true) true (some l)=segO s d (l++q0f s1.rho keep) (evWr K s1 (addBlks s.heap s.nx news) wr):=by
 simp only[segW,segO,if_true]
theorem z6y(K s s1 news keep d wr l):segW K s s1 news keep (some (d,wr)) (some false) true (some l)=some ⟨l++q0f s1.rho keep,addBlks s.heap s.nx news,s1.nx,s.mv⟩:=rfl
theorem q2j(K s):q2z K s []=some (s,[]):=rfl
def mksA(K:Cx)(s:S)(d:Nat)(r:List (Nat×Mk))(p:V×List Blk):Option (S×List Blk):=
 match q2z K ⟨put s.rho d p.1,s.heap,s.nx+p.2.length,s.mv⟩ r with
 |some (s',more)=>some (s',p.2++more)
 |none=>none
def mksB(news:List Blk)(p:S×List Blk):Option (S×List Blk):=some (p.1,news++p.2)
theorem q6q(news s' more):mksB news (s',more)=some (s',news++more):=rfl
theorem q2N(K s d m r):q2z K s ((d,m) :: r)=o1 (mksA K s d r) (evMk K s m):=by
 simp only[q2z,o1,mksA];cases evMk K s m <;> rfl
theorem q6r(K s d r v news):mksA K s d r (v,news)=o1 (mksB news) (q2z K ⟨put s.rho d v,s.heap,s.nx+news.length,s.mv⟩ r):=by
 simp only[mksA,o1];cases q2z K ⟨put s.rho d v,s.heap,s.nx+news.length,s.mv⟩ r <;> rfl
theorem q1B(K s):q2t K s []=some []:=rfl
def letC(d:Nat)(v:V)(l:List (Nat×V)):Option (List (Nat×V)):=some ((d,v) :: l)
theorem q3X(d v l):letC d v l=some ((d,v) :: l):=rfl
theorem q1j(K s d e r):q2t K s ((d,e) :: r)=o2 (letC d) (ev K s e) (q2t K s r):=by
 simp only[q2t,o2,letC];cases ev K s e <;> cases q2t K s r <;> rfl
theorem q2k(K s):q7h K s []=true:=rfl
theorem q49(K s e r):q7h K s (e :: r)=((ev K s e).isSome&&q7h K s r):=rfl
theorem q2P(K s):wonB K s []=some true:=rfl
theorem e_sl(K s t):ev K s (.sl t)=look s.rho t:=rfl
theorem z7y(K s k n):ev K s (.int k n)=some (.int k n):=rfl
theorem z5s(K s b):ev K s (.bool b)=some (.bool b):=rfl
theorem j1N(K s l):ev K s (.str l)=some (.str l):=rfl
theorem z5q(K s k):ev K s (.nilsl k)=some (.fs true k []):=rfl
theorem z9S(K s):ev K s .nilif=some (.d false .nilif):=rfl
theorem e_un(K s o a):ev K s (.un o a)=o1 (evUn o) (ev K s a):=by
 simp only[ev,o1];cases ev K s a <;> rfl
theorem z7z(K s o a b):ev K s (.bin o a b)=o2 (evBin o) (ev K s a) (ev K s b):=by
 simp only[ev,o2];cases ev K s a <;> cases ev K s b <;> rfl
theorem e_eqs(K s n g ks a b):ev K s (.eqs n g ks a b)=o2 (q1r n g ks) (ev K s a) (ev K s b):=by
 simp only[ev,o2];cases ev K s a <;> cases ev K s b <;> rfl
def andV(x y:Option V):Option V:=match x,y with
 |some (.d _ (.bool x)),some (.d _ (.bool y))=>some (.bool (x&&y))
 |some (.d _ (.bool false)),_=>some (.bool false)
 |_,_=>none
theorem z5I(c c' x y):andV (some (.d c (.bool x))) (some (.d c' (.bool y)))=some (.bool (x&&y)):=by cases x <;> rfl
theorem z2K(c y):andV (some (.d c (.bool false))) y=some (.bool false):=by
 unfold andV;split <;> simp_all
theorem e_and(K s a b):ev K s (.and a b)=andV (ev K s a) (ev K s b):=rfl
def orV(x y:Option V):Option V:=match x,y with
 |some (.d _ (.bool x)),some (.d _ (.bool y))=>some (.bool (x||y))
 |some (.d _ (.bool true)),_=>some (.bool true)
 |_,_=>none
theorem q7Y(c c' x y):orV (some (.d c (.bool x))) (some (.d c' (.bool y)))=some (.bool (x||y)):=by cases x <;> rfl
theorem z6L(c y):orV (some (.d c (.bool true))) y=some (.bool true):=by
 unfold orV;split <;> simp_all
theorem e_or(K s a b):ev K s (.or a b)=orV (ev K s a) (ev K s b):=rfl
def j1T(x a b:Option V):Option V:=match x with
 |some (.d _ (.bool x))=>if x then a else b
 |_=>none
theorem z2F(c x a b):j1T (some (.d c (.bool x))) a b=if x then a else b:=rfl
theorem j1Q(K s c a b):ev K s (.cond c a b)=j1T (ev K s c) (ev K s a) (ev K s b):=rfl
theorem e_fa(K s o a):ev K s (.fa o a)=o1 (evFa o) (ev K s a):=by
 simp only[ev,o1];cases ev K s a <;> rfl
theorem e_ia(K s k a b):ev K s (.ia k a b)=o2 (evIa s.heap k) (ev K s a) (ev K s b):=by
 simp only[ev,o2];cases ev K s a <;> cases ev K s b <;> rfl
theorem e_aa(K s l k a b):ev K s (.aa l k a b)=o2 (evAa l k) (ev K s a) (ev K s b):=by
 simp only[ev,o2];cases ev K s a <;> cases ev K s b <;> rfl
theorem e_ix(K s a b):ev K s (.ix a b)=o2 evIx (ev K s a) (ev K s b):=by
 simp only[ev,o2];cases ev K s a <;> cases ev K s b <;> rfl
theorem e_ld(K s n g a):ev K s (.ld n g a)=o1 (evLd s.heap n g) (ev K s a):=by
 simp only[ev,o1];cases ev K s a <;> rfl
theorem e_ext(K s i a):ev K s (.ext i a)=o1 (evExt i) (ev K s a):=by
 simp only[ev,o1];cases ev K s a <;> rfl
theorem z7x(K s b a):ev K s (.len b a)=o1 (evLen b) (ev K s a):=by
 simp only[ev,o1];cases ev K s a <;> rfl
def z1h(H:List (Nat×Blk))(str bl bh bm:Bool)(k:Nat)(v l h m:V):Option V:=if str==v.isStr then q9v H bl bh bm k v l h m else none
theorem j1O(K s str bl bh bm k a lo hi mx):ev K s (.cut str bl bh bm k a lo hi mx)=o4 (z1h s.heap str bl bh bm k) (ev K s a) (ev K s lo) (ev K s hi) (ev K s mx):=by
 simp only[ev,o4,z1h];cases ev K s a <;> cases ev K s lo <;> cases ev K s hi <;> cases ev K s mx <;> rfl
def aggV:V→Option V
 |.tup vs=>some (.agg vs)
 |_=>none
theorem z1t(vs):aggV (.tup vs)=some (.agg vs):=rfl
theorem j1R(K s a):ev K s (.agg a)=o1 aggV (ev K s a):=by
 simp only[ev,o1];cases ev K s a with
 |none=>rfl
 |some v=>cases v <;> rfl
theorem e_set(K s o n a b):ev K s (.set o n a b)=o2 (evSet o n) (ev K s a) (ev K s b):=by
 simp only[ev,o2];cases ev K s a <;> cases ev K s b <;> rfl
theorem j1P(K s k a):ev K s (.conv k a)=o1 (q9w k) (ev K s a):=by
 simp only[ev,o1];cases ev K s a <;> rfl
def j1U(K:Cx)(H:List (Nat×Blk))(f:FuncId):V→Option V
 |.tup vs=>q3N K H f vs
 |_=>none
theorem q4J(K H f vs):j1U K H f (.tup vs)=q3N K H f vs:=rfl
theorem z1j(K s f a):ev K s (.call f a)=o1 (j1U K s.heap f) (ev K s a):=by
 simp only[ev,o1];cases ev K s a with
 |none=>rfl
 |some v=>cases v <;> rfl
def z8h(K:Cx)(H:List (Nat×Blk)):V→V→Option V
 |.fn f caps,.tup vs=>q3N K H f (vs++caps)
 |_,_=>none
theorem z2H(K H f caps vs):z8h K H (.fn f caps) (.tup vs)=q3N K H f (vs++caps):=rfl
theorem z9T(K s f a):ev K s (.callv f a)=o2 (z8h K s.heap) (ev K s f) (ev K s a):=by
 simp only[ev,o2];cases ev K s f with
 |none=>rfl
 |some v=>cases ev K s a with
  |none=>cases v <;> rfl
  |some u=>cases v <;> cases u <;> rfl
theorem z5r(K s):ev K s .nil=some (.tup []):=rfl
def j1S(v:V):V→Option V
 |.tup vs=>some (.tup (v :: vs))
 |_=>none
theorem q4F(v vs):j1S v (.tup vs)=some (.tup (v :: vs)):=rfl
theorem z1i(K s a b):ev K s (.cons a b)=o2 j1S (ev K s a) (ev K s b):=by
 simp only[ev,o2];cases ev K s a with
 |none=>rfl
 |some v=>cases ev K s b with
  |none=>rfl
  |some u=>cases u <;> rfl
def z0C(own ps:Bool)(x:Option (V×List Blk)):Option V:=match x with
 |some (r,[])=>if ps then some r.renew else if own&&!r.new then none else some r
 |some (r,b :: bs)=>if own then none else view (indexed (b :: bs)) r
 |_=>none
theorem q3H(own r):z0C own false (some (r,[]))=if own&&!r.new then none else some r:=rfl
theorem z2I(own r):z0C own true (some (r,[]))=some r.renew:=rfl
def j1V(K:Cx)(f:FuncId)(own ps:Bool)(ws:List V):Option V:=z0C own ps (K.call f ws)
theorem q5S(K f own ps ws):j1V K f own ps ws=z0C own ps (K.call f ws):=rfl
theorem q4l(C:Cx) (f vs):q7u C f vs=(vs.all V.new&&!vs.all V.flatV&&C.loc f):=rfl
theorem q4B(K H f vs):q3N K H f vs=o1 (j1V K f (vs.any V.own) (q7u K f vs)) (mapO (view H) vs):=by
 unfold q3N
 cases mapO (view H) vs with
 |none=>rfl
 |some ws=>
  show _=z0C (vs.any V.own) (q7u K f vs) (K.call f ws)
  cases hk:K.call f ws with
  |none=>simp [hk,z0C]
  |some p=>obtain⟨r,news⟩:=p;cases news <;> simp [hk,z0C]
def mapC{β:Type}(b:β)(bs:List β):Option (List β):=some (b :: bs)
theorem q6v{β:Type}(b:β) (bs):mapC b bs=some (b :: bs):=rfl
theorem q20{α β:Type}(f:α→Option β):mapO f []=some []:=rfl
theorem q3k{α β:Type}(f:α→Option β) (a r):mapO f (a :: r)=o2 mapC (f a) (mapO f r):=by
 simp only[mapO,o2,mapC];cases f a <;> cases mapO f r <;> rfl
def mkBox(nx:Nat)(v:V):Option (V×List Blk):=if v.laid then some (.ptr nx 0 0,[.mix v.cells.length [v.cells]]) else none
theorem q4A(K s e):evMk K s (.box e)=o1 (mkBox s.nx) (ev K s e):=by
 simp only[evMk,o1,mkBox];cases ev K s e <;> rfl
theorem z2j:q5n []=false:=rfl
theorem z0f(t v r):q5n ((t,v) :: r)=if t=1000000000 then true else q5n r:=rfl
theorem q2I:q78 []=[]:=rfl
theorem q1X(t r):q78 (t :: r)=if t=1000000000 then [(t,.junk)] else q78 r:=rfl
def q75(mk:Bool)(nx k:Nat)(z l c:V):Option (V×List Blk):=match z,l,c with
 |.tup zs,.d _ (.int _ n),.d _ (.int _ c)=>match mapO asD zs with
  |some ds=>if 0≤n∧n≤c∧c≤most∧ds.length=k∧0<k∧ds.all D.flat0 then some (bif mk then .bsx nx 0 n.toNat else .bsl nx 0 n.toNat,[.dat true k (List.replicate n.toNat ds)]) else none
  |none=>none
 |_,_,_=>none
def o3{β:Type}(f:V→V→V→Option β)(x y z:Option V):Option β:=x.bind fun a=>y.bind fun b=>z.bind fun c=>f a b c
theorem z88{β:Type}(f:V→V→V→Option β)(a b c:V):o3 f (some a) (some b) (some c)=f a b c:=rfl
theorem z7q(K s k z l c):evMk K s (.mks k z l c)=o3 (q75 (q5n s.rho) s.nx k) (ev K s z) (ev K s l) (ev K s c):=by
 simp only[evMk,o3]
 cases ev K s z with
 |none=>rfl
 |some z=>cases ev K s l with
  |none=>cases z <;> rfl
  |some l=>cases ev K s c with
   |none=>
    cases z <;> try rfl
    cases l <;> try rfl
    rename_i d;cases d <;> rfl
   |some c=>
    cases z <;> try rfl
    cases l <;> try rfl
    rename_i d;cases d <;> try rfl
    cases c <;> try rfl
    rename_i d;cases d <;> rfl
def z71(nx k:Nat):V→Option (V×List Blk)
 |.tup vs=>if vs.all (fun v=>v.laid&&v.cells.length==k)&&decide (0<k) then some (.bsl nx 0 vs.length,[mkBlk k (vs.map V.cells)]) else none
 |_=>none
theorem z2h(nx k vs):z71 nx k (.tup vs)=if vs.all (fun v=>v.laid&&v.cells.length==k)&&decide (0<k) then some (.bsl nx 0 vs.length,[mkBlk k (vs.map V.cells)]) else none:=rfl
theorem z5k(K s k e):evMk K s (.lits k e)=o1 (z71 s.nx k) (ev K s e):=by
 simp only[evMk,o1];cases ev K s e with
 |none=>rfl
 |some v=>cases v <;> rfl
def mkOR(nx:Nat)(own:Bool)(x:Option (V×List Blk)):Option (V×List Blk):=match x with
 |some (r,news)=>if news.all Blk.plain&&(!own||(r.new2&&news.all Blk.new)) then some (r.shift nx,news) else if news.all Blk.lays&&(!own||(r.new2&&news.all Blk.newM)) then some (r.shift nx,news.map (Blk.shift nx)) else none
 |none=>none
theorem q9a(nx own r news):mkOR nx own (some (r,news))=if news.all Blk.plain&&(!own||(r.new2&&news.all Blk.new)) then some (r.shift nx,news) else if news.all Blk.lays&&(!own||(r.new2&&news.all Blk.newM)) then some (r.shift nx,news.map (Blk.shift nx)) else none:=rfl
def mkOA(K:Cx)(nx:Nat)(f:FuncId)(own:Bool)(ws:List V):Option (V×List Blk):=mkOR nx own (K.call f ws)
theorem z4s(K nx f own ws):mkOA K nx f own ws=mkOR nx own (K.call f ws):=rfl
def mkO(K:Cx)(s:S)(f:FuncId):V→Option (V×List Blk)
 |.tup vs=>o1 (mkOA K s.nx f (vs.any V.own)) (mapO (view s.heap) vs)
 |_=>none
theorem z4r(K s f vs):mkO K s f (.tup vs)=o1 (mkOA K s.nx f (vs.any V.own)) (mapO (view s.heap) vs):=rfl
theorem q7L(K s f e):evMk K s (.callo f e)=o1 (mkO K s f) (ev K s e):=by
 simp only[evMk,o1];cases ev K s e with
 |none=>rfl
 |some v=>
  cases v <;> try rfl
  rename_i vs
  simp only[Option.bind_some,mkO,o1]
  cases mapO (view s.heap) vs with
  |none=>rfl
  |some ws=>simp only[Option.bind_some,mkOA,mkOR];cases K.call f ws <;> rfl
def q9Q(H:List (Nat×Blk))(nx n:Nat)(a x:V):Option (List (Nat×Blk)×V×Lost×Nat):=match a with
 |.ptr b i j=>if x.laid&&x.cells.length==n then match look H b with
    |some blk=>match blk.set i j x.cells with
     |some blk'=>some (put H b blk',.junk,.none,nx)
     |none=>none
    |none=>none
   else none
 |_=>none
def stB(H:List (Nat×Blk))(nx b:Nat)(x:Option Blk):Option (List (Nat×Blk)×V×Lost×Nat):=x.bind fun k=>some (put H b k,.junk,.none,nx)
theorem z0O(H nx b k):stB H nx b (some k)=some (put H b k,.junk,.none,nx):=rfl
def stA(H:List (Nat×Blk))(nx b i j:Nat)(cs:List V)(k:Blk):Option (List (Nat×Blk)×V×Lost×Nat):=stB H nx b (k.set i j cs)
theorem z7V(H nx b i j cs k):stA H nx b i j cs k=stB H nx b (k.set i j cs):=rfl
theorem q5Y(H nx n b i j x):q9Q H nx n (.ptr b i j) x=if x.laid&&x.cells.length==n then o1 (stA H nx b i j x.cells) (look H b) else none:=by
 simp only[q9Q]
 split
 ·cases look H b with
  |none=>rfl
  |some k=>simp only[o1,Option.bind_some,stA,stB];cases k.set i j x.cells <;> rfl
 ·rfl
theorem q7H(K s H n a v):evWr K s H (.store n a v)=o2 (q9Q H s.nx n) (ev K s a) (ev K s v):=by
 simp only[evWr,o2]
 cases ev K s a with
 |none=>rfl
 |some a=>cases ev K s v with
  |none=>cases a <;> rfl
  |some v=>cases a <;> rfl
def z6k(s:S)(H:List (Nat×Blk))(k:Nat)(x:V)(rows:Rows):Option (List (Nat×Blk)×V×Lost×Nat):=match x with
 |.bsl id i len=>match look H id with
  |some blk=>if i=0∧blk.n=len∧blk.k=k∧len+rows.n≤most then some (put H id (blk.app rows),.bsl id 0 (len+rows.n),.some id,s.nx) else none
  |none=>none
 |.fs _ k' []=>if k'=k∧rows.n≤most then some ((s.nx,rows.blk k) :: H,.bsl s.nx 0 rows.n,.none,s.nx+1) else none
 |_=>none
def apA(s:S)(H:List (Nat×Blk))(k id i len:Nat)(rows:Rows)(blk:Blk):Option (List (Nat×Blk)×V×Lost×Nat):=
 if i=0∧blk.n=len∧blk.k=k∧len+rows.n≤most then some (put H id (blk.app rows),.bsl id 0 (len+rows.n),.some id,s.nx) else none
theorem z3G(s H k id i len rows):z6k s H k (.bsl id i len) rows=o1 (apA s H k id i len rows) (look H id):=by
 simp only[z6k,o1,apA];cases look H id <;> rfl
theorem z6j(s H k c rows)(h:rows.n≤most):z6k s H k (.fs c k []) rows=some ((s.nx,rows.blk k) :: H,.bsl s.nx 0 rows.n,.none,s.nx+1):=if_pos ⟨rfl,h⟩
theorem z7p(K s H k a b):evWr K s H (.app k a b)=o2 (z6k s H k) (ev K s a) (o1 (q03 H k) (ev K s b)):=by
 simp only[evWr,o2,o1]
 cases ev K s a with
 |none=>rfl
 |some x=>cases ev K s b with
  |none=>cases x <;> rfl
  |some y=>
   simp only[Option.bind_some]
   cases q03 H k y <;> rfl
def z8y(K:Cx)(nx:Nat)(H:List (Nat×Blk))(f:FuncId):V→Option (List (Nat×Blk)×V×Lost×Nat)
 |.tup vs=>match q3c f vs with
  |some (g,ws)=>q5C K nx H g ws (q0N H (refN H+64) [] (refsL ws))
  |none=>none
 |_=>none
theorem q5Z{K nx H f vs}(h:(f==4294967295)=false):z8y K nx H f (.tup vs)=q5C K nx H f vs (q0N H (refN H+64) [] (refsL vs)):=by
 simp only[z8y,q3c,dynF,h,Bool.false_eq_true,if_false]
theorem q7I(K s H f e):evWr K s H (.calle f e)=o1 (z8y K s.nx H f) (ev K s e):=by
 simp only[evWr,o1];cases ev K s e with
 |none=>rfl
 |some v=>cases v with
  |tup vs=>rfl
  |_=>rfl
def effR(nx:Nat)(H:List (Nat×Blk))(bs:List Nat)(p:V×List Blk×List Nat):Option (List (Nat×Blk)×V×Lost×Nat):=
 if bs.length≤p.2.1.length then some (putAll (q3I (p.2.2.map (q0E bs nx)) H) (q0E bs nx) 0 p.2.1,p.1.ren (q0E bs nx),.many (p.2.2.map (q0E bs nx)),nx+(p.2.1.length - bs.length)) else none
theorem z9Q(nx H bs r b m):effR nx H bs (r,b,m)=if bs.length≤b.length then some (putAll (q3I (m.map (q0E bs nx)) H) (q0E bs nx) 0 b,r.ren (q0E bs nx),.many (m.map (q0E bs nx)),nx+(b.length - bs.length)) else none:=rfl
def effA(K:Cx)(nx:Nat)(H:List (Nat×Blk))(f:FuncId)(vs:List V)(bs:List Nat)(blks:List Blk):Option (List (Nat×Blk)×V×Lost×Nat):=o1 (effR nx H bs) (K.eff f (vs.map fun v=>v.dim.ren bs.idxOf) blks)
theorem z9R(K nx H f vs bs blks):effA K nx H f vs bs blks=o1 (effR nx H bs) (K.eff f (vs.map fun v=>v.dim.ren bs.idxOf) blks):=rfl
theorem z7u(K nx H f vs bs):q5C K nx H f vs bs=if decide bs.Nodup&&vs.all (V.within bs.contains)&&closedB H bs then o1 (effA K nx H f vs bs) (handed H bs) else none:=by
 unfold q5C
 split
 ·cases handed H bs with
  |none=>rfl
  |some blks=>
   simp only[q2X,effA]
   cases K.eff f (vs.map fun v=>v.dim.ren bs.idxOf) blks with
   |none=>rfl
   |some p=>obtain⟨r,b,m⟩:=p;rfl
 ·rfl
theorem z7O(bs nx i):q0E bs nx i=(bs[i]?).getD (nx+(i - bs.length)):=by
 unfold q0E;cases bs[i]? <;> rfl
def wonV(b:Bool):Option V→Option Bool
 |some (.d _ (.bool x))=>some (x==b)
 |_=>none
theorem q3e(b c x):wonV b (some (.d c (.bool x)))=some (x==b):=rfl
theorem z6l(K s e b):wonB K s [(e,b)]=wonV b (ev K s e):=by
 simp only[wonB,wonV]
 cases ev K s e with
 |none=>rfl
 |some v=>cases v with
  |d c x=>cases x <;> rfl
  |_=>rfl
theorem z6Y{α:Type} (t):look ([]:List (Nat×α)) t=none:=rfl
def z4A{α:Type}(v:α)(r:List (Nat×α))(t:Nat):Bool→Option α
 |true=>some v
 |false=>look r t
theorem q1y{α:Type}(v:α) (r t):z4A v r t true=some v:=rfl
theorem q1i{α:Type}(v:α) (r t):z4A v r t false=look r t:=rfl
theorem q2e{α:Type} (k v r t):look ((k,v) :: r:List (Nat×α)) t=z4A v r t (k==t):=by
 simp only[look]
 by_cases h:k=t
 ·simp [h,z4A]
 ·have:(k==t)=false:=by simpa using h
  simp [h,this,z4A]
def putB{α:Type}(k:Nat)(u:α)(r:List (Nat×α))(t:Nat)(v:α):Bool→List (Nat×α)
 |true=>(t,v) :: r
 |false=>(k,u) :: put r t v
theorem z3X{α:Type}(k:Nat)(u:α) (r t v):putB k u r t v true=(t,v) :: r:=rfl
theorem q2G{α:Type}(k:Nat)(u:α) (r t v):putB k u r t v false=(k,u) :: put r t v:=rfl
theorem q6e{α:Type} (t v):put ([]:List (Nat×α)) t v=[(t,v)]:=rfl
theorem q4k{α:Type} (k u r t v):put ((k,u) :: r:List (Nat×α)) t v=putB k u r t v (k==t):=by
 simp only[put]
 by_cases h:k=t
 ·simp [h,putB]
 ·have:(k==t)=false:=by simpa using h
  simp [h,this,putB]
def resC{α:Type}(l:List (Nat×α))(t:Nat)(r:List Nat)(x:Option α):List (Nat×α):=match x with
 |some v=>(t,v) :: q0f l r
 |none=>q0f l r
theorem q19{α:Type}(l:List (Nat×α)) (t r v):resC l t r (some v)=(t,v) :: q0f l r:=rfl
theorem q80{α:Type}(l:List (Nat×α)) (t r):resC l t r none=q0f l r:=rfl
theorem q0X{α:Type}(l:List (Nat×α)):q0f l []=[]:=rfl
theorem q0Q{α:Type}(l:List (Nat×α)) (t r):q0f l (t :: r)=resC l t r (look l t):=rfl
noncomputable def endF(K:Cx)(res:List E)(own:Bool)(m:Nat)(x:Option (Ex×S)):Option (V×List Blk×List Nat):=match x with
 |some (.nrm,s)=>o1 (finish m own s) ((mapO (ev K s) res).map q0b)
 |some (.ret,s)=>o1 (finish m own s) ((mapO (ev K s) res).map q0b)
 |_=>none
theorem z7v(K res own m s):endF K res own m (some (.nrm,s))=o1 (finish m own s) ((mapO (ev K s) res).map q0b):=rfl
theorem q5O(K res own m s):endF K res own m (some (.ret,s))=o1 (finish m own s) ((mapO (ev K s) res).map q0b):=rfl
theorem q4h(K body res own args blks):q0o K ⟨body,res,own⟩ args blks=endF K res own blks.length (exec K body (startS args blks)):=by
 unfold q0o endF
 simp only
 cases exec K body (startS args blks) with
 |none=>rfl
 |some p=>
  obtain⟨e,s⟩:=p
  cases e <;> try rfl
  all_goals
   simp only[o1]
   cases mapO (ev K s) res <;> rfl
theorem q5o(f:S→Option (Ex×S))(s:S):q3J f s=match f s with
  |some (.nrm,s')=>q3J f s'
  |r=>r:=by
 have key:∀ r,q3J f s=some r→(match f s with|some (.nrm,s')=>q3J f s'|r=>r)=some r:=by
  intro r h
  unfold q3J at h
  split at h
  ·rename_i hex
   generalize hex.choose=n at h
   cases n with
   |zero=>simp [iter] at h
   |succ n=>
    simp only[iter] at h
    cases hf:f s with
    |none=>simp [hf] at h
    |some p=>
     obtain⟨e,s'⟩:=p
     cases e with
     |nrm=>simp only[hf] at h⊢;exact q3C h
     |_=>simpa [hf] using h
  ·cases h
 have back:∀ r,(match f s with|some (.nrm,s')=>q3J f s'|r=>r)=some r→q3J f s=some r:=by
  intro r h
  cases hf:f s with
  |none=>simp [hf] at h
  |some p=>
   obtain⟨e,s'⟩:=p
   cases e with
   |nrm=>
    simp only[hf] at h
    have h0:=h
    unfold q3J at h
    split at h
    ·rename_i hex
     exact q3C (n:=hex.choose+1) (by simp only[iter,hf];exact h)
    ·cases h
   |exit id=>exact q3C (n:=1) (by simpa [iter,hf] using h)
   |goto id=>exact q3C (n:=1) (by simpa [iter,hf] using h)
   |ret=>exact q3C (n:=1) (by simpa [iter,hf] using h)
 cases h1:q3J f s with
 |some r=>exact(key r h1).symm
 |none=>
  cases h2:(match f s with|some (.nrm,s')=>q3J f s'|r=>r) with
  |none=>rfl
  |some r=>rw[back r h2] at h1;cases h1
noncomputable def lp(K:Cx)(m:Nat)(sl:List Nat)(body:C)(s:S):Option (Ex×S):=match exec K body s with
 |some (.nrm,s')=>exec K (.loop (.seq (.tidy m sl) body)) s'
 |r=>r
noncomputable def lpT(K:Cx)(m:Nat)(sl:List Nat)(body:C)(x:Option (Ex×S)):Option (Ex×S):=match x with
 |some (.nrm,s')=>o1 (lp K m sl body) (q5z m sl s')
 |r=>r
theorem z9g(K m sl body s):lpT K m sl body (some (.nrm,s))=o1 (lp K m sl body) (q5z m sl s):=rfl
theorem z6W(K m sl body n s):lpT K m sl body (some (.exit n,s))=some (.exit n,s):=rfl
theorem z9f(K m sl body s):lpT K m sl body (some (.ret,s))=some (.ret,s):=rfl
theorem z6V(K m sl body n s):lpT K m sl body (some (.goto n,s))=some (.goto n,s):=rfl
theorem q9s(K m sl body s):exec K (.loop (.seq (.tidy m sl) body)) s=o1 (lp K m sl body) (q5z m sl s):=by
 show q3J (exec K (.seq (.tidy m sl) body)) s=_
 rw[q5o,q1U,q9r]
 cases q5z m sl s with
 |none=>rfl
 |some s'=>
  rw[q2q,q2S,q2X]
  rfl
theorem j0r(K m sl body s):lp K m sl body s=lpT K m sl body (exec K body s):=by
 unfold lp lpT
 cases exec K body s with
 |none=>rfl
 |some p=>
  obtain⟨e,s'⟩:=p
  cases e <;> try rfl
  exact q9s K m sl body s'
theorem q0I{K m sl body body' s}(h:body=body'):lp K m sl body s=lpT K m sl body (exec K body' s):=by
 subst h;exact j0r K m sl body s
end Go.Vm
end

section
namespace Go.Vm
def nth{α:Type} [Inhabited α](l:List α)(n:Int):α:=l.getD n.toNat default
theorem q05{α:Type} [Inhabited α](l:List α)(i:Nat):nth l (i:Int)=l.getD i default:=by simp [nth]
theorem q74{α:Type} [Inhabited α]{l:List α}{n:Int}(h:n.toNat<l.length):l[n.toNat]? = some (nth l n):=by
 unfold nth;rw[List.getD_eq_getElem?_getD,List.getElem?_eq_getElem h];rfl
theorem q6o{α:Type} [Inhabited α]{l:List α}{n:Int}(h:n.toNat<l.length):l[n.toNat]=nth l n:=by
 have:=q74 h
 rw[List.getElem?_eq_getElem h] at this
 exact Option.some.inj this
theorem q0F{α:Type} [Inhabited α]{l:List α}{i:Nat}(h:i<l.length):l.drop i=nth l (i:Int) :: l.drop (i+1):=by
 rw[List.drop_eq_getElem_cons h,←q6o (n:=(i:Int)) (by simpa using h)]
 simp
def z8H(m:Nat)(H:List (Nat×Blk))(mv:List Nat)(ρ:List (Nat×V))(bs:List Nat):Option S:=
 if decide bs.Nodup&&decide (bs.take m=List.range m)&&ρ.all (fun p=>p.2.within bs.contains)&&closedB H bs then
  some ⟨ρ.map fun p=>(p.1,p.2.ren bs.idxOf),bs.zipIdx.filterMap fun p=>(look H p.1).map fun k=>(p.2,k.ren bs.idxOf),bs.length,(List.range m).filter mv.contains⟩
 else none
def z94(m:Nat)(H:List (Nat×Blk))(mv:List Nat)(ρ:List (Nat×V)):Option S:=z8H m H mv ρ (q0N H (refN H+64) [] (List.range m++refsL (ρ.map (·.2))))
theorem z8G(m slots ρ H nx mv):q5z m slots ⟨ρ,H,nx,mv⟩=z94 m H mv (q0f ρ slots):=rfl
theorem z6t(m H mv ρ):z94 m H mv ρ=z8H m H mv ρ (q0N H (refN H+64) [] (List.range m++refsL (ρ.map (·.2)))):=rfl
theorem z6s(m H mv ρ bs):z8H m H mv ρ bs=if decide bs.Nodup&&decide (bs.take m=List.range m)&&ρ.all (fun p=>p.2.within bs.contains)&&closedB H bs then
  some ⟨ρ.map fun p=>(p.1,p.2.ren bs.idxOf),bs.zipIdx.filterMap fun p=>(look H p.1).map fun k=>(p.2,k.ren bs.idxOf),bs.length,(List.range m).filter mv.contains⟩
 else none:=rfl
theorem q4Y(H n done):q0N H n done []=done:=by cases n <;> rfl
def z0V(H:List (Nat×Blk))(n:Nat)(done:List Nat)(b:Nat)(todo:List Nat):Bool→List Nat
 |true=>q0N H n done todo
 |false=>q0N H n (done++[b]) (todo++(match look H b with|some k=>k.refs|none=>[]))
def z6G:Option Blk→List Nat
 |some k=>k.refs
 |none=>[]
theorem q4W(k):z6G (some k)=k.refs:=rfl
theorem q2W(H n done b todo):q0N H (n+1) done (b :: todo)=z0V H n done b todo (done.contains b):=by
 simp only[q0N];cases done.contains b <;> rfl
theorem q97(H n done b todo):z0V H n done b todo true=q0N H n done todo:=rfl
theorem q2p(H n done b todo):z0V H n done b todo false=q0N H n (done++[b]) (todo++z6G (look H b)):=by
 simp only[z0V,z6G]
theorem j1M(H k c rows c' kd)(n:Int):evIa H k (.d c (.sl k rows)) (.d c' (.int kd n))=if 0≤n then(rows[n.toNat]?).map (fun row=>.d c (.ptr row)) else none:=by
 simp only[evIa]
 by_cases h:0≤n <;> simp [h]
 cases rows[n.toNat]? <;> rfl
theorem z9L{α:Type} [Inhabited α] (H k c)(l:List α)(e:α→List D) (c' kd)(n:Int)(h0:0≤n)(h:n<l.length):evIa H k (.d c (.sl k (l.map e))) (.d c' (.int kd n))=some (.d c (.ptr (e (nth l n)))):=by
 rw[j1M,if_pos h0,List.getElem?_map,q74 (by omega)];rfl
def iaB(k b i len:Nat)(n:Int)(blk:Blk):Option V:=if blk.k=k∧0≤n∧n<len then some (.ptr b (i+n.toNat) 0) else none
theorem z7t(H k b i len c kd)(n:Int):evIa H k (.bsl b i len) (.d c (.int kd n))=o1 (iaB k b i len n) (look H b):=by
 simp only[evIa,o1,iaB];cases look H b <;> rfl
theorem z1g(H k b i len c kd)(n:Int):evIa H k (.bsx b i len) (.d c (.int kd n))=o1 (iaB k b i len n) (look H b):=by
 simp only[evIa,o1,iaB];cases look H b <;> rfl
theorem z4J(k b i)(len:Nat)(n:Int) (c rows)(h0:0≤n)(h:n<len):iaB k b i len n (.dat c k rows)=some (.ptr b (i+n.toNat) 0):=if_pos ⟨rfl,h0,h⟩
def ldR(n:Nat)(g:Bool)(j:Nat)(row:List V):Option V:=part g n (row.drop j)
theorem q6z(n g j row):ldR n g j row=part g n (row.drop j):=rfl
def ldB(n:Nat)(g:Bool)(i j:Nat)(blk:Blk):Option V:=o1 (ldR n g j) (blk.row? i)
theorem q6A(n g i j blk):ldB n g i j blk=o1 (ldR n g j) (blk.row? i):=rfl
theorem q29(H n g b i j):evLd H n g (.ptr b i j)=o1 (ldB n g i j) (look H b):=by
 simp only[evLd,o1,ldB,ldR]
 cases look H b with
 |none=>rfl
 |some blk=>
  show _=o1 (ldR n g j) (blk.row? i)
  cases h:blk.row? i <;> simp [h,o1,ldR]
theorem j1L(H n g c cells):evLd H n g (.d c (.ptr cells))=part g n (cells.map (mkd c)):=rfl
theorem q4m(n cs):part true n cs=if n≤cs.length then some (.agg (cs.take n)) else none:=rfl
theorem q5J(v cs):part false 1 (v :: cs)=some v:=rfl
theorem q2v(k rows i):(Blk.mix k rows).row? i=rows[i]?:=rfl
theorem z3R(c k rows i):(Blk.dat c k rows).row? i=(rows[i]?).map (·.map (mkd c)):=rfl
theorem z0T{α:Type} [Inhabited α] (c k)(l:List α)(e:α→List D)(i:Nat)(h:i<l.length):(Blk.dat c k (l.map e)).row? i=some ((e (nth l i)).map (mkd c)):=by
 rw[z3R,List.getElem?_map,List.getElem?_eq_getElem h,q05,List.getD_eq_getElem?_getD,List.getElem?_eq_getElem h];rfl
theorem z0Q(k row rows j cells):(Blk.mix k (row :: rows)).set 0 j cells=if j+cells.length≤row.length then some (.mix k (splice j cells row :: rows)) else none:=by
 simp [Blk.set]
def setD(c:Bool)(k:Nat)(rows:List (List D))(row:List D)(i j:Nat)(cells:List V)(x:Option (List D)):Option Blk:=match x with
 |some ds=>some (.dat (c&&cells.all V.new1) k (rows.set i (splice j ds row)))
 |none=>some (.mix k ((rows.map (·.map (mkd c))).set i (splice j cells (row.map (mkd c)))))
theorem z3O(c k rows row i j cells ds):setD c k rows row i j cells (some ds)=some (.dat (c&&cells.all V.new1) k (rows.set i (splice j ds row))):=rfl
theorem z6x{α:Type} [Inhabited α] (c k)(l:List α)(e:α→List D) (i j cells)(hi:i<l.length):(Blk.dat c k (l.map e)).set i j cells=if j+cells.length≤(e (nth l i)).length then setD c k (l.map e) (e (nth l i)) i j cells (mapO asD cells) else none:=by
 have:(l.map e)[i]? = some (e (nth l i)):=by
  rw[List.getElem?_map,List.getElem?_eq_getElem hi,q05,List.getD_eq_getElem?_getD,List.getElem?_eq_getElem hi];rfl
 simp only[Blk.set,this,setD]
 split
 ·cases mapO asD cells <;> rfl
 ·rfl
theorem z0H{x:Int}(h1 : -9223372036854775808≤x)(h2:x≤9223372036854775807):IntKind.i64.wrap x=x:=by
 unfold IntKind.wrap
 have e1:(2:Int) ^ IntKind.i64.bits=18446744073709551616:=by decide
 have e2:(2:Int) ^ (IntKind.i64.bits - 1)=9223372036854775808:=by decide
 simp only[e1,e2]
 have:IntKind.i64.signed=true:=rfl
 simp only[this,Bool.true_and,decide_eq_true_eq]
 split <;> omega
end Go.Vm
namespace Go.Vm
theorem eq_t{a b:Int}(h:a=b):(a==b)=true:=by simpa using h
theorem eq_f{a b:Int}(h:¬ a=b):(a==b)=false:=by simpa using h
theorem ne_t{a b:Int}(h:¬ a=b):(a != b)=true:=by simpa using h
theorem ne_f{a b:Int}(h:a=b):(a != b)=false:=by simp [h]
theorem j0a{α:Type} (H k c)(l:List α)(e:α→List D):q03 H k (.d c (.sl k (l.map e)))=some (.dat (c||q0V (l.map e)) (l.map e)):=by simp [q03]
theorem q9o:q0V []=true:=rfl
theorem q8e(r rows):q0V (r :: rows)=(r.all D.flat&&q0V rows):=rfl
theorem z9Z(s H k id len rs c rows)(h:rows.length=len)(h2:len+rs.n≤most):apA s H k id 0 len rs (.dat c k rows)=some (put H id ((Blk.dat c k rows).app rs),.bsl id 0 (len+rs.n),.some id,s.nx):=if_pos ⟨rfl,h,rfl,h2⟩
theorem viewD_datm{α:Type} (n H b i len c k)(l:List α)(e:α→List D)(hb:look H b=some (.dat c k (l.map e)))(h:i+len≤l.length):q0d (n+1) H (.bsl b i len)=some (.sl k (((l.drop i).take len).map e)):=by
 simp only[q0d,hb,List.length_map,h,if_true,List.map_take,List.map_drop]
theorem ile_T{a b:Int}(h:a≤b):(a≤b)=True:=by simpa using h
theorem ile_F{a b:Int}(h:¬ a≤b):(a≤b)=False:=by simpa using h
theorem ilt_T{a b:Int}(h:a<b):(a<b)=True:=by simpa using h
theorem ilt_F{a b:Int}(h:¬ a<b):(a<b)=False:=by simpa using h
theorem nle_T{a b:Nat}(h:a≤b):(a≤b)=True:=by simpa using h
theorem nlt_T{a b:Nat}(h:a<b):(a<b)=True:=by simpa using h
theorem q5E{α:Type}{l:List α}{n:Nat}(h:l.length≤n):l.take n=l:=List.take_of_length_le h
theorem q4R(n:Nat):((n:Int)+1).toNat=n+1:=by omega
theorem z7s(c c' k)(s:List UInt8)(n:Int)(h0:0≤n)(h:n<s.length):evIx (.d c (.str s)) (.d c' (.int k n))=some (.int .u8 (nth s n).toNat):=by
 simp only[evIx,h0,if_true]
 rw[q74 (by omega)]
theorem z4h{α:Type} [Inhabited α](l:List α)(n:Int):nth l ((n.toNat:Nat):Int)=nth l n:=by
 unfold nth;rw[Int.toNat_natCast]
theorem z4p:most=1099511627776:=rfl
theorem z7Z:List.range 0=[]:=rfl
theorem z7Y:List.range 1=[0]:=rfl
end Go.Vm
end

section
namespace Go.Vm
theorem z7r(K s):evMk K s .mkm=some (.map s.nx,[.map []]):=rfl
theorem e_lkp(K s ok kk z m k):ev K s (.lkp ok kk z m k)=o3 (q6X s.heap ok kk) (ev K s z) (ev K s m) (ev K s k):=by
 simp only[ev,o3];cases ev K s z <;> cases ev K s m <;> cases ev K s k <;> rfl
def lkO(ok:Bool)(z:V):Option (Option V)→Option V
 |some (some v)=>some (if ok then .tup [v,.bool true] else v)
 |some none=>some (if ok then .tup [z,.bool false] else z)
 |none=>none
theorem z6Z(z v):lkO false z (some (some v))=some v:=rfl
theorem z60(z):lkO false z (some none)=some z:=rfl
def lkB(ok:Bool)(kk:Nat)(z:V)(k:D):Blk→Option V
 |.map es=>lkO ok z (q4x kk k es)
 |_=>none
theorem z9h(ok kk z k es):lkB ok kk z k (.map es)=lkO ok z (q4x kk k es):=rfl
theorem z5m(H ok kk z b c k):q6X H ok kk z (.map b) (.d c k)=o1 (lkB ok kk z k) (look H b):=by
 simp only[q6X,o1]
 cases look H b with
 |none=>rfl
 |some blk=>
  cases blk with
  |map es=>
   simp only[Blk.entries,Option.bind_some,lkB,lkO]
   cases q4x kk k es with
   |none=>rfl
   |some r=>cases r <;> rfl
  |_=>rfl
def stM(H:List (Nat×Blk))(nx b:Nat)(x:Option (List (D×V))):Option (List (Nat×Blk)×V×Lost×Nat):=x.bind fun es=>some (put H b (.map es),.junk,.none,nx)
theorem z0N(H nx b es):stM H nx b (some es)=some (put H b (.map es),.junk,.none,nx):=rfl
def msB(H:List (Nat×Blk))(nx b kk:Nat)(d:D)(x:V):Blk→Option (List (Nat×Blk)×V×Lost×Nat)
 |.map es=>stM H nx b (setE kk d x es)
 |_=>none
theorem z4n(H nx b kk d x es):msB H nx b kk d x (.map es)=stM H nx b (setE kk d x es):=rfl
def z3D(H:List (Nat×Blk))(nx kk:Nat)(m k x:V):Option (List (Nat×Blk)×V×Lost×Nat):=match m,k with
 |.map b,.d _ d=>if x.laid then o1 (msB H nx b kk d x) (look H b) else none
 |_,_=>none
theorem q7k(H nx kk b c d x):z3D H nx kk (.map b) (.d c d) x=if x.laid then o1 (msB H nx b kk d x) (look H b) else none:=rfl
theorem q9u(K s H kk m k v):evWr K s H (.mset kk m k v)=o3 (z3D H s.nx kk) (ev K s m) (ev K s k) (ev K s v):=by
 simp only[evWr,o3]
 cases ev K s m with
 |none=>rfl
 |some a=>cases ev K s k with
  |none=>cases a <;> rfl
  |some b=>cases ev K s v with
   |none=>cases a <;> cases b <;> rfl
   |some c=>
    cases a <;> try rfl
    cases b <;> try rfl
    simp only[Option.bind_some,z3D]
    split
    ·rename_i b c' d _
     cases look H b with
     |none=>rfl
     |some blk=>
      cases blk with
      |map es=>simp only[Blk.entries,o1,Option.bind_some,msB,stM];cases setE kk d c es <;> rfl
      |_=>rfl
    ·rfl
def mcB(H:List (Nat×Blk))(nx b:Nat):Blk→Option (List (Nat×Blk)×V×Lost×Nat)
 |.map es=>if q02 es then none else some (put H b (.map []),.junk,.none,nx)
 |_=>none
theorem z4u(H nx b es)(h:q02 es=false):mcB H nx b (.map es)=some (put H b (.map []),.junk,.none,nx):=by simp [mcB,h]
def z3E(H:List (Nat×Blk))(nx:Nat):V→Option (List (Nat×Blk)×V×Lost×Nat)
 |.map b=>o1 (mcB H nx b) (look H b)
 |_=>none
theorem z1U(H nx b):z3E H nx (.map b)=o1 (mcB H nx b) (look H b):=rfl
theorem z5j(K s H m):evWr K s H (.mclr m)=o1 (z3E H s.nx) (ev K s m):=by
 simp only[evWr,o1]
 cases ev K s m with
 |none=>rfl
 |some a=>
  cases a <;> try rfl
  rename_i b
  simp only[Option.bind_some,z3E,o1]
  cases look H b with
  |none=>rfl
  |some blk=>cases blk <;> rfl
def q17(l:List (List UInt8)):List (D×V):=l.map fun m=>(.str m,.d false (.int .i64 1))
theorem z2t(n:List UInt8)(l:List (List UInt8)):q4x 2 (.str n) (q17 l)=some (if l.contains n then some (.d false (.int .i64 1)) else none):=by
 induction l with
 |nil=>rfl
 |cons m l ih=>
  simp only[q17,List.map_cons,q4x,q1T,List.contains_cons] at ih ⊢
  by_cases h:n=m
  ·simp [h]
  ·have:(n==m)=false:=by simpa using h
   simp only[this,Bool.false_or]
   have hd:decide (n=m)=false:=by simpa using h
   simp only[hd]
   exact ih
theorem q8T(n:List UInt8)(l:List (List UInt8))(h:l.contains n=false):setE 2 (.str n) (.d false (.int .i64 1)) (q17 l)=some (q17 (l++[n])):=by
 induction l with
 |nil=>simp [q17,setE,q1T]
 |cons m l ih=>
  simp only[List.contains_cons,Bool.or_eq_false_iff] at h
  have hd:decide (n=m)=false:=by simpa using h.1
  have ih:=ih h.2
  simp only[q17,List.map_cons,setE,q1T,hd,List.cons_append] at ih ⊢
  rw[ih]
theorem q8W:q17 []=[]:=rfl
theorem z3P(l:List (List UInt8)):(q17 l).flatMap (fun q=>q.2.refs)=[]:=by
 induction l with
 |nil=>rfl
 |cons m l ih=>simp [q17,V.refs]
theorem q95(l:List (List UInt8))(p:Nat→Bool):(q17 l).all (fun q=>q.2.within p)=true:=by
 simp [q17,V.within]
theorem z6z(l:List (List UInt8))(g:Nat→Nat):(q17 l).map (fun q=>(q.1,q.2.ren g))=q17 l:=by
 simp [q17,V.ren]
theorem cast7:((7:Nat):Int)=7:=rfl
theorem q8z(c x):wonV true (some (.d c (.bool x)))=some x:=by cases x <;> rfl
theorem evMk_bld(K s t e):evMk K s (.bld t e)=some (.ptr s.nx 0 0,[.map [(.nils t,.bsl (s.nx+1) 0 0)],.map [(.emps e,.d false .nilp),(.str [],.d false .nilp)]]):=rfl
theorem e_b2s(K s a):ev K s (.b2s a)=o1 (z9O s.heap) (ev K s a):=by
 simp only[ev];cases ev K s a <;> rfl
end Go.Vm
end

section
namespace Go.Vm
def rwB(k i len:Nat):Blk→Option Rows
 |.dat c k' rows=>if k'=k∧i+len≤rows.length then some (.dat (c||q0V rows) ((rows.drop i).take len)) else none
 |.mix k' rows=>if k'=k∧i+len≤rows.length then some (.mix ((rows.drop i).take len)) else none
 |.map _=>none
theorem z6C(H k b i len):q03 H k (.bsl b i len)=o1 (rwB k i len) (look H b):=by
 simp only[q03,o1]
 cases look H b with
 |none=>rfl
 |some blk=>cases blk <;> rfl
theorem z8R(k i len c rows):rwB k i len (.dat c k rows)=if i+len≤rows.length then some (.dat (c||q0V rows) ((rows.drop i).take len)) else none:=by simp [rwB]
end Go.Vm
end

section
namespace Go.Vm
def LN0:=PLift.up (And.intro (And.intro (And.intro @List.length_map.{0,0} (And.intro @List.length_append.{0} @List.length_take.{0})) (And.intro @List.length_drop.{0} (And.intro @List.length_replicate.{0} @List.length_set.{0}))) (And.intro (And.intro @List.length_cons.{0} (And.intro @List.length_nil.{0} @Rows.n.eq_1)) (And.intro (And.intro @Rows.n.eq_2 @z4p) (And.intro @Int.toNat_natCast @Nat.zero_add))))
theorem LN:type_of% LN0.down:=LN0.down
def SX0:=PLift.up (And.intro (And.intro (And.intro (And.intro (And.intro (And.intro (And.intro (And.intro @e_sl @q2e) (And.intro @q1y @q3S)) (And.intro (And.intro @q1i @q2X) (And.intro @List.length_nil.{0} (And.intro @List.map_nil.{0,0} @q2j)))) (And.intro (And.intro (And.intro @List.nil_append.{0} @List.append_nil.{0}) (And.intro @q3R @q2P)) (And.intro (And.intro @q2k @q1j) (And.intro @q1B (And.intro @q3X @q0Q))))) (And.intro (And.intro (And.intro (And.intro @q19 @q0X) (And.intro @addBlks.eq_1 @addBlks.eq_2)) (And.intro (And.intro @List.map_cons.{0,0} @q1U) (And.intro @q27 (And.intro @q16 @List.cons_append.{0})))) (And.intro (And.intro (And.intro @q2U @q2q) (And.intro @q2S (And.intro @List.zipIdx_nil.{0} @q25))) (And.intro (And.intro @q00 @z8G) (And.intro @z6t (And.intro @refsL.eq_1 @refsL.eq_2)))))) (And.intro (And.intro (And.intro (And.intro (And.intro @q4Y @z6s) (And.intro @List.nodup_nil.{0} @List.all_nil.{0})) (And.intro (And.intro @closedB.eq_1 @Blk.ren.eq_1) (And.intro @Blk.ren.eq_2 (And.intro @Blk.ren.eq_3 @List.filterMap_nil.{0,0})))) (And.intro (And.intro (And.intro @List.filter_nil.{0} @z7Z) (And.intro @List.all_cons.{0} (And.intro @V.within.eq_1 @V.within.eq_2))) (And.intro (And.intro @V.within.eq_4 @V.within.eq_5) (And.intro @V.within.eq_6 (And.intro @V.within.eq_7 @V.within.eq_8))))) (And.intro (And.intro (And.intro (And.intro @V.within.eq_9 @V.within.eq_10) (And.intro @V.within.eq_11 @V.ren.eq_1)) (And.intro (And.intro @V.ren.eq_2 @V.ren.eq_4) (And.intro @V.ren.eq_5 (And.intro @V.ren.eq_6 @V.ren.eq_7)))) (And.intro (And.intro (And.intro @V.ren.eq_8 @V.ren.eq_9) (And.intro @V.ren.eq_10 (And.intro @V.ren.eq_11 @q5E))) (And.intro (And.intro @z7z @List.length_cons.{0}) (And.intro @Blk.within.eq_1 (And.intro @Blk.within.eq_2 @Blk.within.eq_3))))))) (And.intro (And.intro (And.intro (And.intro (And.intro (And.intro @q6T @Option.map_some.{0,0}) (And.intro @z7y @q9r)) (And.intro (And.intro @q3k @q20) (And.intro @q6v (And.intro @e_ld @q3D)))) (And.intro (And.intro (And.intro @List.drop_zero.{0} @q4k) (And.intro @List.zipIdx_cons.{0} (And.intro @q29 @q6A))) (And.intro (And.intro @q6z @q2v) (And.intro @q5J (And.intro @q2N @q6r))))) (And.intro (And.intro (And.intro (And.intro @q6e @q6q) (And.intro @e_fa @q2G)) (And.intro (And.intro @List.drop_succ_cons.{0} @q65) (And.intro @q8g (And.intro @z7K @q4A)))) (And.intro (And.intro (And.intro @mkBox.eq_1 @List.take_zero.{0}) (And.intro @q5O (And.intro @finish.eq_1 @q6S))) (And.intro (And.intro @q4h @startS.eq_1) (And.intro @indexed.eq_1 (And.intro @q49 @Option.isSome_some.{0})))))) (And.intro (And.intro (And.intro (And.intro (And.intro @z5s @z5r) (And.intro @loseH.eq_1 @loseH.eq_2)) (And.intro (And.intro @loseH.eq_3 @Lost.ids.eq_1) (And.intro @Lost.ids.eq_2 (And.intro @Lost.ids.eq_3 @q59)))) (And.intro (And.intro (And.intro @z3X @q8V) (And.intro @z1i (And.intro @q4F @splice.eq_1))) (And.intro (And.intro @q7H @q5Y) (And.intro @z7V (And.intro @z0O @z0Q))))) (And.intro (And.intro (And.intro (And.intro @q4m @z9X) (And.intro @e_ia @ilt_T)) (And.intro (And.intro @mkd.eq_1 @eq_f) (And.intro @viewDepth.eq_1 (And.intro @z9L @z8I)))) (And.intro (And.intro (And.intro @j1L @List.any_cons.{0}) (And.intro @List.any_nil.{0} (And.intro @q4B @q4l))) (And.intro (And.intro @q5S @j1R) (And.intro @z1t (And.intro @List.length_map.{0,0} @z1j)))))))) (And.intro (And.intro (And.intro (And.intro (And.intro (And.intro (And.intro @q4J @z7x) (And.intro @e_and @z5I)) (And.intro (And.intro @q2W @List.contains_nil.{0}) (And.intro @q2p (And.intro @q4W @Blk.refs.eq_1)))) (And.intro (And.intro (And.intro @Blk.refs.eq_2 @Blk.refs.eq_3) (And.intro @List.nodup_cons.{0} @List.not_mem_nil.{0})) (And.intro (And.intro @List.idxOf_cons.{0} @List.contains_cons.{0}) (And.intro @q3H (And.intro @z0H @List.filterMap_cons.{0,0}))))) (And.intro (And.intro (And.intro (And.intro @z5q @List.flatMap_cons.{0,0}) (And.intro @List.flatMap_nil.{0,0} @withinL.eq_1)) (And.intro (And.intro @withinL.eq_2 @renL.eq_1) (And.intro @renL.eq_2 (And.intro @e_or @q7Y)))) (And.intro (And.intro (And.intro @z5A @q8U) (And.intro @e_un (And.intro @List.mem_cons.{0} @ilt_F))) (And.intro (And.intro @ile_T @e_ext) (And.intro @z9g (And.intro @j1N @z7t)))))) (And.intro (And.intro (And.intro (And.intro (And.intro @z4J @z9f) (And.intro @nlt_T @q9s)) (And.intro (And.intro @z0T @z6Y) (And.intro @q5U (And.intro @z5k @z2h)))) (And.intro (And.intro (And.intro @nle_T @Option.map_none.{0,0}) (And.intro @List.take_succ_cons.{0} (And.intro @ile_F @z45))) (And.intro (And.intro @z6v @q6a) (And.intro @e_set (And.intro @Option.some.injEq.{0} @z6W))))) (And.intro (And.intro (And.intro (And.intro @z2I @e_eqs) (And.intro @z6x @z3O)) (And.intro (And.intro @z7p @Rows.n.eq_1) (And.intro @Rows.n.eq_2 (And.intro @e_lkp @z5m)))) (And.intro (And.intro (And.intro @z9h @z2t) (And.intro @z6l (And.intro @ne_t @z3P))) (And.intro (And.intro @q95 @z6z) (And.intro @z6C (And.intro @z8R @q8e))))))) (And.intro (And.intro (And.intro (And.intro (And.intro (And.intro @q9o @forgetR.eq_1) (And.intro @List.filter_cons.{0} @q7I)) (And.intro (And.intro @q5Z @z7u) (And.intro @handed.eq_1 (And.intro @Blk.dim.eq_1 @Blk.dim.eq_2)))) (And.intro (And.intro (And.intro @Blk.dim.eq_3 @z9R) (And.intro @V.dim.eq_1 (And.intro @V.dim.eq_2 @V.dim.eq_3))) (And.intro (And.intro @V.dim.eq_4 @V.dim.eq_5) (And.intro @V.dim.eq_6 (And.intro @V.dim.eq_7 @V.dim.eq_8))))) (And.intro (And.intro (And.intro (And.intro @V.dim.eq_10 @V.dim.eq_11) (And.intro @z9Q @putAll.eq_1)) (And.intro (And.intro @putAll.eq_2 @z7O) (And.intro @Option.getD_some.{0} (And.intro @z60 @z3G)))) (And.intro (And.intro (And.intro @z9Z @Blk.app.eq_1) (And.intro @Blk.app.eq_2 (And.intro @Blk.app.eq_3 @Blk.app.eq_4))) (And.intro (And.intro @restH.eq_1 @z4h) (And.intro @z7r (And.intro @q7L @z4r)))))) (And.intro (And.intro (And.intro (And.intro (And.intro @z4s @q9a) (And.intro @Blk.plain.eq_1 @Blk.plain.eq_2)) (And.intro (And.intro @Blk.plain.eq_3 @Blk.new.eq_1) (And.intro @Blk.new.eq_2 (And.intro @Blk.new.eq_3 @z6j)))) (And.intro (And.intro (And.intro @Rows.blk.eq_1 @Rows.blk.eq_2) (And.intro @z6y (And.intro @z2K @z7q))) (And.intro (And.intro @z4p @q97) (And.intro @z7M (And.intro @z6u @cast7))))) (And.intro (And.intro (And.intro (And.intro @ne_f @z6Z) (And.intro @z5j @z1U)) (And.intro (And.intro @z4u @List.set_cons_succ.{0}) (And.intro @List.set_cons_zero.{0} (And.intro @j1Q @z2F)))) (And.intro (And.intro (And.intro @List.length_drop.{0} @List.length_take.{0}) (And.intro @e_ix (And.intro @z7s @q4R))) (And.intro (And.intro @z9T @z2H) (And.intro @j0a (And.intro @z44 @z6V)))))))))
theorem SX:type_of% SX0.down:=SX0.down
def SV0:=PLift.up (And.intro SX (And.intro (And.intro @mkBlk.eq_1 (And.intro @z88 @forgetH.eq_1)) (And.intro (And.intro @Blk.forget.eq_1 @Blk.forget.eq_2) (And.intro @Blk.forget.eq_3 @finB.eq_1))))
theorem SV:type_of% SV0.down:=SV0.down
end Go.Vm
end

section
namespace Go.Vm
theorem z8m   (c x):(V.d c x).refs=[]:=rfl
theorem z5P   (c k r):(V.fs c k r).refs=[]:=rfl
theorem z1v:(V.junk).refs=[]:=rfl
theorem z22   (b i j):(V.ptr b i j).new1=false:=rfl
theorem z25   (b i n):(V.bsl b i n).new1=false:=rfl
theorem z23   (b):(V.map b).new1=false:=rfl
theorem z26   (cs):(V.agg cs).new1=false:=rfl
theorem z2Z   (vs):(V.tup vs).new1=false:=rfl
theorem z50   (f cs):(V.fn f cs).new1=false:=rfl
theorem q9I   (t v):(V.iface t v).new1=false:=rfl
theorem z1z:(V.junk).new1=false:=rfl
theorem z92   (c x):(V.d c x).new=(V.d c x).new1:=rfl
theorem z8o   (c k r):(V.fs c k r).new=(V.fs c k r).new1:=rfl
theorem z5W   (b i j):(V.ptr b i j).new=(V.ptr b i j).new1:=rfl
theorem z5Z   (b i n):(V.bsl b i n).new=(V.bsl b i n).new1:=rfl
theorem z5X   (b):(V.map b).new=(V.map b).new1:=rfl
theorem z8p   (f cs):(V.fn f cs).new=(V.fn f cs).new1:=rfl
theorem z1y   (t v):(V.iface t v).new=(V.iface t v).new1:=rfl
theorem z2Y:(V.junk).new=(V.junk).new1:=rfl
theorem z2T   (b i j):(V.ptr b i j).own1=true:=rfl
theorem z2W   (b i n):(V.bsl b i n).own1=true:=rfl
theorem z2U   (b):(V.map b).own1=true:=rfl
theorem z2X   (cs):(V.agg cs).own1=true:=rfl
theorem z2S   (vs):(V.tup vs).own1=true:=rfl
theorem z5V   (f cs):(V.fn f cs).own1=true:=rfl
theorem q9H   (t v):(V.iface t v).own1=true:=rfl
theorem z1x:(V.junk).own1=true:=rfl
theorem z91   (c x):(V.d c x).own=(V.d c x).own1:=rfl
theorem z8n   (c k r):(V.fs c k r).own=(V.fs c k r).own1:=rfl
theorem z5R   (b i j):(V.ptr b i j).own=(V.ptr b i j).own1:=rfl
theorem z5U   (b i n):(V.bsl b i n).own=(V.bsl b i n).own1:=rfl
theorem z5S   (b):(V.map b).own=(V.map b).own1:=rfl
theorem z5Q   (vs):(V.tup vs).own=(V.tup vs).own1:=rfl
theorem z1w   (t v):(V.iface t v).own=(V.iface t v).own1:=rfl
theorem z2R:(V.junk).own=(V.junk).own1:=rfl
theorem z3g   (c k r):(V.fs c k r).flat1=false:=rfl
theorem z1H   (b i j):(V.ptr b i j).flat1=false:=rfl
theorem z1K   (b i n):(V.bsl b i n).flat1=false:=rfl
theorem z1I   (b):(V.map b).flat1=false:=rfl
theorem z1L   (cs):(V.agg cs).flat1=false:=rfl
theorem z1G   (vs):(V.tup vs).flat1=false:=rfl
theorem z3h   (f cs):(V.fn f cs).flat1=false:=rfl
theorem q8w   (t v):(V.iface t v).flat1=false:=rfl
theorem q9L:(V.junk).flat1=false:=rfl
theorem z55   (c x):(V.d c x).flatV=(V.d c x).flat1:=rfl
theorem z3e   (c k r):(V.fs c k r).flatV=(V.fs c k r).flat1:=rfl
theorem z1C   (b i j):(V.ptr b i j).flatV=(V.ptr b i j).flat1:=rfl
theorem z1F   (b i n):(V.bsl b i n).flatV=(V.bsl b i n).flat1:=rfl
theorem z1D   (b):(V.map b).flatV=(V.map b).flat1:=rfl
theorem z1B   (vs):(V.tup vs).flatV=(V.tup vs).flat1:=rfl
theorem z3f   (f cs):(V.fn f cs).flatV=(V.fn f cs).flat1:=rfl
theorem q8v   (t v):(V.iface t v).flatV=(V.iface t v).flat1:=rfl
theorem q9K:(V.junk).flatV=(V.junk).flat1:=rfl
theorem z8l(H)  (c x):view H (V.d c x)=(q0d viewDepth H (V.d c x)).map (.d false):=rfl
theorem z5O(H)  (c k r):view H (V.fs c k r)=(q0d viewDepth H (V.fs c k r)).map (.d false):=rfl
theorem z2N(H)  (b i j):view H (V.ptr b i j)=(q0d viewDepth H (V.ptr b i j)).map (.d false):=rfl
theorem z2Q(H)  (b i n):view H (V.bsl b i n)=(q0d viewDepth H (V.bsl b i n)).map (.d false):=rfl
theorem z2O(H)  (b):view H (V.map b)=(q0d viewDepth H (V.map b)).map (.d false):=rfl
theorem z2M(H)  (vs):view H (V.tup vs)=(q0d viewDepth H (V.tup vs)).map (.d false):=rfl
theorem q9G(H)  (t v):view H (V.iface t v)=(q0d viewDepth H (V.iface t v)).map (.d false):=rfl
theorem z1u(H):view H (V.junk)=(q0d viewDepth H (V.junk)).map (.d false):=rfl
theorem z8q   (c x):(V.d c x).laid=(V.d c x).cell:=rfl
theorem z52   (c k r):(V.fs c k r).laid=(V.fs c k r).cell:=rfl
theorem z3a   (b i j):(V.ptr b i j).laid=(V.ptr b i j).cell:=rfl
theorem z3d   (b i n):(V.bsl b i n).laid=(V.bsl b i n).cell:=rfl
theorem z3b   (b):(V.map b).laid=(V.map b).cell:=rfl
theorem z27   (vs):(V.tup vs).laid=(V.tup vs).cell:=rfl
theorem z54   (f cs):(V.fn f cs).laid=(V.fn f cs).cell:=rfl
theorem q9J   (t v):(V.iface t v).laid=(V.iface t v).cell:=rfl
theorem z1A:(V.junk).laid=(V.junk).cell:=rfl
theorem z6e   (c x):(V.d c x).cells=[(V.d c x)]:=rfl
theorem z3v   (c k r):(V.fs c k r).cells=[(V.fs c k r)]:=rfl
theorem z1P   (b i j):(V.ptr b i j).cells=[(V.ptr b i j)]:=rfl
theorem z1S   (b i n):(V.bsl b i n).cells=[(V.bsl b i n)]:=rfl
theorem z1Q   (b):(V.map b).cells=[(V.map b)]:=rfl
theorem z1O   (vs):(V.tup vs).cells=[(V.tup vs)]:=rfl
theorem z3w   (f cs):(V.fn f cs).cells=[(V.fn f cs)]:=rfl
theorem q8x   (t v):(V.iface t v).cells=[(V.iface t v)]:=rfl
theorem q9O:(V.junk).cells=[(V.junk)]:=rfl
theorem z8r(z) (bs) (H)  (c x):finV z bs H (V.d c x)=finA z bs H (V.d c x):=rfl
theorem z56(z) (bs) (H)  (c k r):finV z bs H (V.fs c k r)=finA z bs H (V.fs c k r):=rfl
theorem z3i(z) (bs) (H)  (b i j):finV z bs H (V.ptr b i j)=finA z bs H (V.ptr b i j):=rfl
theorem z3l(z) (bs) (H)  (b i n):finV z bs H (V.bsl b i n)=finA z bs H (V.bsl b i n):=rfl
theorem z3j(z) (bs) (H)  (b):finV z bs H (V.map b)=finA z bs H (V.map b):=rfl
theorem z3m(z) (bs) (H)  (cs):finV z bs H (V.agg cs)=finA z bs H (V.agg cs):=rfl
theorem z57(z) (bs) (H)  (f cs):finV z bs H (V.fn f cs)=finA z bs H (V.fn f cs):=rfl
theorem q9M(z) (bs) (H)  (t v):finV z bs H (V.iface t v)=finA z bs H (V.iface t v):=rfl
theorem z1M(z) (bs) (H):finV z bs H (V.junk)=finA z bs H (V.junk):=rfl
theorem z8s(z) (bs) (H)  (c x):finA z bs H (V.d c x)=finC z bs H (V.d c x):=rfl
theorem z58(z) (bs) (H)  (c k r):finA z bs H (V.fs c k r)=finC z bs H (V.fs c k r):=rfl
theorem z3o(z) (bs) (H)  (b i j):finA z bs H (V.ptr b i j)=finC z bs H (V.ptr b i j):=rfl
theorem z3r(z) (bs) (H)  (b i n):finA z bs H (V.bsl b i n)=finC z bs H (V.bsl b i n):=rfl
theorem z3p(z) (bs) (H)  (b):finA z bs H (V.map b)=finC z bs H (V.map b):=rfl
theorem z3n(z) (bs) (H)  (vs):finA z bs H (V.tup vs)=finC z bs H (V.tup vs):=rfl
theorem q9N(z) (bs) (H)  (t v):finA z bs H (V.iface t v)=finC z bs H (V.iface t v):=rfl
theorem z1N(z) (bs) (H):finA z bs H (V.junk)=finC z bs H (V.junk):=rfl
theorem z3C   (cs):(V.agg cs).cell=false:=rfl
theorem z3x   (vs):(V.tup vs).cell=false:=rfl
theorem z1T:(V.junk).cell=false:=rfl
theorem z8w   (c x):(V.d c x).cell=true:=rfl
theorem z6f   (c k r):(V.fs c k r).cell=true:=rfl
theorem z3y   (b i j):(V.ptr b i j).cell=true:=rfl
theorem z3B   (b i n):(V.bsl b i n).cell=true:=rfl
theorem z24   (b i n):(V.bsx b i n).new1=false:=rfl
theorem z5Y   (b i n):(V.bsx b i n).new=(V.bsx b i n).new1:=rfl
theorem z2V   (b i n):(V.bsx b i n).own1=true:=rfl
theorem z5T   (b i n):(V.bsx b i n).own=(V.bsx b i n).own1:=rfl
theorem z1J   (b i n):(V.bsx b i n).flat1=false:=rfl
theorem z1E   (b i n):(V.bsx b i n).flatV=(V.bsx b i n).flat1:=rfl
theorem z2P(H)  (b i n):view H (V.bsx b i n)=(q0d viewDepth H (V.bsx b i n)).map (.d false):=rfl
theorem z3c   (b i n):(V.bsx b i n).laid=(V.bsx b i n).cell:=rfl
theorem z1R   (b i n):(V.bsx b i n).cells=[(V.bsx b i n)]:=rfl
theorem z3k(z) (bs) (H)  (b i n):finV z bs H (V.bsx b i n)=finA z bs H (V.bsx b i n):=rfl
theorem z3q(z) (bs) (H)  (b i n):finA z bs H (V.bsx b i n)=finC z bs H (V.bsx b i n):=rfl
theorem z3A   (b i n):(V.bsx b i n).cell=true:=rfl
theorem z3z   (b):(V.map b).cell=true:=rfl
theorem z6g   (f cs):(V.fn f cs).cell=true:=rfl
theorem q9P   (t v):(V.iface t v).cell=true:=rfl
theorem z8v(k n):(D.int k n).flat=true:=rfl
theorem z6d(b):(D.bool b).flat=true:=rfl
theorem z8t(s):(D.str s).flat=true:=rfl
theorem z93(k r):(D.sl k r).flat=false:=rfl
theorem z8u(c):(D.ptr c).flat=false:=rfl
theorem z6a:(D.nilp).flat=true:=rfl
theorem z3s:(D.nilif).flat=true:=rfl
theorem z3t:(D.nilfn).flat=true:=rfl
theorem z3u(t c):(D.iface t c).flat=false:=rfl
theorem z59(k):(D.nils k).flat=true:=rfl
theorem z6c(k):(D.emps k).flat=true:=rfl
theorem z6b:(D.nilm).flat=true:=rfl
def SW0:=PLift.up (And.intro (And.intro (And.intro (And.intro (And.intro @z24 @z5Y) (And.intro @z2V (And.intro @z5T @z1J))) (And.intro (And.intro @z1E (And.intro @z2P @z3c)) (And.intro @z1R (And.intro @z3k @z3q)))) (And.intro (And.intro (And.intro @z3A @evLen.eq_5) (And.intro @V.drop1.eq_3 (And.intro @V.ref0.eq_3 @V.refs.eq_3))) (And.intro (And.intro @V.ren.eq_3 (And.intro @V.within.eq_3 @V.dim.eq_9)) (And.intro @finC.eq_5 (And.intro @V.isNilS.eq_2 @V.shift.eq_3))))) (And.intro (And.intro @z2j (And.intro @z0f (And.intro @q2I (And.intro @q1X (And.intro @z1g (And.intro @D.flat0.eq_1 (And.intro @D.flat0.eq_2 (And.intro @D.flat0.eq_3 (And.intro @D.flat0.eq_4 (And.intro @D.flat0.eq_5 (And.intro @D.flat0.eq_6 (And.intro @D.flat0.eq_7 (And.intro @D.flat0.eq_8 (And.intro @D.flat0.eq_9 (And.intro @D.flat0.eq_10 (And.intro @D.flat0.eq_11 @D.flat0.eq_12)))))))))))))))) (And.intro (And.intro (And.intro (And.intro (And.intro (And.intro (And.intro @beq_self_eq_true.{0} (And.intro @if_true.{1} @Bool.and_self)) (And.intro (And.intro @decide_true @Nat.zero_add) (And.intro @if_false.{1} @Bool.false_eq_true))) (And.intro (And.intro @Bool.or_true (And.intro @Bool.or_self @Bool.and_false)) (And.intro (And.intro @Bool.not_true @List.getElem?_cons_zero.{0}) (And.intro @Bool.false_and @Bool.or_false)))) (And.intro (And.intro (And.intro @Nat.le_refl (And.intro @decide_false @and_self)) (And.intro (And.intro @not_false_eq_true @cond_true.{1}) (And.intro @Nat.add_zero @Bool.and_true))) (And.intro (And.intro @Bool.not_false (And.intro @List.getElem?_cons_succ.{0} @or_self)) (And.intro (And.intro @cond_false.{1} @bne_self_eq_false.{0}) (And.intro @j1O @z4e))))) (And.intro (And.intro (And.intro (And.intro @Bool.true_or (And.intro @beq_iff_eq.{0} @or_false)) (And.intro (And.intro @eq_t @or_true) (And.intro @z9S @List.length_append.{0}))) (And.intro (And.intro @Int.toNat_natCast (And.intro @and_true @true_or)) (And.intro (And.intro @j1P @z6L) (And.intro @Bool.true_and @Prod.mk.injEq.{0,0})))) (And.intro (And.intro (And.intro @evBin.eq_1 (And.intro @evBin.eq_2 @intBin.eq_1)) (And.intro (And.intro @intBin.eq_2 @intBin.eq_3) (And.intro @intBin.eq_4 @intBin.eq_5))) (And.intro (And.intro @intBin.eq_6 (And.intro @intBin.eq_7 @intBin.eq_8)) (And.intro (And.intro @intBin.eq_9 @intBin.eq_10) (And.intro @intBin.eq_11 @intBin.eq_12)))))) (And.intro (And.intro (And.intro (And.intro (And.intro @intBin.eq_13 (And.intro @intBin.eq_14 @intBin.eq_15)) (And.intro (And.intro @evLen.eq_1 @evLen.eq_2) (And.intro @evLen.eq_3 @evLen.eq_4))) (And.intro (And.intro @evFa.eq_1 (And.intro @evFa.eq_2 @strBin.eq_1)) (And.intro (And.intro @strBin.eq_2 @strBin.eq_3) (And.intro @strBin.eq_4 @strBin.eq_5)))) (And.intro (And.intro (And.intro @strBin.eq_6 (And.intro @strBin.eq_7 @evUn.eq_1)) (And.intro (And.intro @evUn.eq_2 @evExt.eq_1) (And.intro @evSet.eq_1 @asD.eq_1))) (And.intro (And.intro @asD.eq_2 (And.intro @V.refs.eq_1 @V.refs.eq_2)) (And.intro (And.intro @V.refs.eq_4 @V.refs.eq_5) (And.intro @V.refs.eq_6 @V.refs.eq_7))))) (And.intro (And.intro (And.intro (And.intro @V.refs.eq_8 (And.intro @V.new1.eq_1 @V.new1.eq_2)) (And.intro (And.intro @V.new.eq_1 @V.new.eq_2) (And.intro @V.own.eq_1 @V.own.eq_2))) (And.intro (And.intro @V.own1.eq_1 (And.intro @V.own1.eq_2 @V.flat1.eq_1)) (And.intro (And.intro @V.flatV.eq_1 @view.eq_1) (And.intro @view.eq_2 @V.laid.eq_1)))) (And.intro (And.intro (And.intro @V.cells.eq_1 (And.intro @finC.eq_1 @finC.eq_2)) (And.intro (And.intro @finC.eq_3 @finC.eq_4) (And.intro @finC.eq_6 @finC.eq_7))) (And.intro (And.intro (And.intro @finA.eq_1 @finA.eq_2) (And.intro @finV.eq_1 @z8m)) (And.intro (And.intro @z5P @z1v) (And.intro @z22 @z25))))))) (And.intro (And.intro (And.intro (And.intro (And.intro (And.intro @z23 (And.intro @z26 @z2Z)) (And.intro (And.intro @z50 @q9I) (And.intro @z1z @z92))) (And.intro (And.intro @z8o (And.intro @z5W @z5Z)) (And.intro (And.intro @z5X @z8p) (And.intro @z1y @z2Y)))) (And.intro (And.intro (And.intro @z2T (And.intro @z2W @z2U)) (And.intro (And.intro @z2X @z2S) (And.intro @z5V @q9H))) (And.intro (And.intro @z1x (And.intro @z91 @z8n)) (And.intro (And.intro @z5R @z5U) (And.intro @z5S @z5Q))))) (And.intro (And.intro (And.intro (And.intro @z1w (And.intro @z2R @z3g)) (And.intro (And.intro @z1H @z1K) (And.intro @z1I @z1L))) (And.intro (And.intro @z1G (And.intro @z3h @q8w)) (And.intro (And.intro @q9L @z55) (And.intro @z3e @z1C)))) (And.intro (And.intro (And.intro @z1F (And.intro @z1D @z1B)) (And.intro (And.intro @z3f @q8v) (And.intro @q9K @z8l))) (And.intro (And.intro @z5O (And.intro @z2N @z2Q)) (And.intro (And.intro @z2O @z2M) (And.intro @q9G @z1u)))))) (And.intro (And.intro (And.intro (And.intro (And.intro @z8q (And.intro @z52 @z3a)) (And.intro (And.intro @z3d @z3b) (And.intro @z27 @z54))) (And.intro (And.intro @q9J (And.intro @z1A @z6e)) (And.intro (And.intro @z3v @z1P) (And.intro @z1S @z1Q)))) (And.intro (And.intro (And.intro @z1O (And.intro @z3w @q8x)) (And.intro (And.intro @q9O @z8r) (And.intro @z56 @z3i))) (And.intro (And.intro @z3l (And.intro @z3j @z3m)) (And.intro (And.intro @z57 @q9M) (And.intro @z1M @z8s))))) (And.intro (And.intro (And.intro (And.intro @z58 (And.intro @z3o @z3r)) (And.intro (And.intro @z3p @z3n) (And.intro @q9N @z1N))) (And.intro (And.intro @z3C (And.intro @z3x @z1T)) (And.intro (And.intro @z8w @z6f) (And.intro @z3y @z3B)))) (And.intro (And.intro (And.intro @z3z (And.intro @z6g @q9P)) (And.intro (And.intro @z8v @z6d) (And.intro @z8t @z93))) (And.intro (And.intro (And.intro @z8u @z6a) (And.intro @z3s @z3t)) (And.intro (And.intro @z3u @z59) (And.intro @z6c @z6b))))))))))
theorem SW:type_of% SW0.down:=SW0.down
end Go.Vm
end

section
namespace Go.Vm
theorem q0v(K sl s):exec K (.keep sl) s=some (.nrm,skipM s sl):=rfl
theorem q0y(ρ H nx mv sl):skipM ⟨ρ,H,nx,mv⟩ sl=⟨q0f ρ sl++q78 sl,H,nx,mv⟩:=rfl
noncomputable def lpk(K:Cx)(sl:List Nat)(body:C)(s:S):Option (Ex×S):=match exec K body s with
 |some (.nrm,s')=>exec K (.loop (.seq (.keep sl) body)) s'
 |r=>r
noncomputable def lpkT(K:Cx)(sl:List Nat)(body:C)(x:Option (Ex×S)):Option (Ex×S):=match x with
 |some (.nrm,s')=>lpk K sl body (skipM s' sl)
 |r=>r
theorem q1o(K sl body s):lpkT K sl body (some (.nrm,s))=lpk K sl body (skipM s sl):=rfl
theorem q2b(K sl body n s):lpkT K sl body (some (.exit n,s))=some (.exit n,s):=rfl
theorem z6U(K sl body s):lpkT K sl body (some (.ret,s))=some (.ret,s):=rfl
theorem q1A(K sl body s):exec K (.loop (.seq (.keep sl) body)) s=lpk K sl body (skipM s sl):=by
 show q3J (exec K (.seq (.keep sl) body)) s=_
 rw[q5o,q1U,q0v]
 simp only[q2S]
 unfold lpk
 cases exec K body (skipM s sl) with
 |none=>rfl
 |some p=>
  obtain⟨e,s'⟩:=p
  cases e <;> rfl
theorem z9e(K sl body s):lpk K sl body s=lpkT K sl body (exec K body s):=by
 unfold lpk lpkT
 cases exec K body s with
 |none=>rfl
 |some p=>
  obtain⟨e,s'⟩:=p
  cases e <;> try rfl
  exact q1A K sl body s'
theorem q1n{K sl body body' s}(h:body=body'):lpk K sl body s=lpkT K sl body (exec K body' s):=by
 subst h;exact z9e K sl body s
theorem q21{α:Type}{k t:Nat}(v:α)(r:List (Nat×α))(h:k≠t):look ((k,v) :: r) t=look r t:=by simp only[look,if_neg h]
theorem q79{α:Type}(k:Nat)(v:α)(r:List (Nat×α)):look ((k,v) :: r) k=some v:=by simp only[look,if_true]
theorem q0a{α:Type}{k t:Nat}(v:α)(r:List (Nat×α))(h:k≠t):look (put r k v) t=look r t:=by rw[q0x,if_neg h]
theorem q0u{α:Type}(k:Nat)(v:α)(r:List (Nat×α)):look (put r k v) k=some v:=by rw[q0x,if_pos rfl]
end Go.Vm
end

section
namespace Go.Vm
structure Instr where
 op:Int
 a:Int
 b:Int
 deriving DecidableEq,Inhabited
structure Shape where
 name:List UInt8
 fields:Int
 deriving DecidableEq,Inhabited
structure Glob where
 name:List UInt8
 arity:Int
 code:List Instr
 deriving DecidableEq,Inhabited
structure Table where
 shapes:List Shape
 globals:List Glob
 deriving DecidableEq,Inhabited
def eInt(n:Int):List D:=[.int .i64 n]
def q0j(x:Instr):List D:=[.int .i64 x.op,.int .i64 x.a,.int .i64 x.b]
def q0c(s:Shape):List D:=[.str s.name,.int .i64 s.fields]
def q0l(g:Glob):List D:=[.str g.name,.int .i64 g.arity,.sl 3 (g.code.map q0j)]
theorem q0q(n):eInt n=[.int .i64 n]:=rfl
theorem q0e(x):q0j x=[.int .i64 x.op,.int .i64 x.a,.int .i64 x.b]:=rfl
theorem q0g(s):q0c s=[.str s.name,.int .i64 s.fields]:=rfl
theorem q0k(g):q0l g=[.str g.name,.int .i64 g.arity,.sl 3 (g.code.map q0j)]:=rfl
theorem z0r(l:List Instr) (i a b c):(l.map q0j).set i [D.int .i64 a,.int .i64 b,.int .i64 c]=(l.set i ⟨a,b,c⟩).map q0j:=by rw[List.map_set];rfl
theorem q6Q(l:List Int) (i b):(l.map eInt).set i [D.int .i64 b]=(l.set i b).map eInt:=by rw[List.map_set];rfl
theorem z2v(n b):List.replicate n [D.int .i64 b]=(List.replicate n b).map eInt:=by rw[List.map_replicate];rfl
theorem z9x(x:Instr):Instr.mk x.op x.a x.b=x:=rfl
theorem z9v(x:Shape):Shape.mk x.name x.fields=x:=rfl
end Go.Vm
end

section
namespace Go.Vm
theorem q1h{α:Type} [Inhabited α]{l:List α}{i:Int}(h0:0≤i)(h:i<l.length):nth l i∈l:=by
 rw[←q6o (n:=i) (by omega)];exact List.getElem_mem _
def q3q(b:UInt8):Bool:=decide (32≤(b.toNat:Int))&&decide ((b.toNat:Int)≤126)
def q1p(s:List UInt8):Bool:=s.all q3q&&(decide (1≤(s.length:Int))&&decide ((s.length:Int)≤4096))
def givenS:List Shape:=[⟨[70,97,108,115,101],0⟩,⟨[84,114,117,101],0⟩,⟨[85,110,105,116],0⟩,⟨[78,105,108],0⟩,⟨[67,111,110,115],2⟩,⟨[80,97,105,114],2⟩,⟨[84,114,105,112,108,101],3⟩]
def q1M:List Glob→Int→Option Int
 |[],n=>some n
 |g :: r,n=>if 8000<(g.code.length:Int) then none else q1M r (n+g.code.length)
def q2M(t:Table):Bool:=match q1M t.globals 0 with
 |none=>true
 |some n=>decide (2000<(t.shapes.length:Int))||decide (2000<(t.globals.length:Int))||decide (200000<n)
theorem q9m:∀(l:List Glob)(n m:Int),q1M l n=some m→n≤m∧m≤n+8000*l.length:=by
 intro l
 induction l with
 |nil=>intro n m h;simp only[q1M,Option.some.injEq] at h;subst h;simp
 |cons g l ih=>
  intro n m h
  simp only[q1M] at h
  split at h
  ·cases h
  ·have:=ih _ _ h
   simp only[List.length_cons]
   omega
def q0S(ng ns nc at_ n kind:Int):Int:=
 if kind=8 then(if n≤at_∨nc≤n then 174 else 0) else
 if(if kind=0 then decide (n=0) else if kind=1 then decide (0≤n) else if kind=2 then decide (1≤n)
  else if kind=3 then decide (-4611686018427387904≤n∧n≤4611686018427387903) else if kind=4 then decide (0≤n∧n<ng)
  else if kind=5 then decide (0≤n∧n<ns) else if kind=6 then decide (1≤n∧n≤11) else if kind=7 then decide (1≤n∧n≤4) else true) then 0 else 172
def q0L(Dp:List Int)(at_ d:Int):List Int:=if nth Dp at_=0 then Dp.set at_.toNat d else Dp
def q1g(Dp:List Int)(at_ d:Int):Bool:=if nth Dp at_=0 then true else nth Dp at_==d
theorem q89{α:Type} [Inhabited α](l:List α)(i:Int)(x:α)(h0:0≤i)(h:i<l.length):nth (l.set i.toNat x) i=x:=by
 unfold nth
 rw[List.getD_eq_getElem?_getD,List.getElem?_set_self (by omega)]
 rfl
def q0R(sh:List Shape)(a:Int):Int:=(nth sh a).fields
def q0t(sh:List Shape)(x:Instr)(d:Int):Int×Bool:=
 let r:Int×Bool:=
  if x.op=1 then(d+1,decide (x.a<d)) else if x.op=2∨x.op=3 then(d+1,true)
  else if x.op=4 then(d - x.a,decide (x.a<d)) else if x.op=5 then(d - x.a,decide (x.a<d - 1))
  else if x.op=6∨x.op=12 then(d - 1,decide (2<d)) else if x.op=7 then(d - 1,decide (x.a<d))
  else if x.op=8 then(d+(if 8000<x.a then 8000 else x.a),decide (x.a≤8000))
  else if x.op=9 then(d - q0R sh x.a+1,decide (q0R sh x.a<d)) else if x.op=10 then(d - 1+q0R sh x.a,decide (1<d))
  else if x.op=11∨x.op=14∨x.op=15 then(d,decide (1<d)) else if x.op=17 then(d,decide (d=1)) else(d,true)
 (r.1,r.2&&decide (r.1≤8000))
def z9s:List (List UInt8×Int×Int):=[([],0,0),([112,117,115,104],1,0),([103,108,111,98],4,0),([105,110,116],3,0),([112,111,112],1,0),([115,108,105,100,101],1,0),([97,112,112,108,121],0,0),([117,112,100,97,116,101],2,0),
 ([97,108,108,111,99],1,0),([112,97,99,107],5,0),([115,112,108,105,116],5,0),([101,118,97,108],0,0),([97,114,105,116,104],6,0),([106,117,109,112],8,0),([116,101,115,116,99,111,110],5,8),([116,101,115,116,105,110,116],3,8),([102,97,105,108],7,0),([117,110,119,105,110,100],0,0)]
def q2g(op:Int):List UInt8×Int×Int:=if 1≤op∧op<18 then nth z9s op else([],0,0)
def z6o(f:List UInt8×Int×Int)(ok:Bool):V:=.tup [.agg [.d false (.str f.1),.d false (.int .i64 f.2.1),.d false (.int .i64 f.2.2)],.d false (.bool ok)]
def q5A(ng ns nc i:Int)(x:Instr):Int:=
 if 1≤x.op∧x.op<18 then
  let a:=q0S ng ns nc i x.a (q2g x.op).2.1
  let b:=q0S ng ns nc i x.b (q2g x.op).2.2
  if a=172∨b=172 then 172 else if a≠0∨b≠0 then 174 else 0
 else 172
def q1S(ng ns nc:Int)(l:List Instr):Nat→Nat→Int
 |0,_=>0
 |k+1,i=>if q5A ng ns nc i (nth l i)=0 then q1S ng ns nc l k (i+1) else q5A ng ns nc i (nth l i)
theorem z2s(op:Int):(0≤(q2g op).2.1∧(q2g op).2.1≤8)∧(0≤(q2g op).2.2∧(q2g op).2.2≤8):=by
 unfold q2g
 by_cases h:1≤op∧op<18
 ·rw[if_pos h]
  have:op=1∨op=2∨op=3∨op=4∨op=5∨op=6∨op=7∨op=8∨op=9∨op=10∨op=11∨op=12∨op=13∨op=14∨op=15∨op=16∨op=17:=by omega
  clear h
  rcases this with rfl|rfl|rfl|rfl|rfl|rfl|rfl|rfl|rfl|rfl|rfl|rfl|rfl|rfl|rfl|rfl|rfl <;> decide
 ·rw[if_neg h];decide
theorem q6n(ng ns nc at_ n kind:Int):q0S ng ns nc at_ n kind=0∨q0S ng ns nc at_ n kind=172∨q0S ng ns nc at_ n kind=174:=by
 have key:∀ b:Bool,(if b=true then(0:Int) else 172)=0∨(if b=true then(0:Int) else 172)=172∨(if b=true then(0:Int) else 172)=174:=by
  intro b;cases b <;> simp
 unfold q0S
 split
 ·split <;> simp
 ·exact key _
def q2l(x:Instr):Int:=if x.op=13 then x.a else if x.op=14∨x.op=15 then x.b else 0
def q6M(x:Instr):Bool:=x.op != 13&&x.op != 16&&x.op != 17
def depL(sh:List Shape)(cd:List Instr):Nat→Nat→List Int→Int
 |0,_,_=>0
 |k+1,i,Dp=>
  let x:=nth cd i
  let d:=nth Dp i
  if d=0 then 174 else
  if(q0t sh x d).2=false then 173 else
  if q6M x=true then
   if(i:Int)+1=cd.length then 174 else
   if q1g Dp (i+1) (q0t sh x d).1=false then 173 else
   if 0<q2l x then
    if q1g (q0L Dp (i+1) (q0t sh x d).1) (q2l x) (q0t sh x d).1=false then 173 else depL sh cd k (i+1) (q0L (q0L Dp (i+1) (q0t sh x d).1) (q2l x) (q0t sh x d).1)
   else depL sh cd k (i+1) (q0L Dp (i+1) (q0t sh x d).1)
  else if 0<q2l x then
    if q1g Dp (q2l x) (q0t sh x d).1=false then 173 else depL sh cd k (i+1) (q0L Dp (q2l x) (q0t sh x d).1)
   else depL sh cd k (i+1) Dp
structure NumOk(ns nc i:Int)(x:Instr):Prop where
 op:1≤x.op∧x.op<18
 cnt:x.op=1∨x.op=4∨x.op=5∨x.op=8→0≤x.a
 upd:x.op=7→1≤x.a
 con:x.op=9∨x.op=10→0≤x.a∧x.a<ns
 jmp:x.op=13→i<x.a∧x.a<nc
 tst:x.op=14∨x.op=15→i<x.b∧x.b<nc
theorem z0Y{ng ns nc i:Int}{x:Instr}(h:q5A ng ns nc i x=0):NumOk ns nc i x:=by
 unfold q5A at h
 by_cases g:1≤x.op∧x.op<18
 ·rw[if_pos g] at h
  have key:∀ a b:Int,(if a=172∨b=172 then(172:Int) else if a≠0∨b≠0 then 174 else 0)=0→a=0∧b=0:=by
   intro a b h
   split at h
   ·omega
   ·split at h <;> omega
  obtain⟨ha,hb⟩:=key _ _ h
  clear h
  have:x.op=1∨x.op=2∨x.op=3∨x.op=4∨x.op=5∨x.op=6∨x.op=7∨x.op=8∨x.op=9∨x.op=10∨x.op=11∨x.op=12∨x.op=13∨x.op=14∨x.op=15∨x.op=16∨x.op=17:=by omega
  obtain⟨op,a,b⟩:=x
  simp only at this ha hb g
  rcases this with rfl|rfl|rfl|rfl|rfl|rfl|rfl|rfl|rfl|rfl|rfl|rfl|rfl|rfl|rfl|rfl|rfl <;>
   simp [q2g,z9s,nth,q0S] at ha hb <;> exact⟨by simp,by simp;try omega,by simp;try omega,by simp;try omega,by simp;try omega,by simp;try omega⟩
 ·rw[if_neg g] at h;cases h
def ShOk(sh:List Shape):Prop:=∀ s∈sh,0≤s.fields∧s.fields≤8
theorem q4d{sh:List Shape}{nc i d:Int}{x:Instr}(hs:ShOk sh)(hx:NumOk sh.length nc i x)(hd:1≤d∧d≤8000)(h:(q0t sh x d).2=true):1≤(q0t sh x d).1∧(q0t sh x d).1≤8000:=by
 obtain⟨op,a,b⟩:=x
 have hf:(op=9∨op=10)→0≤q0R sh a:=fun ho=>(hs _ (q1h (hx.con ho).1 (hx.con ho).2)).1
 have h1:=hx.op
 have h2:=hx.cnt
 have h3:=hx.upd
 simp only at h1 h2 h3
 have:op=1∨op=2∨op=3∨op=4∨op=5∨op=6∨op=7∨op=8∨op=9∨op=10∨op=11∨op=12∨op=13∨op=14∨op=15∨op=16∨op=17:=by omega
 unfold q0t at h ⊢
 rcases this with rfl|rfl|rfl|rfl|rfl|rfl|rfl|rfl|rfl|rfl|rfl|rfl|rfl|rfl|rfl|rfl|rfl <;> simp at h h2 h3 hf⊢<;> (try split at h) <;> (try split) <;> omega
theorem q1W(Dp:List Int)(at_ d:Int):(q0L Dp at_ d).length=Dp.length:=by
 unfold q0L;split <;> simp
def DpOk(Dp:List Int):Prop:=∀ v∈Dp,0≤v∧v≤8000
theorem q2F{Dp:List Int}{at_ d:Int}(h:DpOk Dp)(hd:0≤d∧d≤8000):DpOk (q0L Dp at_ d):=by
 unfold q0L
 split
 ·intro v hv
  rcases List.mem_or_eq_of_mem_set hv with h1|h1
  ·exact h v h1
  ·subst h1;exact hd
 ·exact h
end Go.Vm
end

section
namespace Go.Vm
/- 'sloth/slothref17.Numbers' -/
def f28:Fun:=⟨ (.seq (.reg [⟨[(2,.box (.sl 0)),(3,.box (.sl 1))],[],[(.bool false)],none,[2,3],3,[],[],[]⟩]) (.seq (.reg [⟨[],[(5,(.and (.bin .geq (.ld 1 false (.fa 1 (.sl 3))) (.int .i64 0)) (.bin .lss (.ld 1 false (.fa 1 (.sl 3))) (.len false (.ld 1 false (.fa 0 (.sl 2)))))))],[],none,[2,3],12,[],[],[]⟩]) (.seq (.reg [⟨[],[(6,(.and (.bin .geq (.ld 1 false (.fa 1 (.sl 3))) (.int .i64 (-4611686018427387904))) (.bin .leq (.ld 1 false (.fa 1 (.sl 3))) (.int .i64 4611686018427387903))))],[],none,[2,3,5],9,[],[],[]⟩]) (.seq (.seq (.reg [⟨[],[(27,(.ld 1 false (.fa 0 (.sl 3))))],[],none,[2,3,5,6],2,[],[],[]⟩]) (.block 0 (.seq (.seq (.reg [⟨[],[(28,(.bin .eql (.sl 27) (.int .i64 1)))],[],none,[2,3,5,6,27],2,[],[],[]⟩]) (.cond (.sl 28) .skip (.seq (.reg [⟨[],[(28,(.bin .eql (.sl 27) (.int .i64 4)))],[],none,[2,3,5,6,27],2,[],[],[]⟩]) (.cond (.sl 28) .skip (.seq (.reg [⟨[],[(28,(.bin .eql (.sl 27) (.int .i64 5)))],[],none,[2,3,5,6,27],2,[],[],[]⟩]) (.cond (.sl 28) .skip (.reg [⟨[],[(28,(.bin .eql (.sl 27) (.int .i64 8)))],[],none,[2,3,5,6,27],2,[],[],[]⟩]))))))) (.cond (.sl 28) (.seq (.reg [⟨[],[(4,(.and (.bin .geq (.ld 1 false (.fa 1 (.sl 3))) (.int .i64 0)) (.bin .eql (.ld 1 false (.fa 2 (.sl 3))) (.int .i64 0))))],[],none,[],9,[],[],[]⟩]) (.seq (.tidy 0 [4]) .ret)) (.seq (.reg [⟨[],[(41,(.bin .eql (.sl 27) (.int .i64 2)))],[],none,[2,3,5,6,27],2,[],[],[]⟩]) (.cond (.sl 41) (.seq (.reg [⟨[],[(4,(.and (.and (.bin .geq (.ld 1 false (.fa 1 (.sl 3))) (.int .i64 0)) (.bin .lss (.ld 1 false (.fa 1 (.sl 3))) (.len false (.ld 1 false (.fa 1 (.sl 2)))))) (.bin .eql (.ld 1 false (.fa 2 (.sl 3))) (.int .i64 0))))],[],none,[],17,[],[],[]⟩]) (.seq (.tidy 0 [4]) .ret)) (.seq (.reg [⟨[],[(59,(.bin .eql (.sl 27) (.int .i64 3)))],[],none,[3,5,6,27],2,[],[],[]⟩]) (.cond (.sl 59) (.seq (.reg [⟨[],[(4,(.and (.sl 6) (.bin .eql (.ld 1 false (.fa 2 (.sl 3))) (.int .i64 0))))],[],none,[],7,[],[],[]⟩]) (.seq (.tidy 0 [4]) .ret)) (.seq (.seq (.reg [⟨[],[(67,(.bin .eql (.sl 27) (.int .i64 6)))],[],none,[3,5,6,27],2,[],[],[]⟩]) (.cond (.sl 67) .skip (.seq (.reg [⟨[],[(67,(.bin .eql (.sl 27) (.int .i64 11)))],[],none,[3,5,6,27],2,[],[],[]⟩]) (.cond (.sl 67) .skip (.reg [⟨[],[(67,(.bin .eql (.sl 27) (.int .i64 17)))],[],none,[3,5,6,27],2,[],[],[]⟩]))))) (.cond (.sl 67) (.seq (.reg [⟨[],[(4,(.and (.bin .eql (.ld 1 false (.fa 1 (.sl 3))) (.int .i64 0)) (.bin .eql (.ld 1 false (.fa 2 (.sl 3))) (.int .i64 0))))],[],none,[],9,[],[],[]⟩]) (.seq (.tidy 0 [4]) .ret)) (.seq (.reg [⟨[],[(79,(.bin .eql (.sl 27) (.int .i64 7)))],[],none,[3,5,6,27],2,[],[],[]⟩]) (.cond (.sl 79) (.seq (.reg [⟨[],[(4,(.and (.bin .geq (.ld 1 false (.fa 1 (.sl 3))) (.int .i64 1)) (.bin .eql (.ld 1 false (.fa 2 (.sl 3))) (.int .i64 0))))],[],none,[],9,[],[],[]⟩]) (.seq (.tidy 0 [4]) .ret)) (.seq (.seq (.reg [⟨[],[(89,(.bin .eql (.sl 27) (.int .i64 9)))],[],none,[3,5,6,27],2,[],[],[]⟩]) (.cond (.sl 89) .skip (.reg [⟨[],[(89,(.bin .eql (.sl 27) (.int .i64 10)))],[],none,[3,5,6,27],2,[],[],[]⟩]))) (.cond (.sl 89) (.seq (.reg [⟨[],[(4,(.and (.sl 5) (.bin .eql (.ld 1 false (.fa 2 (.sl 3))) (.int .i64 0))))],[],none,[],7,[],[],[]⟩]) (.seq (.tidy 0 [4]) .ret)) (.seq (.reg [⟨[],[(98,(.bin .eql (.sl 27) (.int .i64 12)))],[],none,[3,5,6,27],2,[],[],[]⟩]) (.cond (.sl 98) (.seq (.reg [⟨[],[(4,(.and (.and (.bin .geq (.ld 1 false (.fa 1 (.sl 3))) (.int .i64 1)) (.bin .leq (.ld 1 false (.fa 1 (.sl 3))) (.int .i64 11))) (.bin .eql (.ld 1 false (.fa 2 (.sl 3))) (.int .i64 0))))],[],none,[],14,[],[],[]⟩]) (.seq (.tidy 0 [4]) .ret)) (.seq (.reg [⟨[],[(113,(.bin .eql (.sl 27) (.int .i64 13)))],[],none,[3,5,6,27],2,[],[],[]⟩]) (.cond (.sl 113) (.seq (.reg [⟨[],[(4,(.bin .eql (.ld 1 false (.fa 2 (.sl 3))) (.int .i64 0)))],[],none,[],4,[],[],[]⟩]) (.seq (.tidy 0 [4]) .ret)) (.seq (.reg [⟨[],[(118,(.bin .eql (.sl 27) (.int .i64 14)))],[],none,[3,5,6,27],2,[],[],[]⟩]) (.cond (.sl 118) (.seq (.reg [⟨[],[(4,(.sl 5))],[],none,[],2,[],[],[]⟩]) (.seq (.tidy 0 [4]) .ret)) (.seq (.reg [⟨[],[(121,(.bin .eql (.sl 27) (.int .i64 15)))],[],none,[3,6,27],2,[],[],[]⟩]) (.cond (.sl 121) (.seq (.reg [⟨[],[(4,(.sl 6))],[],none,[],2,[],[],[]⟩]) (.seq (.tidy 0 [4]) .ret)) (.seq (.reg [⟨[],[(124,(.bin .eql (.sl 27) (.int .i64 16)))],[],none,[3],2,[],[],[]⟩]) (.cond (.sl 124) (.seq (.reg [⟨[],[(4,(.and (.and (.bin .geq (.ld 1 false (.fa 1 (.sl 3))) (.int .i64 1)) (.bin .leq (.ld 1 false (.fa 1 (.sl 3))) (.int .i64 4))) (.bin .eql (.ld 1 false (.fa 2 (.sl 3))) (.int .i64 0))))],[],none,[],14,[],[],[]⟩]) (.seq (.tidy 0 [4]) .ret)) .skip)))))))))))))))))))))))) (.seq (.reg [⟨[],[(4,(.bool false))],[],none,[],1,[],[],[]⟩]) (.seq (.tidy 0 [4]) .ret)))))), [(.sl 4)],false⟩
theorem j1x:q0J Go.Proofs.Tryz.prog 28 0 2 f28=true:=by kernel_rfl
/- 'sloth/slothref17.Needs' -/
def f29:Fun:=⟨ (.seq (.reg [⟨[(3,.box (.sl 0)),(4,.box (.sl 1))],[],[(.bool false)],none,[2,3,4],3,[],[],[]⟩]) (.seq (.seq (.reg [⟨[],[(8,(.ld 1 false (.fa 0 (.sl 4))))],[],none,[2,3,4],2,[],[],[]⟩]) (.block 0 (.seq (.seq (.reg [⟨[],[(9,(.bin .eql (.sl 8) (.int .i64 1)))],[],none,[2,3,4,8],2,[],[],[]⟩]) (.cond (.sl 9) .skip (.seq (.reg [⟨[],[(9,(.bin .eql (.sl 8) (.int .i64 4)))],[],none,[2,3,4,8],2,[],[],[]⟩]) (.cond (.sl 9) .skip (.reg [⟨[],[(9,(.bin .eql (.sl 8) (.int .i64 7)))],[],none,[2,3,4,8],2,[],[],[]⟩]))))) (.cond (.sl 9) (.seq (.reg [⟨[],[(6,(.bin .lss (.ld 1 false (.fa 1 (.sl 4))) (.sl 2)))],[],none,[],5,[],[],[]⟩]) (.seq (.tidy 0 [6]) .ret)) (.seq (.reg [⟨[],[(17,(.bin .eql (.sl 8) (.int .i64 5)))],[],none,[2,3,4,8],2,[],[],[]⟩]) (.cond (.sl 17) (.seq (.reg [⟨[],[(6,(.bin .lss (.ld 1 false (.fa 1 (.sl 4))) (.bin .sub (.sl 2) (.int .i64 1))))],[],none,[],6,[],[],[]⟩]) (.seq (.tidy 0 [6]) .ret)) (.seq (.seq (.reg [⟨[],[(24,(.bin .eql (.sl 8) (.int .i64 6)))],[],none,[2,3,4,8],2,[],[],[]⟩]) (.cond (.sl 24) .skip (.reg [⟨[],[(24,(.bin .eql (.sl 8) (.int .i64 12)))],[],none,[2,3,4,8],2,[],[],[]⟩]))) (.cond (.sl 24) (.seq (.reg [⟨[],[(6,(.bin .gtr (.sl 2) (.int .i64 2)))],[],none,[],3,[],[],[]⟩]) (.seq (.tidy 0 [6]) .ret)) (.seq (.reg [⟨[],[(29,(.bin .eql (.sl 8) (.int .i64 9)))],[],none,[2,3,4,8],2,[],[],[]⟩]) (.cond (.sl 29) (.seq (.reg [⟨[],[(6,(.bin .lss (.ld 1 false (.fa 1 (.ia 2 (.ld 1 false (.fa 0 (.sl 3))) (.ld 1 false (.fa 1 (.sl 4)))))) (.sl 2)))],[],none,[],10,[],[],[]⟩]) (.seq (.tidy 0 [6]) .ret)) (.seq (.seq (.reg [⟨[],[(40,(.bin .eql (.sl 8) (.int .i64 10)))],[],none,[2,8],2,[],[],[]⟩]) (.cond (.sl 40) .skip (.seq (.reg [⟨[],[(40,(.bin .eql (.sl 8) (.int .i64 11)))],[],none,[2,8],2,[],[],[]⟩]) (.cond (.sl 40) .skip (.seq (.reg [⟨[],[(40,(.bin .eql (.sl 8) (.int .i64 14)))],[],none,[2,8],2,[],[],[]⟩]) (.cond (.sl 40) .skip (.reg [⟨[],[(40,(.bin .eql (.sl 8) (.int .i64 15)))],[],none,[2,8],2,[],[],[]⟩]))))))) (.cond (.sl 40) (.seq (.reg [⟨[],[(6,(.bin .gtr (.sl 2) (.int .i64 1)))],[],none,[],3,[],[],[]⟩]) (.seq (.tidy 0 [6]) .ret)) (.seq (.reg [⟨[],[(47,(.bin .eql (.sl 8) (.int .i64 17)))],[],none,[2],2,[],[],[]⟩]) (.cond (.sl 47) (.seq (.reg [⟨[],[(6,(.bin .eql (.sl 2) (.int .i64 1)))],[],none,[],3,[],[],[]⟩]) (.seq (.tidy 0 [6]) .ret)) .skip)))))))))))))) (.seq (.reg [⟨[],[(6,(.bool true))],[],none,[],1,[],[],[]⟩]) (.seq (.tidy 0 [6]) .ret)))), [(.sl 6)],false⟩
theorem j1w:q0J Go.Proofs.Tryz.prog 29 0 3 f29=true:=by kernel_rfl
/- 'sloth/slothref17.Ends' -/
def f30:Fun:=⟨ (.seq (.reg [⟨[(1,.box (.sl 0))],[],[(.bool false)],none,[1],2,[],[],[]⟩]) (.seq (.reg [⟨[],[(2,(.or (.bin .eql (.ld 1 false (.fa 0 (.sl 1))) (.int .i64 16)) (.bin .eql (.ld 1 false (.fa 0 (.sl 1))) (.int .i64 17))))],[],none,[],9,[],[],[]⟩]) (.seq (.tidy 0 [2]) .ret))), [(.sl 2)],false⟩
theorem j1v:q0J Go.Proofs.Tryz.prog 30 0 1 f30=true:=by kernel_rfl
/- 'sloth/slothref17.Behind' -/
def f31:Fun:=⟨ (.seq (.reg [⟨[(3,.box (.sl 0)),(4,.box (.sl 1))],[],[(.int .i64 0)],none,[2,3,4],3,[],[],[]⟩]) (.seq (.seq (.reg [⟨[],[(8,(.ld 1 false (.fa 0 (.sl 4))))],[],none,[2,3,4],2,[],[],[]⟩]) (.block 0 (.seq (.seq (.reg [⟨[],[(9,(.bin .eql (.sl 8) (.int .i64 1)))],[],none,[2,3,4,8],2,[],[],[]⟩]) (.cond (.sl 9) .skip (.seq (.reg [⟨[],[(9,(.bin .eql (.sl 8) (.int .i64 2)))],[],none,[2,3,4,8],2,[],[],[]⟩]) (.cond (.sl 9) .skip (.reg [⟨[],[(9,(.bin .eql (.sl 8) (.int .i64 3)))],[],none,[2,3,4,8],2,[],[],[]⟩]))))) (.cond (.sl 9) (.seq (.reg [⟨[],[(6,(.bin .add (.sl 2) (.int .i64 1)))],[],none,[],3,[],[],[]⟩]) (.seq (.tidy 0 [6]) .ret)) (.seq (.seq (.reg [⟨[],[(15,(.bin .eql (.sl 8) (.int .i64 4)))],[],none,[2,3,4,8],2,[],[],[]⟩]) (.cond (.sl 15) .skip (.reg [⟨[],[(15,(.bin .eql (.sl 8) (.int .i64 5)))],[],none,[2,3,4,8],2,[],[],[]⟩]))) (.cond (.sl 15) (.seq (.reg [⟨[],[(6,(.bin .sub (.sl 2) (.ld 1 false (.fa 1 (.sl 4)))))],[],none,[],5,[],[],[]⟩]) (.seq (.tidy 0 [6]) .ret)) (.seq (.seq (.reg [⟨[],[(22,(.bin .eql (.sl 8) (.int .i64 6)))],[],none,[2,3,4,8],2,[],[],[]⟩]) (.cond (.sl 22) .skip (.seq (.reg [⟨[],[(22,(.bin .eql (.sl 8) (.int .i64 7)))],[],none,[2,3,4,8],2,[],[],[]⟩]) (.cond (.sl 22) .skip (.reg [⟨[],[(22,(.bin .eql (.sl 8) (.int .i64 12)))],[],none,[2,3,4,8],2,[],[],[]⟩]))))) (.cond (.sl 22) (.seq (.reg [⟨[],[(6,(.bin .sub (.sl 2) (.int .i64 1)))],[],none,[],3,[],[],[]⟩]) (.seq (.tidy 0 [6]) .ret)) (.seq (.reg [⟨[],[(28,(.bin .eql (.sl 8) (.int .i64 8)))],[],none,[2,3,4,8],2,[],[],[]⟩]) (.cond (.sl 28) (.seq (.reg [⟨[],[(6,(.bin .add (.sl 2) (.cond (.and (.bin .eql (.bin .and (.int .i64 8000) (.int .i64 0)) (.bin .and (.int .i64 8000) (.int .i64 0))) (.bin .lss (.int .i64 8000) (.ld 1 false (.fa 1 (.sl 4))))) (.int .i64 8000) (.ld 1 false (.fa 1 (.sl 4))))))],[(.ld 1 false (.fa 1 (.sl 4)))],none,[],6,[],[],[]⟩]) (.seq (.tidy 0 [6]) .ret)) (.seq (.reg [⟨[],[(35,(.bin .eql (.sl 8) (.int .i64 9)))],[],none,[2,3,4,8],2,[],[],[]⟩]) (.cond (.sl 35) (.seq (.reg [⟨[],[(6,(.bin .add (.bin .sub (.sl 2) (.ld 1 false (.fa 1 (.ia 2 (.ld 1 false (.fa 0 (.sl 3))) (.ld 1 false (.fa 1 (.sl 4))))))) (.int .i64 1)))],[],none,[],11,[],[],[]⟩]) (.seq (.tidy 0 [6]) .ret)) (.seq (.reg [⟨[],[(47,(.bin .eql (.sl 8) (.int .i64 10)))],[],none,[2,3,4],2,[],[],[]⟩]) (.cond (.sl 47) (.seq (.reg [⟨[],[(6,(.bin .add (.bin .sub (.sl 2) (.int .i64 1)) (.ld 1 false (.fa 1 (.ia 2 (.ld 1 false (.fa 0 (.sl 3))) (.ld 1 false (.fa 1 (.sl 4))))))))],[],none,[],11,[],[],[]⟩]) (.seq (.tidy 0 [6]) .ret)) .skip)))))))))))))) (.seq (.reg [⟨[],[(6,(.sl 2))],[],none,[],2,[],[],[]⟩]) (.seq (.tidy 0 [6]) .ret)))), [(.sl 6)],false⟩
theorem j1u:q0J Go.Proofs.Tryz.prog 31 0 3 f31=true:=by kernel_rfl
/- 'sloth/slothref17.Target' -/
def f32:Fun:=⟨ (.seq (.reg [⟨[(1,.box (.sl 0))],[],[(.int .i64 0)],none,[1],2,[],[],[]⟩]) (.seq (.seq (.reg [⟨[],[(4,(.ld 1 false (.fa 0 (.sl 1))))],[],none,[1],2,[],[],[]⟩]) (.block 0 (.seq (.reg [⟨[],[(5,(.bin .eql (.sl 4) (.int .i64 13)))],[],none,[1,4],2,[],[],[]⟩]) (.cond (.sl 5) (.seq (.reg [⟨[],[(2,(.ld 1 false (.fa 1 (.sl 1))))],[],none,[],3,[],[],[]⟩]) (.seq (.tidy 0 [2]) .ret)) (.seq (.seq (.reg [⟨[],[(9,(.bin .eql (.sl 4) (.int .i64 14)))],[],none,[1,4],2,[],[],[]⟩]) (.cond (.sl 9) .skip (.reg [⟨[],[(9,(.bin .eql (.sl 4) (.int .i64 15)))],[],none,[1],2,[],[],[]⟩]))) (.cond (.sl 9) (.seq (.reg [⟨[],[(2,(.ld 1 false (.fa 2 (.sl 1))))],[],none,[],3,[],[],[]⟩]) (.seq (.tidy 0 [2]) .ret)) .skip)))))) (.seq (.reg [⟨[],[(2,(.int .i64 (-1)))],[],none,[],1,[],[],[]⟩]) (.seq (.tidy 0 [2]) .ret)))), [(.sl 2)],false⟩
theorem j1t:q0J Go.Proofs.Tryz.prog 32 0 1 f32=true:=by kernel_rfl
/- 'sloth/slothref17.jumps' -/
def f84:Fun:=⟨ (.seq (.reg [⟨[(1,.box (.sl 0))],[],[(.bool false)],none,[1],2,[],[],[]⟩]) (.seq (.reg [⟨[],[(2,(.or (.or (.bin .eql (.ld 1 false (.fa 0 (.sl 1))) (.int .i64 13)) (.bin .eql (.ld 1 false (.fa 0 (.sl 1))) (.int .i64 14))) (.bin .eql (.ld 1 false (.fa 0 (.sl 1))) (.int .i64 15))))],[],none,[],14,[],[],[]⟩]) (.seq (.tidy 0 [2]) .ret))), [(.sl 2)],false⟩
theorem j01:q0J Go.Proofs.Tryz.prog 84 0 1 f84=true:=by kernel_rfl
def q1D(ng ns:Int)(x:Instr):Bool:=
  if x.op=1∨x.op=4∨x.op=5∨x.op=8 then decide (0≤x.a)&&x.b==0
  else if x.op=2 then decide (0≤x.a)&&decide (x.a<ng)&&x.b==0
  else if x.op=3 then decide (-4611686018427387904≤x.a)&&decide (x.a≤4611686018427387903)&&x.b==0
  else if x.op=6∨x.op=11∨x.op=17 then x.a==0&&x.b==0
  else if x.op=7 then decide (1≤x.a)&&x.b==0
  else if x.op=9∨x.op=10 then decide (0≤x.a)&&decide (x.a<ns)&&x.b==0
  else if x.op=12 then decide (1≤x.a)&&decide (x.a≤11)&&x.b==0
  else if x.op=13 then x.b==0
  else if x.op=14 then decide (0≤x.a)&&decide (x.a<ns)
  else if x.op=15 then decide (-4611686018427387904≤x.a)&&decide (x.a≤4611686018427387903)
  else if x.op=16 then decide (1≤x.a)&&decide (x.a≤4)&&x.b==0
  else false
def q2m(sh:List Shape)(gl:List Glob):V:=.agg [.d false (.sl 2 (sh.map q0c)),.d false (.sl 3 (gl.map q0l))]
def insA(x:Instr):V:=.agg [.d false (.int .i64 x.op),.d false (.int .i64 x.a),.d false (.int .i64 x.b)]
theorem z4c{op:Int}(g:1≤op∧op<18):op=1∨op=2∨op=3∨op=4∨op=5∨op=6∨op=7∨op=8∨op=9∨op=10∨op=11∨op=12∨op=13∨op=14∨op=15∨op=16∨op=17:=by omega
theorem opx{op:Int}(g:¬(1≤op∧op<18)):(op==1)=false∧(op==2)=false∧(op==3)=false∧(op==4)=false∧(op==5)=false∧(op==6)=false∧(op==7)=false∧(op==8)=false∧(op==9)=false∧(op==10)=false∧(op==11)=false∧(op==12)=false∧(op==13)=false∧(op==14)=false∧(op==15)=false∧(op==16)=false∧(op==17)=false:=by
  simp only[beq_eq_false_iff_ne,ne_eq]
  omega
theorem opn{op:Int}(g:¬(1≤op∧op<18)):op≠1∧op≠2∧op≠3∧op≠4∧op≠5∧op≠6∧op≠7∧op≠8∧op≠9∧op≠10∧op≠11∧op≠12∧op≠13∧op≠14∧op≠15∧op≠16∧op≠17:=by omega
set_option maxHeartbeats 4000000 in
theorem z2y(K:Cx)(sh:List Shape)(gl:List Glob)(x:Instr):q0o K f28 [q2m sh gl,insA x] []=some (.d false (.bool (q1D gl.length sh.length x)),[],[]):=by
  obtain⟨op,a,b⟩:=x
  unfold q2m insA
  by_cases g:1≤op∧op<18
  · have:=z4c g
    clear g
    rcases this with rfl|rfl|rfl|rfl|rfl|rfl|rfl|rfl|rfl|rfl|rfl|rfl|rfl|rfl|rfl|rfl|rfl
    all_goals
      simp(disch:=first|decide|omega|(simp only[LN];first|done|omega)) only[SV,SW,f28,Int.reduceNeg,Nat.reduceAdd,Nat.reduceBEq,q0b]
      simp [q1D]
  · obtain⟨e1,e2,e3,e4,e5,e6,e7,e8,e9,e10,e11,e12,e13,e14,e15,e16,e17⟩:=opx g
    have hn:=opn g
    have hr:q1D gl.length sh.length ⟨op,a,b⟩=false:=by
      simp [q1D,hn]
    rw[hr]
    clear g hn hr
    simp(disch:=first|decide|omega|(simp only[LN];first|done|omega)) only[SV,SW,f28,Int.reduceNeg,Nat.reduceAdd,Nat.reduceBEq,e1,e4,e5,e8,e2,e3,e6,e11,e17,e7,e9,e10,e12,e13,e14,e15,e16,q0b]
def q6D(x:Instr):Bool:=x.op==13||x.op==14||x.op==15
theorem z7j(K:Cx)(x:Instr):q0o K f84 [insA x] []=some (.d false (.bool (q6D x)),[],[]):=by
  unfold insA q6D
  simp(disch:=first|decide|omega|(simp only[LN];first|done|omega)) only[SV,SW,f84,Nat.reduceAdd,Nat.reduceBEq,q0b]
def q04(x:Instr):Int:=if x.op=13 then x.a else if x.op=14∨x.op=15 then x.b else -1
theorem z5h(K:Cx)(x:Instr):q0o K f32 [insA x] []=some (.d false (.int .i64 (q04 x)),[],[]):=by
  obtain⟨op,a,b⟩:=x
  unfold insA q04
  by_cases h1:op=13
  · subst h1;simp(disch:=first|decide|omega|(simp only[LN];first|done|omega)) only[SV,SW,f32,Int.reduceNeg,Nat.reduceAdd,Nat.reduceBEq,q0b,Int.reduceEq]
  · have e1:(op==13)=false:=by simpa using h1
    by_cases h2:op=14
    · subst h2;simp(disch:=first|decide|omega|(simp only[LN];first|done|omega)) only[SV,SW,f32,Int.reduceNeg,Nat.reduceAdd,Nat.reduceBEq,q0b,Int.reduceEq]
    · have e2:(op==14)=false:=by simpa using h2
      by_cases h3:op=15
      · subst h3;simp(disch:=first|decide|omega|(simp only[LN];first|done|omega)) only[SV,SW,f32,Int.reduceNeg,Nat.reduceAdd,Nat.reduceBEq,q0b,Int.reduceEq]
      · have e3:(op==15)=false:=by simpa using h3
        have hr:(if op=13 then a else if op=14∨op=15 then b else -1)=-1:=by simp [h1,h2,h3]
        simp only[hr]
        clear h1 h2 h3 hr
        simp(disch:=first|decide|omega|(simp only[LN];first|done|omega)) only[SV,SW,f32,Int.reduceNeg,Nat.reduceAdd,Nat.reduceBEq,e1,e2,e3,q0b]
def q5D(x:Instr):Bool:=x.op==16||x.op==17
theorem z9J(K:Cx)(x:Instr):q0o K f30 [insA x] []=some (.d false (.bool (q5D x)),[],[]):=by
  unfold insA q5D
  simp(disch:=first|decide|omega|(simp only[LN];first|done|omega)) only[SV,SW,f30,Nat.reduceAdd,Nat.reduceBEq,q0b]
def q3L(sh:List Shape)(x:Instr)(d:Int):Bool:=
  if x.op=1∨x.op=4∨x.op=7 then decide (x.a<d)
  else if x.op=5 then decide (x.a<d - 1)
  else if x.op=6∨x.op=12 then decide (2<d)
  else if x.op=9 then decide (q0R sh x.a<d)
  else if x.op=10∨x.op=11∨x.op=14∨x.op=15 then decide (1<d)
  else if x.op=17 then d==1
  else true
set_option maxHeartbeats 4000000 in
theorem z7o(K:Cx)(sh:List Shape)(gl:List Glob)(x:Instr)(d:Int)(hd:1≤d∧d≤8000)(hx:x.op=9→0≤x.a∧x.a<sh.length):q0o K f29 [q2m sh gl,insA x,.d false (.int .i64 d)] []=some (.d false (.bool (q3L sh x d)),[],[]):=by
  obtain⟨op,a,b⟩:=x
  obtain⟨d1,d2⟩:=hd
  unfold q2m insA
  by_cases g:1≤op∧op<18
  · have:=z4c g
    clear g
    by_cases g9:op=9
    · subst g9
      obtain⟨a1,a2⟩:=hx rfl
      simp only at a1 a2
      clear this hx
      simp(disch:=first|decide|omega|(simp only[LN];first|done|omega)) only[SV,SW,f29,Nat.reduceAdd,Nat.reduceBEq,q0g,q0b]
      simp [q3L,q0R]
      congr
    · clear hx
      rcases this with rfl|rfl|rfl|rfl|rfl|rfl|rfl|rfl|rfl|rfl|rfl|rfl|rfl|rfl|rfl|rfl|rfl
      all_goals first|exact absurd rfl g9|clear g9
      all_goals
        simp(disch:=first|decide|omega|(simp only[LN];first|done|omega)) only[SV,SW,f29,Nat.reduceAdd,Nat.reduceBEq,q0b]
        try simp [q3L]
  · obtain⟨e1,e2,e3,e4,e5,e6,e7,e8,e9,e10,e11,e12,e13,e14,e15,e16,e17⟩:=opx g
    have hn:=opn g
    have hr:q3L sh ⟨op,a,b⟩ d=true:=by
      simp [q3L,hn]
    rw[hr]
    clear g hn hr hx
    simp(disch:=first|decide|omega|(simp only[LN];first|done|omega)) only[SV,SW,f29,Nat.reduceAdd,Nat.reduceBEq,e1,e4,e7,e5,e6,e12,e9,e10,e11,e14,e15,e17,q0b]
def q06(sh:List Shape)(x:Instr)(d:Int):Int:=
  if x.op=1∨x.op=2∨x.op=3 then d+1
  else if x.op=4∨x.op=5 then d - x.a
  else if x.op=6∨x.op=7∨x.op=12 then d - 1
  else if x.op=8 then d+(if 8000<x.a then 8000 else x.a)
  else if x.op=9 then d - q0R sh x.a+1
  else if x.op=10 then d - 1+q0R sh x.a
  else d
set_option maxHeartbeats 4000000 in
theorem z5i(K:Cx)(sh:List Shape)(gl:List Glob)(x:Instr)(d:Int)(hd:1≤d∧d≤8000)(ha:x.op=4∨x.op=5∨x.op=8→0≤x.a∧x.a≤9223372036854775807)(hx:x.op=9∨x.op=10→0≤x.a∧x.a<sh.length∧0≤q0R sh x.a∧q0R sh x.a≤8) :
    q0o K f31 [q2m sh gl,insA x,.d false (.int .i64 d)] []=some (.d false (.int .i64 (q06 sh x d)),[],[]):=by
  obtain⟨op,a,b⟩:=x
  obtain⟨d1,d2⟩:=hd
  unfold q2m insA
  by_cases g:1≤op∧op<18
  · have:=z4c g
    clear g
    simp only at ha hx
    by_cases g9:op=9∨op=10
    · obtain⟨a1,a2,a3,a4⟩:=hx g9
      clear this hx ha
      unfold q0R at a3 a4
      generalize hf:(nth sh a).fields=fl at a3 a4
      rcases g9 with rfl|rfl
      · simp(disch:=first|decide|omega|(simp only[LN];first|done|omega)) only[SV,SW,f31,Nat.reduceAdd,Nat.reduceBEq,q0g,hf,q0b]
        simp [q06,q0R,hf]
      · simp(disch:=first|decide|omega|(simp only[LN];first|done|omega)) only[SV,SW,f31,Nat.reduceAdd,Nat.reduceBEq,q0g,hf,q0b]
        simp [q06,q0R,hf]
    · clear hx
      by_cases g4:op=4∨op=5∨op=8
      · obtain⟨a1,a2⟩:=ha g4
        clear this ha g9
        rcases g4 with rfl|rfl|rfl
        · simp(disch:=first|decide|omega|(simp only[LN];first|done|omega)) only[SV,SW,f31,Nat.reduceAdd,Nat.reduceBEq,q0b]
          simp [q06]
        · simp(disch:=first|decide|omega|(simp only[LN];first|done|omega)) only[SV,SW,f31,Nat.reduceAdd,Nat.reduceBEq,q0b]
          simp [q06]
        · by_cases k:8000<a
          · simp(disch:=first|decide|omega|(simp only[LN];first|done|omega)) only[SV,SW,f31,Nat.reduceAdd,Nat.reduceBEq,q0b]
            simp [q06,k]
          · simp(disch:=first|decide|omega|(simp only[LN];first|done|omega)) only[SV,SW,f31,Nat.reduceAdd,Nat.reduceBEq,q0b]
            simp [q06,k]
      · clear ha
        rcases this with rfl|rfl|rfl|rfl|rfl|rfl|rfl|rfl|rfl|rfl|rfl|rfl|rfl|rfl|rfl|rfl|rfl
        all_goals first|(exact absurd (by decide) g9)|(exact absurd (by decide) g4)|clear g9 g4
        all_goals
          simp(disch:=first|decide|omega|(simp only[LN];first|done|omega)) only[SV,SW,f31,Nat.reduceAdd,Nat.reduceBEq,q0b]
          try simp [q06]
  · obtain⟨e1,e2,e3,e4,e5,e6,e7,e8,e9,e10,e11,e12,e13,e14,e15,e16,e17⟩:=opx g
    have hn:=opn g
    have hr:q06 sh ⟨op,a,b⟩ d=d:=by
      simp [q06,hn]
    rw[hr]
    clear g hn hr hx ha
    simp(disch:=first|decide|omega|(simp only[LN];first|done|omega)) only[SV,SW,f31,Nat.reduceAdd,Nat.reduceBEq,e1,e2,e3,e4,e5,e6,e7,e12,e8,e9,e10,q0b]
end Go.Vm
end

section
namespace Go.Vm
set_option maxRecDepth 20000
open Go.Proofs
/- 'sloth/slothref17.put' -/
def f43_L0 : C :=
 (.seq
  (.seq
   (.reg [⟨[], [(9, (.bin .lss (.sl 5) (.len true (.sl 1))))], [], none, [0, 1, 5], 4, [], [], []⟩])
   (.cond (.sl 9)
    .skip
    (.seq
     (.tidy 1 [0])
     (.exit 0))))
  (.seq
   (.block 1
    (.reg [⟨[(16, .lits 1 (.cons (.ix (.sl 1) (.sl 5)) .nil))], [], [], some (some 17, .app 1 (.sl 0) (.sl 16)), [1, 5], 6, [], [], []⟩, ⟨[], [(0, (.sl 17))], [], none, [1, 5], 1, [], [], []⟩]))
   (.reg [⟨[], [(5, (.bin .add (.sl 5) (.int .i64 1)))], [], none, [0, 1], 3, [], [], []⟩])))
def f43 : Fun := ⟨
 (.seq
  (.reg [⟨[], [], [(.nilsl 1)], none, [0, 1], 1, [], [], []⟩])
  (.seq
   (.seq
    (.reg [⟨[], [(5, (.int .i64 0))], [], none, [0, 1], 1, [], [], []⟩])
    (.block 0
     (.seq (.tidy 1 [0, 1, 5]) (.loop (.seq (.tidy 1 [0, 1, 5]) f43_L0)))))
   (.seq
    (.reg [⟨[], [(4, (.sl 0))], [], none, [], 2, [], [], []⟩])
    (.seq
     (.tidy 1 [4])
     .ret)))),
 [(.sl 4)], false⟩
theorem f43_ok : q0J Go.Proofs.Tryz.prog 43 1 2 f43 = true := by kernel_rfl

/- 'sloth/slothref17.quoted' -/
def f44_L0 : C :=
 (.seq
  (.seq
   (.reg [⟨[], [(11, (.bin .lss (.sl 4) (.len true (.sl 0))))], [], none, [0, 3, 4], 4, [], [], []⟩])
   (.cond (.sl 11)
    .skip
    (.seq
     (.tidy 0 [3])
     (.exit 0))))
  (.seq
   (.block 1
    (.seq
     (.seq
      (.reg [⟨[], [(23, (.or (.bin .eql (.ix (.sl 0) (.sl 4)) (.int .u8 34)) (.bin .eql (.ix (.sl 0) (.sl 4)) (.int .u8 92))))], [], none, [0, 3, 4], 10, [], [], []⟩])
      (.cond (.sl 23)
       (.reg [⟨[(25, .lits 1 (.cons (.int .u8 92) .nil))], [], [], some (some 26, .app 1 (.sl 3) (.sl 25)), [0, 4], 3, [], [], []⟩, ⟨[], [(3, (.sl 26))], [], none, [0, 4], 1, [], [], []⟩])
       .skip))
     (.reg [⟨[(31, .lits 1 (.cons (.ix (.sl 0) (.sl 4)) .nil))], [], [], some (some 32, .app 1 (.sl 3) (.sl 31)), [0, 4], 6, [], [], []⟩, ⟨[], [(3, (.sl 32))], [], none, [0, 4], 1, [], [], []⟩])))
   (.reg [⟨[], [(4, (.bin .add (.sl 4) (.int .i64 1)))], [], none, [0, 3], 3, [], [], []⟩])))
def f44 : Fun := ⟨
 (.seq
  (.reg [⟨[], [], [(.str [])], none, [0], 1, [], [], []⟩])
  (.seq
   (.reg [⟨[], [(3, (.nilsl 1))], [], none, [0], 1, [], [], []⟩])
   (.seq
    (.reg [⟨[(6, .lits 1 (.cons (.int .u8 34) .nil))], [], [], some (some 7, .app 1 (.sl 3) (.sl 6)), [0], 3, [], [], []⟩, ⟨[], [(3, (.sl 7))], [], none, [0], 1, [], [], []⟩])
    (.seq
     (.seq
      (.reg [⟨[], [(4, (.int .i64 0))], [], none, [0, 3], 1, [], [], []⟩])
      (.block 0
       (.seq (.tidy 0 [0, 3, 4]) (.loop (.seq (.tidy 0 [0, 3, 4]) f44_L0)))))
     (.seq
      (.reg [⟨[(34, .lits 1 (.cons (.int .u8 34) .nil))], [], [], some (some 35, .app 1 (.sl 3) (.sl 34)), [], 3, [], [], []⟩, ⟨[], [(3, (.sl 35))], [], none, [], 1, [], [], []⟩])
      (.seq
       (.reg [⟨[], [(2, (.b2s (.sl 3)))], [], none, [], 3, [], [], []⟩])
       (.seq
        (.tidy 0 [2])
        .ret))))))),
 [(.sl 2)], false⟩
theorem f44_ok : q0J Go.Proofs.Tryz.prog 44 0 1 f44 = true := by kernel_rfl

/- 'sloth/slothref17.digits' -/
def f45_L0 : C :=
 (.seq
  (.seq
   (.reg [⟨[], [(11, (.bin .gtr (.sl 0) (.int .i64 9)))], [], none, [0, 3], 2, [], [], []⟩])
   (.cond (.sl 11)
    .skip
    (.seq
     (.tidy 0 [0, 3])
     (.exit 0))))
  (.block 1
   (.seq
    (.reg [⟨[(16, .lits 1 (.cons (.conv .u8 (.bin .add (.int .i64 48) (.bin .rem (.sl 0) (.int .i64 10)))) .nil))], [], [], none, [0, 3, 16], 5, [], [], []⟩, ⟨[], [(3, (.bin .add (.b2s (.sl 16)) (.sl 3)))], [], none, [0], 4, [], [], []⟩])
    (.reg [⟨[], [(0, (.bin .quo (.sl 0) (.int .i64 10)))], [], none, [3], 3, [], [], []⟩]))))
def f45 : Fun := ⟨
 (.seq
  (.reg [⟨[], [], [(.str [])], none, [0], 1, [], [], []⟩])
  (.seq
   (.seq
    (.reg [⟨[], [(5, (.bin .lss (.sl 0) (.int .i64 0)))], [], none, [0], 2, [], [], []⟩])
    (.cond (.sl 5)
     (.seq
      (.reg [⟨[], [(2, (.bin .add (.str [45]) (.call 45 (.cons (.un .neg (.sl 0)) .nil))))], [], none, [], 5, [], [], []⟩])
      (.seq
       (.tidy 0 [2])
       .ret))
     .skip))
   (.seq
    (.reg [⟨[], [(3, (.str []))], [], none, [0], 1, [], [], []⟩])
    (.seq
     (.block 0
      (.seq (.tidy 0 [0, 3]) (.loop (.seq (.tidy 0 [0, 3]) f45_L0))))
     (.seq
      (.reg [⟨[(25, .lits 1 (.cons (.conv .u8 (.bin .add (.int .i64 48) (.sl 0))) .nil))], [], [], none, [3, 25], 4, [], [], []⟩, ⟨[], [(2, (.bin .add (.b2s (.sl 25)) (.sl 3)))], [], none, [], 4, [], [], []⟩])
      (.seq
       (.tidy 0 [2])
       .ret)))))),
 [(.sl 2)], false⟩
theorem f45_ok : q0J Go.Proofs.Tryz.prog 45 0 1 f45 = true := by kernel_rfl

abbrev Bs := List UInt8
def eU (c : UInt8) : List D := [.int .u8 c.toNat]
theorem eU_eq (c) : eU c = [.int .u8 c.toNat] := rfl
theorem bytesOf_mapU : ∀ l : Bs, q5d (l.map eU) = some l
  | [] => rfl
  | c :: l => by
    simp only [List.map_cons, eU, q5d, bytesOf_mapU l]
    simp
theorem b2s_bslU (H : List (Nat × Blk)) (b n : Nat) (c : Bool) (l : Bs) (hb : look H b = some (.dat c 1 (l.map eU))) (hn : n = l.length) : z9O H (.bsl b 0 n) = some (.d false (.str l)) := by
  subst hn
  unfold z9O
  have := viewD_datm 5 H b 0 l.length c 1 l eU hb (by omega)
  rw [show viewDepth = 6 from rfl, this]
  simp only [List.drop_zero, List.take_length, b2sD, bytesOf_mapU, Option.map_some]
theorem fUA (l : Bs) (c : UInt8) : l.map eU ++ [[D.int .u8 c.toNat]] = (l ++ [c]).map eU := by simp [eU]

theorem put_loop (K : Cx) (s : Bs) (hs : s.length ≤ 1000000000) (a c : Bool) : ∀ (k i : Nat) (l : Bs) (mv : List Nat), i + k = s.length → l.length ≤ 1000000000000 + i → (mv = [] ∨ mv = [0]) →
    lp K 1 [0, 1, 5] f43_L0 ⟨[(0, .bsl 0 0 l.length), (1, .d a (.str s)), (5, .d false (.int .i64 i))], [(0, .dat c 1 (l.map eU))], 1, mv⟩ =
      some (.exit 0, ⟨[(0, .bsl 0 0 (l ++ s.drop i).length)], [(0, .dat c 1 ((l ++ s.drop i).map eU))], 1, if k = 0 then mv else [0]⟩) := by
  intro k
  induction k with
  | zero =>
    intro i l mv hi hl hm
    obtain rfl : i = s.length := by omega
    rw [q0I f43_L0.eq_1, List.drop_length, List.append_nil]
    rcases hm with rfl | rfl
    · simp (disch := first|decide|omega|(simp only [LN];first|done|omega)) only [SV, SW, Nat.reduceBEq, z7Y]
    · simp (disch := first|decide|omega|(simp only [LN];first|done|omega)) only [SV, SW, Nat.reduceBEq, z7Y]
  | succ k ih =>
    intro i l mv hi hl hm
    have hd : s.drop i = nth s i :: s.drop (i + 1) := q0F (by omega)
    have ih := ih (i + 1) (l ++ [nth s i]) [0] (by omega) (by simp; omega) (.inr rfl)
    rw [hd, show l ++ nth s i :: s.drop (i + 1) = (l ++ [nth s i]) ++ s.drop (i + 1) by simp]
    rw [if_neg (by omega)]
    rw [show (if k = 0 then [0] else [0]) = ([0] : List Nat) by split <;> rfl] at ih
    rw [← ih]
    clear ih hd
    generalize hx : nth s (i : Int) = x at *
    rw [q0I f43_L0.eq_1]
    rcases hm with rfl | rfl
    · simp (disch := first|decide|omega|(simp only [LN];first|done|omega)) only [SV, SW, Nat.reduceBEq, hx, Nat.reduceAdd, fUA, lose, V.forget, V.drop1, V.ref0, z7Y]
      rfl
    · simp (disch := first|decide|omega|(simp only [LN];first|done|omega)) only [SV, SW, Nat.reduceBEq, hx, Nat.reduceAdd, fUA, lose, V.forget, V.drop1, V.ref0, z7Y]
      rfl
theorem ev_put (K : Cx) (a c : Bool) (l s : Bs) (hl : l.length ≤ 1000000000000) (hs : s.length ≤ 1000000000) (h0 : s ≠ []) :
    q0o K f43 [.bsl 0 0 l.length, .d a (.str s)] [.dat c 1 (l.map eU)] = some (.bsl 0 0 (l ++ s).length, [.dat c 1 ((l ++ s).map eU)], [0]) := by
  have hp := List.length_pos_iff.2 h0
  have l0 := put_loop K s hs a c s.length 0 l [] (by omega) (by omega) (.inl rfl)
  rw [if_neg (by omega)] at l0
  simp only [Int.natCast_zero, List.drop_zero] at l0
  clear h0 hp
  simp (disch := first|decide|omega|(simp only [LN];first|done|omega)) only [SV, SW, f43, Nat.reduceAdd, Nat.reduceBEq, z7Y, l0, q0b, hNew, V.forget, V.drop1, V.ref0, V.newR, q0d]

def escQ (c : UInt8) : Bs := if c = 34 ∨ c = 92 then [92, c] else [c]
def quoteS (s : Bs) : Bs := 34 :: (s.flatMap escQ ++ [34])
theorem u8k2 {a c : UInt8} : ((a.toNat : Int) = (c.toNat : Int)) ↔ a = c := by
  constructor
  · intro h; exact UInt8.toNat_inj.1 (by omega)
  · rintro rfl; rfl
theorem quoted_loop (K : Cx) (s : Bs) (hs : s.length ≤ 100000000) (a : Bool) : ∀ (k i : Nat) (l : Bs), i + k = s.length → l ≠ [] → l.length ≤ 1 + 2 * i →
    lp K 0 [0, 3, 4] f44_L0 ⟨[(0, .d a (.str s)), (3, .bsl 0 0 l.length), (4, .d false (.int .i64 i))], [(0, .dat true 1 (l.map eU))], 1, []⟩ =
      some (.exit 0, ⟨[(3, .bsl 0 0 (l ++ (s.drop i).flatMap escQ).length)], [(0, .dat true 1 ((l ++ (s.drop i).flatMap escQ).map eU))], 1, []⟩) := by
  intro k
  induction k with
  | zero =>
    intro i l hi h0 hl
    obtain rfl : i = s.length := by omega
    rw [q0I f44_L0.eq_1, List.drop_length, List.flatMap_nil, List.append_nil]
    simp (disch := first|decide|omega|(simp only [LN];first|done|omega)) only [SV, SW, Nat.reduceBEq]
  | succ k ih =>
    intro i l hi h0 hl
    have hd : s.drop i = nth s i :: s.drop (i + 1) := q0F (by omega)
    generalize hx : nth s (i : Int) = x at *
    have e92 : eU 92 = [D.int .u8 92] := rfl
    by_cases h : x = 34 ∨ x = 92
    · have hq : escQ x = [92, x] := if_pos h
      have hb : ((x.toNat : Int) == 34 || (x.toNat : Int) == 92) = true := by
        rcases h with rfl | rfl <;> rfl
      have ih := ih (i + 1) (l ++ [92] ++ [x]) (by omega) (by simp) (by simp; omega)
      rw [hd, List.flatMap_cons, hq, show l ++ ([92, x] ++ (s.drop (i + 1)).flatMap escQ) = (l ++ [92] ++ [x]) ++ (s.drop (i + 1)).flatMap escQ by simp]
      rw [← ih]
      clear ih hd h h0
      rw [q0I f44_L0.eq_1]
      have f92 : ∀ l : Bs, l.map eU ++ [[D.int .u8 92]] = (l ++ [92]).map eU := fun l => by simp [eU]
      simp (disch := first|decide|omega|(simp only [LN];first|done|omega)) only [SV, SW, Nat.reduceBEq, hx, hb, Nat.reduceAdd, f92, lose, V.forget, V.drop1, V.ref0, fUA]
      rfl
    · have hq : escQ x = [x] := if_neg h
      have hb : ((x.toNat : Int) == 34 || (x.toNat : Int) == 92) = false := by
        simp only [not_or] at h
        rw [Bool.or_eq_false_iff, beq_eq_false_iff_ne, beq_eq_false_iff_ne]
        exact ⟨fun e => h.1 ((u8k2 (a := x) (c := 34)).1 e), fun e => h.2 ((u8k2 (a := x) (c := 92)).1 e)⟩
      have ih := ih (i + 1) (l ++ [x]) (by omega) (by simp) (by simp; omega)
      rw [hd, List.flatMap_cons, hq, show l ++ ([x] ++ (s.drop (i + 1)).flatMap escQ) = (l ++ [x]) ++ (s.drop (i + 1)).flatMap escQ by simp]
      rw [← ih]
      clear ih hd h h0
      rw [q0I f44_L0.eq_1]
      simp (disch := first|decide|omega|(simp only [LN];first|done|omega)) only [SV, SW, Nat.reduceBEq, hx, hb, Nat.reduceAdd, fUA, lose, V.forget, V.drop1, V.ref0]
      rfl
theorem escQ_len (s : Bs) : (s.flatMap escQ).length ≤ 2 * s.length := by
  induction s with
  | nil => simp
  | cons c r ih =>
    have : (escQ c).length ≤ 2 := by unfold escQ; split <;> simp
    simp only [List.flatMap_cons, List.length_append, List.length_cons]
    omega
theorem ev_quoted (K : Cx) (s : Bs) (hs : s.length ≤ 100000000) (a : Bool) : q0o K f44 [.d a (.str s)] [] = some (.d false (.str (quoteS s)), [], []) := by
  have l0 := quoted_loop K s hs a s.length 0 [34] (by omega) (by simp) (by simp)
  simp only [Int.natCast_zero, List.drop_zero, List.map_cons, List.map_nil, List.length_cons, List.length_nil, eU_eq] at l0
  rw [show ((34 : UInt8).toNat : Int) = 34 from rfl] at l0
  have hq := escQ_len s
  generalize hl : [34] ++ s.flatMap escQ = l at l0
  have hll : l.length ≤ 200000001 := by rw [← hl, List.length_append, List.length_singleton]; omega
  have f34 : l.map eU ++ [[D.int .u8 34]] = (l ++ [34]).map eU := by simp [eU]
  have hb := b2s_bslU [(1, .dat true 1 [[D.int .u8 34]]), (0, .dat true 1 ((l ++ [34]).map eU))] 0 (l.length + 1) true (l ++ [34]) rfl (by simp)
  rw [show quoteS s = l ++ [34] by rw [← hl]; simp [quoteS]]
  simp (disch := first|decide|omega|(simp only [LN];first|done|omega)) only [SV, SW, f44, Nat.reduceBEq, Nat.reduceAdd, lose, l0, f34, V.forget, V.drop1, V.ref0, e_b2s, hb, q0b]

theorem eDg {a : Nat} (h : a ≤ 9) : eU (UInt8.ofNat (48 + a)) = [.int .u8 (48 + (a : Int))] := by
  have : a = 0 ∨ a = 1 ∨ a = 2 ∨ a = 3 ∨ a = 4 ∨ a = 5 ∨ a = 6 ∨ a = 7 ∨ a = 8 ∨ a = 9 := by omega
  rcases this with rfl | rfl | rfl | rfl | rfl | rfl | rfl | rfl | rfl | rfl <;> rfl
theorem w48d {a : Nat} (h : a ≤ 9) : IntKind.u8.wrap (48 + (a : Int)) = 48 + (a : Int) := by
  have : a = 0 ∨ a = 1 ∨ a = 2 ∨ a = 3 ∨ a = 4 ∨ a = 5 ∨ a = 6 ∨ a = 7 ∨ a = 8 ∨ a = 9 := by omega
  rcases this with rfl | rfl | rfl | rfl | rfl | rfl | rfl | rfl | rfl | rfl <;> decide
theorem dig_b2s {H : List (Nat × Blk)} {b : Nat} {m : Nat} (h : m ≤ 9) (hb : look H b = some (.dat true 1 [[.int .u8 (48 + (m : Int))]])) : z9O H (.bsl b 0 1) = some (.d false (.str [UInt8.ofNat (48 + m : Nat)])) :=
  b2s_bslU H b 1 true [UInt8.ofNat (48 + m)] (by rw [hb, List.map_cons, eDg h]; rfl) rfl
theorem digits_loop (K : Cx) : ∀ (k n : Nat) (s : Bs), n < 10 ^ (k + 1) → s.length + k ≤ 1000 → (n : Int) ≤ 9223372036854775807 →
    ∃ (m : Nat) (s' : Bs), m ≤ 9 ∧ lp K 0 [0, 3] f45_L0 ⟨[(0, .d false (.int .i64 n)), (3, .d false (.str s))], [], 0, []⟩ = some (.exit 0, ⟨[(0, .d false (.int .i64 m)), (3, .d false (.str s'))], [], 0, []⟩) ∧ UInt8.ofNat (48 + m) :: s' = Lib.decDigits n ++ s ∧ s'.length ≤ 1000 := by
  intro k
  induction k with
  | zero =>
    intro n s hn hs h64
    have hn : n ≤ 9 := by simp at hn; omega
    refine ⟨n, s, hn, ?_, by rw [Lib.decDigits, dif_pos (by omega)]; rfl, by omega⟩
    rw [q0I f45_L0.eq_1]
    simp (disch := first|decide|omega|(simp only [LN];first|done|omega)) only [SV, SW, Nat.reduceBEq]
  | succ k ih =>
    intro n s hk hs h64
    by_cases hn : n ≤ 9
    · refine ⟨n, s, hn, ?_, by rw [Lib.decDigits, dif_pos (by omega)]; rfl, by omega⟩
      rw [q0I f45_L0.eq_1]
      simp (disch := first|decide|omega|(simp only [LN];first|done|omega)) only [SV, SW, Nat.reduceBEq]
    · obtain ⟨m, s', h1, h2, h3, h4⟩ := ih (n / 10) (UInt8.ofNat (48 + n % 10) :: s) (by rw [Nat.pow_succ] at hk; omega) (by simp only [List.length_cons]; omega) (by omega)
      refine ⟨m, s', h1, ?_, by rw [h3]; conv => rhs; rw [Lib.decDigits, dif_neg (by omega)]
                                simp, h4⟩
      rw [← h2]
      clear ih h2 h3 h4 hk
      have a1 : (n : Int).tdiv 10 = ((n / 10 : Nat) : Int) := rfl
      have a2 : (n : Int).tmod 10 = ((n % 10 : Nat) : Int) := rfl
      have hm : n % 10 ≤ 9 := by omega
      have d1 := w48d hm
      have hb := dig_b2s (H := [(0, .dat true 1 [[.int .u8 (48 + ((n % 10 : Nat) : Int))]])]) (b := 0) hm rfl
      rw [q0I f45_L0.eq_1]
      simp (disch := first|decide|omega|(simp only [LN];first|done|omega)) only [SV, SW, Nat.reduceBEq, Int.reduceEq, a2, q9w, d1, e_b2s, hb, a1]
theorem decDigits_le : ∀ (k n : Nat), n < 10 ^ (k + 1) → (Lib.decDigits n).length ≤ k + 1
  | 0, n, h => by rw [Lib.decDigits, dif_pos (by simpa using h)]; simp
  | k + 1, n, h => by
    rw [Lib.decDigits]
    split
    · simp
    · have := decDigits_le k (n / 10) (by rw [Nat.pow_succ] at h; omega)
      simp only [List.length_append, List.length_singleton]; omega
theorem decDigits_len (n : Nat) (h : n ≤ 9223372036854775807) : (Lib.decDigits n).length ≤ 19 := decDigits_le 18 n (Nat.lt_of_le_of_lt h (by decide))
theorem ev_digits0 (K : Cx) (n : Nat) (hn : n ≤ 9223372036854775807) : q0o K f45 [.d false (.int .i64 n)] [] = some (.d false (.str (Lib.decDigits n)), [], []) := by
  obtain ⟨m, s', h1, h2, h3, h4⟩ := digits_loop K 18 n [] (Nat.lt_of_le_of_lt hn (by decide)) (by simp) (by omega)
  rw [List.append_nil] at h3
  rw [← h3]
  have d1 := w48d h1
  have hb := dig_b2s (H := [(0, .dat true 1 [[.int .u8 (48 + (m : Int))]])]) (b := 0) h1 rfl
  have hl : 1 + s'.length ≤ 4611686018427387904 := by omega
  clear h3 h4
  simp (disch := first|decide|omega|(simp only [LN];first|done|omega)) only [SV, SW, f45, Nat.reduceBEq, h2, q9w, d1, e_b2s, hb, q0b]
def KD (K : Cx) : Prop := ∀ n : Nat, n ≤ 9223372036854775807 → K.call 45 [.d false (.int .i64 n)] = some (.d false (.str (Lib.decDigits n)), [])
theorem ev_digits (K : Cx) (h : KD K) (n : Int) (h0 : -9223372036854775807 ≤ n) (h1 : n ≤ 9223372036854775807) : q0o K f45 [.d false (.int .i64 n)] [] = some (.d false (.str (Lib.itoa n)), [], []) := by
  unfold Lib.itoa
  by_cases hn : n < 0
  · rw [if_pos hn]
    have hc := h n.natAbs (by omega)
    have e : ((n.natAbs : Nat) : Int) = 0 - n := by omega
    rw [e] at hc
    have hl := decDigits_len n.natAbs (by omega)
    have hl2 : 1 + (Lib.decDigits n.natAbs).length ≤ 4611686018427387904 := by omega
    simp (disch := first|decide|omega|(simp only [LN];first|done|omega)) only [SV, SW, f45, Nat.reduceBEq, evUn, q0d, hc, q0b]
  · rw [if_neg hn]
    obtain ⟨k, rfl⟩ := Int.eq_ofNat_of_zero_le (show 0 ≤ n by omega)
    exact ev_digits0 K k (by omega)
end Go.Vm
end

section
namespace Go.Vm
open Go.RowKit
variable {P:Program}
def Cx.later(K:Cx)(ds:List Deferred):Cx:=⟨K.call,K.eff,K.glob,K.loc,ds⟩
theorem Cx.later_sound{K:Cx}(h:K.Sound P)(ds:List Deferred):(K.later ds).Sound P:=⟨h.1,h.2,h.3⟩
theorem z7i(K:Cx)(ds:List Deferred)(s:S):∀ e,ev (K.later ds) s e=ev K s e:=by
 intro e
 induction e <;> simp only[ev, *] <;> rfl
theorem StRel.later{K:Cx}{X:Nat→Nat→Prop}{base:Nat}{w0:World}{F0:Nat→Prop}{m:Nat}{σ0:Nat→Option Loc}{n:Nat}{s:S}{a a':Act}{w:World}{F:Nat→Prop}{σ:Nat→Option Loc}
  (h:StRel K X base w0 F0 m σ0 n s a w F σ) {ds:List Deferred} (hs:a'.tmps.size=n) (hd:a'.defers=ds) (ht:∀ t v,look s.rho t=some v→a'.tmps.getD t undef=a.tmps.getD t undef):StRel (K.later ds) X base w0 F0 m σ0 n s a' w F σ:=
 ⟨h.heap,h.glob,h.le,h.frame,h.frz,hs,hd,fun t v hv=>by rw[ht t v hv];exact h.rho t v hv,h.dom,h.stab,h.nxm,h.xm,h.sub⟩
theorem z4X{K:Cx}{fn:Func}{own:Bool}{res:List E}{m:Nat}{w w':World}{F F':Nat→Prop}{σ σ':Nat→Option Loc}{s:S}{a:Act}{vs:List V}{r:V}{news:List Blk}{mv:List Nat}
  (hres:mapO (resE P) fn.results.toList=some res) (hs:StRel K (OwnB σ) w.heap.size w F m σ fn.ntmps s a w' F' σ') (hvs:mapO (ev K s) res=some vs) (hfin:finish m own s (q0b vs)=some (r,news,mv)) :
  ∃ v,(results fn a.tmps).run P w'=.ok v w'∧∃ v' F' σ',Ending.returned v=.returned v'∧Frame (OwnB σ) w.heap.size w w'∧(∀ b,F b→F' b)∧(∀ b,F' b→F b∨w.heap.size≤b)∧
   RepV w' F' w.heap.size σ' v' r∧HeapRel w' F' (OwnB σ) w.heap.size σ' news.length (indexed news)∧∀ i l,i<m→σ i=some l→i∉mv→σ' i=some l:=by
 obtain⟨v,h1,h2⟩:=q4j hs hres hvs
 unfold finish at hfin
 simp only at hfin
 generalize (if own=true then q0N s.heap (refN s.heap+64) [] (List.range m++(q0b vs).refs) else List.range m)=bs at hfin
 split at hfin
 case isFalse=>cases hfin
 rename_i hc2
 simp only[Bool.and_eq_true,decide_eq_true_eq] at hc2
 obtain⟨hnd,hpre⟩:=hc2
 cases h3:finV (m==0) bs s.heap (q0b vs) with
 |none=>simp [h3] at hfin
 |some r'=>
  cases h4:mapO (finB (m==0) bs s.heap) bs with
  |none=>simp [h3,h4] at hfin
  |some news'=>
   simp only[h3,h4,Option.some.injEq,Prod.mk.injEq] at hfin
   obtain⟨rfl,rfl,rfl⟩:=hfin
   have hpin:∀ b,b<m→bs[b]? = some b:=fun b hb'=>by
    have:(bs.take m)[b]? = some b:=by rw[hpre];simp [hb']
    simpa [List.getElem?_take,hb'] using this
   have hX:∀ b k,OwnB σ b k→bs[b]? = some b:=fun b k hx=>hpin b (hs.xm b k hx)
   have hy:z2L (OwnB σ) w.heap.size bs σ':=by
    intro i l hl
    obtain⟨hni,hl'⟩:=q3Q hl
    rcases(hs.heap.own i l hl').2.2.1 with h|h
    ·exact h
    ·have:=List.mem_of_getElem? (hX i _ h)
     simp [this] at hni
   refine⟨v,h1,v,FZ F' bs σ',outs bs σ',rfl,hs.frame,fun b hb'=>.inl (hs.sub b hb'),fun b hb'=>?_,q7F hs.heap hy h3 h2,q9p hs.heap hy hnd hX h4,fun i l hi hl hm'=>?_⟩
   ·rcases hb' with hb'|⟨i,l,hl,rfl⟩
    ·exact hs.frz b hb'
    ·exact .inr (hy i l hl)
   ·unfold outs
    rw[hpin i hi]
    exact hs.stab i l hi hl (fun hc=>hm' (List.mem_filter.2 ⟨List.mem_range.2 hi,by simpa [List.contains_eq_mem] using hc⟩))
def z62(k G:Nat)(cap:List Nat):Code→Bool
 |.region _ ops draw=>!draw&&match ops.toList with
  |[o,p]=>o.dst==some k&&o.guard.isNone&&p.dst==none&&p.guard.isNone &&
   (match o.op with|.makeFunc (.func g) f c=>g==G&&f.toList.isEmpty&&decide (c.toList.map (fun x=>match x with|.tmp t=>some t|_=>none)=cap.map some)|_=>false) &&
   (match p.op with|.defer c=>c.args.toList.isEmpty&&(match c.callee with|.value (.tmp t)=>t==k|_=>false)|_=>false)
  |_=>false
 |_=>false
theorem z8F{l:List Operand}{cap:List Nat}(h:l.map (fun x=>match x with|.tmp t=>some t|_=>none)=cap.map some):l=cap.map Operand.tmp:=by
 induction l generalizing cap with
 |nil=>cases cap <;> simp_all
 |cons x l ih=>
  cases cap with
  |nil=>simp at h
  |cons t cap=>
   simp only[List.map_cons,List.cons.injEq] at h
   rw[ih h.2]
   cases x <;> simp_all
theorem j0s{k G:Nat}{cap:List Nat}{code:Code}(h:z62 k G cap code=true){Q:Exit→Act→World→Prop}{a:Act}{w:World}(hk:k<a.tmps.size)
  (hQ:Q .normal { tmps:=a.tmps.setIfInBounds k (.func (.func G) #[] (cap.map fun t=>a.tmps.getD t undef).toArray),defers:={ target:=.fn (.func G) (cap.map fun t=>a.tmps.getD t undef).toArray,args:=#[] } :: a.defers } w):code.wp P Q a w:=by
 cases code with
 |region id ops draw=>
  simp only[z62,Bool.and_eq_true,Bool.not_eq_true'] at h
  obtain⟨rfl,h⟩:=h
  split at h
  ·rename_i o p hops
   simp only[Bool.and_eq_true,beq_iff_eq,Option.isNone_iff_eq_none] at h
   obtain⟨⟨⟨⟨⟨h1,h2⟩,h3⟩,h4⟩,h5⟩,h6⟩:=h
   obtain⟨od,oo,ot,op,oa,og⟩:=o
   obtain⟨pd,po,pt,pp,pa,pg⟩:=p
   simp only at h1 h2 h3 h4 h5 h6
   subst h1;subst h2;subst h3;subst h4
   split at h5
   case h_2=>cases h5
   rename_i g f c
   simp only[Bool.and_eq_true,beq_iff_eq,List.isEmpty_iff,decide_eq_true_eq] at h5
   obtain⟨⟨rfl,hf⟩,hc⟩:=h5
   have hc:=z8F hc
   obtain⟨c⟩:=c
   obtain⟨f⟩:=f
   simp only at hf hc
   subst hf;subst hc
   split at h6
   case h_2=>cases h6
   rename_i d
   obtain⟨dc,da,dt⟩:=d
   simp only[Bool.and_eq_true,List.isEmpty_iff] at h6
   obtain⟨h7,h8⟩:=h6
   split at h8
   case h_2=>cases h8
   rename_i t
   simp only[beq_iff_eq] at h8
   subst h8
   obtain⟨da⟩:=da
   simp only at h7
   subst h7
   obtain⟨ops⟩:=ops
   simp only at hops
   subst hops
   refine wp_region ?_
   have hmf:∀(fn:Fn) (first cap:Array Value) (w:World),(Instr.makeFunc fn first cap).run P w=.ok (.func fn first cap) w:=fun _ _ _ _=>rfl
   have e:a.eval ∘ Operand.tmp=fun t=>a.tmps.getD t undef:=rfl
   simp only[List.size_toArray,List.length_cons,List.length_nil,List.range_succ,List.range_zero,List.nil_append,List.cons_append]
   simp [wpOps,Region.wanted,Oper.wp,Oper.upon,execOp,Act.put,Act.eval,resolve,Deferred.ofValue,go_sem,hmf,hk,e]
   left
   left
   simpa using hQ
  ·cases h
 |_=>simp [z62] at h
structure DfrF where
 c0:C
 ca:C
 cb:C
 res:List E
 k:Nat
 G:Nat
 cap:List Nat
def z7D(P:Program)(f:FuncId)(n:Nat)(g:DfrF):Bool:=match P.funcs[f]? with
 |some fn=>match fn.body with
  |some (.seq c0 (.seq ca (.seq r cb)))=>chk P 0 fn.ntmps g.c0 c0&&chk P 0 fn.ntmps g.ca ca&&z62 g.k g.G g.cap r&&decide (g.k<fn.ntmps)&&chk P 0 fn.ntmps g.cb cb &&
    decide (mapO (resE P) fn.results.toList=some g.res)&&decide (n≤fn.ntmps)&&(fn.name != "runtime.NumGoroutine")&&q0p P g.G
  |_=>false
 |none=>false
inductive DfrRun(K:Cx)(g:DfrF)(args:List V)(r:V)(news:List Blk):Prop where
 |early (s0 s1:S) (vs:List V) (mv:List Nat) (h0:exec K g.c0 (startS args [])=some (.nrm,s0)) (h1:exec K g.ca s0=some (.ret,s1)) (hv:mapO (ev K s1) g.res=some vs) (hf:finish 0 false s1 (q0b vs)=some (r,news,mv))
 |late (s0 s1:S) (h0:exec K g.c0 (startS args [])=some (.nrm,s0)) (h1:exec K g.ca s0=some (.nrm,s1)) (hk:look s1.rho g.k=none) (h2:∀ ds,∃ s2 vs mv,exec (K.later ds) g.cb s1=some (.ret,s2)∧mapO (ev (K.later ds) s2) g.res=some vs∧finish 0 false s2 (q0b vs)=some (r,news,mv))
def z90(P:Program)(G n:Nat):Prop:=∀(cap:Array Value)(w:World),cap.size=n→CallsD P G cap .returning w fun e u' w'=>u'=.returning∧e=.returned (.tuple #[])∧w'=w
theorem q6Z(hm:P.follows .mixedOrders=true){K:Cx}(hK:K.Sound P){f:FuncId}{g:DfrF}{args:List V}{r:V}{news:List Blk}(hok:z7D P f args.length g=true)(hq:z90 P g.G g.cap.length)(hr:DfrRun K g args r news)(hd0:K.dfr=[]:=by rfl) :
  q0p P f=true∧q1f P K.glob f args r news:=by
 unfold z7D at hok
 cases hf:P.funcs[f]? with
 |none=>simp [hf] at hok
 |some fn=>
  simp only[hf] at hok
  split at hok
  case h_2=>cases hok
  rename_i c0 ca rg cb hb
  simp only[Bool.and_eq_true,decide_eq_true_eq] at hok
  obtain⟨⟨⟨⟨⟨⟨⟨⟨k0,ka⟩,kr⟩,kk⟩,kb⟩,hres⟩,hn⟩,hname⟩,hG⟩:=hok
  refine⟨by simp [q0p,hf,hb,hname],fun w F vals hF hGl hargs=>?_⟩
  have hX:∀ b k,¬ OwnB (fun _=>none) b k:=by rintro b k ⟨l,h,_⟩;cases h
  have hH:HeapRel w F (OwnB fun _=>none) w.heap.size (fun _=>none) ([]:List Blk).length (indexed []):=⟨fun b blk h=>by simp [indexed,look] at h,fun b b' l l' h=>(by cases h),fun b l h=>(by cases h),hF⟩
  refine calls_of_wp_defers hf hb ?_
  have hst:StRel K (OwnB fun _=>none) w.heap.size w F 0 (fun _=>none) fn.ntmps (startS args []) { tmps:=vals++Array.replicate (fn.ntmps - vals.size) undef,defers:=[] } w F (fun _=>none):=by
   refine⟨hH,hGl,Nat.le_refl _,.refl _ _ _,fun b hb=>.inl hb,?_,hd0.symm,fun t v hv=>?_,fun b blk h=>?_,fun _ _ _ h _=>h,Nat.le_refl _,fun b k hx=>?_,fun _ h=>h⟩
   ·have:=hargs.1
    simp;omega
   ·obtain⟨_,hv'⟩:=q9d args 0 t v hv
    rw[Nat.sub_zero] at hv'
    have ht:t<vals.size:=by rw[hargs.1];exact(List.getElem?_eq_some_iff.1 hv').1
    have hget:(vals++Array.replicate (fn.ntmps - vals.size) undef).getD t undef=vals[t]:=by
     rw[Array.getD_eq_getD_getElem?,Array.getElem?_append_left ht]
     simp [ht]
    show RepV w F w.heap.size _ ((vals++Array.replicate (fn.ntmps - vals.size) undef).getD t undef) v
    rw[hget]
    exact hargs.2 t _ v (by simp [ht]) hv'
   ·simp [startS,indexed,look] at h
   ·exact absurd hx (hX b k)
  have shut:∀(s:S) (a:Act) (w':World) (F':Nat→Prop) (σ':Nat→Option Loc) (vs:List V) (mv:List Nat) (K1:Cx),StRel K1 (OwnB fun _=>none) w.heap.size w F 0 (fun _=>none) fn.ntmps s a w' F' σ'→mapO (ev K1 s) g.res=some vs→finish 0 false s (q0b vs)=some (r,news,mv)→
    ∃ v,(results fn a.tmps).run P w'=.ok v w'∧(∃ v' F' σ',Ending.returned v=.returned v'∧Below w.heap.size w w'∧(∀ b,F' b→F b∨w.heap.size≤b)∧
     RepV w' F' w.heap.size σ' v' r∧HeapRel w' F' (fun _ _=>False) w.heap.size σ' news.length (indexed news)):=by
   intro s a w' F' σ' vs mv K1 hs hvs hfin
   obtain⟨v,h1,v',F'',σ'',he,hfr,_,hF',hR,hHr,_⟩:=z4X hres hs hvs hfin
   refine⟨v,h1,v',F'',σ'',he,⟨hfr.os,hfr.tape,hfr.output,hfr.size,fun k hk=>hfr.block k hk (fun b=>hX b k)⟩,hF',hR,⟨hHr.blk,hHr.inj,fun b l hb=>?_,hHr.fro⟩⟩
   obtain⟨o1,o2,o3,o4⟩:=hHr.own b l hb
   exact⟨o1,o2,o3.imp id (fun hx=>hX b _ hx),o4⟩
  have hev:∀ ds (s:S),mapO (ev (K.later ds) s) g.res=mapO (ev K s) g.res:=fun ds s=>by
   have:ev (K.later ds) s=ev K s:=funext fun e=>z7i K ds s e
   rw[this]
  cases hr with
  |early s0 s1 vs mv h0 h1 hv hfn=>
   refine wp_seq (wp_mono (q10 hm hK g.c0 c0 _ _ _ _ _ _ k0 h0 hst) fun e a w1 hp=>?_)
   obtain⟨rfl,F1,σ1,hs1⟩:=hp
   refine wp_seq (wp_mono (q10 hm hK g.ca ca _ _ _ _ _ _ ka h1 hs1) fun e a w2 hp=>?_)
   obtain⟨rfl,F2,σ2,hs2⟩:=hp
   obtain⟨v,q1,q2⟩:=shut s1 a w2 F2 σ2 vs mv K hs2 hv hfn
   show Leaves P fn a.tmps _ a.defers .returning w2
   rw[hs2.dfr,hd0]
   exact⟨v,q1,q2⟩
  |late s0 s1 h0 h1 hk h2=>
   refine wp_seq (wp_mono (q10 hm hK g.c0 c0 _ _ _ _ _ _ k0 h0 hst) fun e a w1 hp=>?_)
   obtain⟨rfl,F1,σ1,hs1⟩:=hp
   refine wp_seq (wp_mono (q10 hm hK g.ca ca _ _ _ _ _ _ ka h1 hs1) fun e a w2 hp=>?_)
   obtain⟨rfl,F2,σ2,hs2⟩:=hp
   refine wp_seq (j0s kr (by rw[hs2.size];exact kk) ?_)
   have hdf:a.defers=[]:=hs2.dfr.trans hd0
   rw[hdf]
   generalize hcap:(g.cap.map fun t=>a.tmps.getD t undef).toArray=cap
   have hcs:cap.size=g.cap.length:=by rw[←hcap];simp
   have hs3:StRel (K.later [{ target:=.fn (.func g.G) cap,args:=#[] }]) (OwnB fun _=>none) w.heap.size w F 0 (fun _=>none) fn.ntmps s1 { tmps:=a.tmps.setIfInBounds g.k (.func (.func g.G) #[] cap),defers:=[{ target:=.fn (.func g.G) cap,args:=#[] }] } w2 F2 σ2:=
    hs2.later (by simp [hs2.size]) rfl fun t v ht=>by
     have hne:t≠g.k:=by rintro rfl;rw[hk] at ht;cases ht
     simp only[Array.getD_eq_getD_getElem?]
     rw[Array.getElem?_setIfInBounds_ne (by omega)]
   obtain⟨s2,vs,mv,h2,hv,hfn⟩:=h2 [{ target:=.fn (.func g.G) cap,args:=#[] }]
   refine wp_mono (q10 hm (Cx.later_sound hK _) g.cb cb _ _ _ _ _ _ kb h2 hs3) fun e a3 w3 hp=>?_
   obtain⟨rfl,F3,σ3,hs4⟩:=hp
   obtain⟨v,q1,q2⟩:=shut s2 a3 w3 F3 σ3 vs mv _ hs4 hv hfn
   show Leaves P fn a3.tmps _ a3.defers .returning w3
   rw[hs4.dfr]
   refine leaves_cons (f:=g.G) (args:=cap) (by simp) ?_ ((hq cap w3 hcs).mono ?_)
   ·have:=q5k (w:=w3) hG cap
    simpa [invoke] using this
   ·rintro e u' w4 ⟨rfl,rfl,rfl⟩
    exact⟨v,q1,q2⟩
end Go.Vm
end

section
namespace Go.Vm
open Go.Proofs
theorem z8V:z90 Tryz.prog 59 2:=by
 intro cap w hcap
 obtain⟨l⟩:=cap
 match l,hcap with
 |[p,q],_=>
  refine(callsD_of_wpS (R:=fun e u' w'=>u'=.returning∧e=.returned (.tuple #[])∧w'=w) Tryz.func59 rfl fun c₀ cs hu=>?_)
  apply wpS_seq
  apply wpS_region
  simp [wpOpsS,go_sem,recoverD,hu,Tryz.ntmps59,Exit.thenS]
  apply wpS_seq
  apply wpS_region
  simp [wpOpsS,go_sem,recoverD,hu,Tryz.ntmps59,Exit.thenS]
  refine wpS_cond (t:=false) (by simp [Act.eval,Array.replicate]) ?_
  simp only[Bool.false_eq_true,if_false]
  refine wpS_of_wp (wp_skip ?_)
  cases c₀
  simp_all [bodyPostS,results,Tryz.results59]
theorem z3V:z90 Tryz.prog 76 2:=by
 intro cap w hcap
 obtain⟨l⟩:=cap
 match l,hcap with
 |[p,q],_=>
  refine(callsD_of_wpS (R:=fun e u' w'=>u'=.returning∧e=.returned (.tuple #[])∧w'=w) Tryz.func76 rfl fun c₀ cs hu=>?_)
  apply wpS_seq
  apply wpS_region
  simp [wpOpsS,go_sem,recoverD,hu,Tryz.ntmps76,Exit.thenS]
  apply wpS_seq
  apply wpS_region
  simp [wpOpsS,go_sem,recoverD,hu,Tryz.ntmps76,Exit.thenS]
  refine wpS_cond (t:=false) (by simp [Act.eval,Array.replicate]) ?_
  simp only[Bool.false_eq_true,if_false]
  refine wpS_of_wp (wp_skip ?_)
  cases c₀
  simp_all [bodyPostS,results,Tryz.results76]
end Go.Vm
end

section
namespace Go.Vm
set_option maxRecDepth 100000
/- 'sloth/code.Check' -/
def f13_L0:C:= (.seq (.reg [⟨[],[(20,(.bin .lss (.sl 19) (.sl 18)))],[],none,[1,3,17,18,19],1,[],[],[]⟩]) (.seq (.cond (.sl 20) .skip (.seq (.tidy 0 [1,3]) (.exit 0))) (.seq (.block 1 (.seq (.reg [⟨[(5,.box (.agg (.cons (.str []) (.cons (.int .i64 0) .nil))))],[],[],some (none,.store 2 (.sl 5) (.ld 2 true (.ia 2 (.sl 17) (.sl 19)))),[1,3,5,17,18,19],4,[],[],[]⟩]) (.seq (.seq (.reg [⟨[],[(43,(.or (.or (.or (.un .not (.call 35 (.cons (.ld 1 false (.fa 0 (.sl 5))) .nil))) (.bin .gtr (.lkp false 2 (.int .i64 0) (.sl 3) (.ld 1 false (.fa 0 (.sl 5)))) (.int .i64 0))) (.bin .lss (.ld 1 false (.fa 1 (.sl 5))) (.int .i64 0))) (.bin .gtr (.ld 1 false (.fa 1 (.sl 5))) (.int .i64 8))))],[],none,[1,3,5,17,18,19],21,[],[],[]⟩]) (.cond (.sl 43) (.seq (.reg [⟨[],[(2,(.int .i64 172))],[],none,[],1,[],[],[]⟩]) (.seq (.tidy 0 [2]) .ret)) .skip)) (.reg [⟨[],[],[],some (none,.mset 2 (.sl 3) (.ld 1 false (.fa 0 (.sl 5))) (.int .i64 1)),[1,3,17,18,19],4,[],[],[]⟩])))) (.reg [⟨[],[(19,(.bin .add (.sl 19) (.int .i64 1)))],[],none,[1,3,17,18],2,[],[],[]⟩]))))
def f13_L1:C:= (.seq (.reg [⟨[],[(51,(.bin .lss (.sl 50) (.sl 49)))],[],none,[1,3,48,49,50],1,[],[],[]⟩]) (.seq (.cond (.sl 51) .skip (.seq (.tidy 0 [1,3]) (.exit 2))) (.seq (.block 3 (.seq (.reg [⟨[(7,.box (.agg (.cons (.str []) (.cons (.int .i64 0) .nil))))],[(6,(.sl 50))],[],some (none,.store 2 (.sl 7) (.ld 2 true (.ia 2 (.sl 48) (.sl 50)))),[1,3,7,48,49,50],6,[],[],[]⟩]) (.seq (.reg [⟨[],[(68,(.or (.bin .geq (.sl 6) (.len false (.ld 1 false (.fa 0 (.sl 1))))) (.eqs true true [2,0] (.ld 2 true (.ia 2 (.ld 1 false (.fa 0 (.sl 1))) (.sl 6))) (.ld 2 true (.sl 7)))))],[],none,[1,3,48,49,50],14,[[],[],[1],[1,2],[2,1,3,0],[0,3,1,2,4],[4,2,1,3,0,5],[5,0,3,1,2,4,6],[4,2,1,3,0,5],[8,6,4,2,1,3,0,5,7],[7,5,0,3,1,2,4,6,8,9],[4,2,1,3,0,5],[11,9,8,6,4,2,1,3,0,5,7,10],[10,7,6,8,9,11,12,4,2,1,3,0,5]],[],[]⟩]) (.cond (.sl 68) (.seq (.reg [⟨[],[(2,(.int .i64 172))],[],none,[],1,[],[],[]⟩]) (.seq (.tidy 0 [2]) .ret)) .skip)))) (.reg [⟨[],[(50,(.bin .add (.sl 50) (.int .i64 1)))],[],none,[1,3,48,49],2,[],[],[]⟩]))))
def f13_L2:C:= (.seq (.reg [⟨[],[(75,(.bin .lss (.sl 74) (.sl 73)))],[],none,[1,3,72,73,74],1,[],[],[]⟩]) (.seq (.cond (.sl 75) .skip (.seq (.tidy 0 [1]) (.exit 4))) (.seq (.block 5 (.seq (.reg [⟨[(9,.box (.agg (.cons (.str []) (.cons (.int .i64 0) (.cons (.nilsl 3) .nil)))))],[],[],some (none,.store 3 (.sl 9) (.ld 3 true (.ia 3 (.sl 72) (.sl 74)))),[1,3,9,72,73,74],4,[],[],[]⟩]) (.seq (.seq (.reg [⟨[],[(98,(.or (.or (.or (.un .not (.call 35 (.cons (.ld 1 false (.fa 0 (.sl 9))) .nil))) (.bin .gtr (.lkp false 2 (.int .i64 0) (.sl 3) (.ld 1 false (.fa 0 (.sl 9)))) (.int .i64 0))) (.bin .lss (.ld 1 false (.fa 1 (.sl 9))) (.int .i64 0))) (.bin .gtr (.ld 1 false (.fa 1 (.sl 9))) (.int .i64 24))))],[],none,[1,3,9,72,73,74],21,[],[],[]⟩]) (.cond (.sl 98) (.seq (.reg [⟨[],[(2,(.int .i64 172))],[],none,[],1,[],[],[]⟩]) (.seq (.tidy 0 [2]) .ret)) .skip)) (.reg [⟨[],[],[],some (none,.mset 2 (.sl 3) (.ld 1 false (.fa 0 (.sl 9))) (.int .i64 1)),[1,3,72,73,74],4,[],[],[]⟩])))) (.reg [⟨[],[(74,(.bin .add (.sl 74) (.int .i64 1)))],[],none,[1,3,72,73],2,[],[],[]⟩]))))
def f13_L3:C:= (.seq (.reg [⟨[],[(107,(.bin .lss (.sl 106) (.sl 105)))],[],none,[1,104,105,106],1,[],[],[]⟩]) (.seq (.cond (.sl 107) .skip (.seq (.tidy 0 []) (.exit 6))) (.seq (.block 7 (.seq (.reg [⟨[(11,.box (.agg (.cons (.str []) (.cons (.int .i64 0) (.cons (.nilsl 3) .nil)))))],[],[],some (none,.store 3 (.sl 11) (.ld 3 true (.ia 3 (.sl 104) (.sl 106)))),[1,11,104,105,106],4,[],[],[]⟩]) (.seq (.reg [⟨[],[(12,(.call 37 (.cons (.ld 2 true (.sl 1)) (.cons (.ld 3 true (.sl 11)) .nil))))],[],none,[1,104,105,106],4,[],[],[]⟩]) (.seq (.reg [⟨[],[(114,(.bin .neq (.sl 12) (.int .i64 0)))],[],none,[1,12,104,105,106],2,[],[],[]⟩]) (.cond (.sl 114) (.seq (.reg [⟨[],[(2,(.sl 12))],[],none,[],2,[],[],[]⟩]) (.seq (.tidy 0 [2]) .ret)) .skip))))) (.reg [⟨[],[(106,(.bin .add (.sl 106) (.int .i64 1)))],[],none,[1,104,105],2,[],[],[]⟩]))))
def f13:Fun:=⟨ (.seq (.reg [⟨[(1,.box (.sl 0))],[],[(.int .i64 0)],none,[1],2,[],[],[]⟩]) (.seq (.seq (.reg [⟨[],[(14,(.call 34 (.cons (.ld 2 true (.sl 1)) .nil)))],[],none,[1],2,[],[],[]⟩]) (.cond (.sl 14) (.seq (.reg [⟨[],[(2,(.int .i64 4))],[],none,[],1,[],[],[]⟩]) (.seq (.tidy 0 [2]) .ret)) .skip)) (.seq (.reg [⟨[(15,.mkm)],[(3,(.sl 15))],[],none,[1],2,[],[],[]⟩]) (.seq (.seq (.reg [⟨[],[(17,(.ld 1 false (.fa 0 (.sl 1)))),(18,(.len false (.ld 1 false (.fa 0 (.sl 1))))),(19,(.int .i64 0))],[],none,[1,3],4,[],[],[]⟩]) (.block 0 (.seq (.tidy 0 [1,3,17,18,19]) (.loop (.seq (.tidy 0 [1,3,17,18,19]) f13_L0))))) (.seq (.seq (.reg [⟨[(48,.callo 36 .nil)],[(49,(.len false (.sl 48))),(50,(.int .i64 0))],[],none,[1,3,48],3,[],[],[]⟩]) (.block 2 (.seq (.tidy 0 [1,3,48,49,50]) (.loop (.seq (.tidy 0 [1,3,48,49,50]) f13_L1))))) (.seq (.reg [⟨[],[],[],some (none,.mclr (.sl 3)),[1,3],2,[],[],[]⟩]) (.seq (.seq (.reg [⟨[],[(72,(.ld 1 false (.fa 1 (.sl 1)))),(73,(.len false (.ld 1 false (.fa 1 (.sl 1))))),(74,(.int .i64 0))],[],none,[1,3],4,[],[],[]⟩]) (.block 4 (.seq (.tidy 0 [1,3,72,73,74]) (.loop (.seq (.tidy 0 [1,3,72,73,74]) f13_L2))))) (.seq (.seq (.reg [⟨[],[(104,(.ld 1 false (.fa 1 (.sl 1)))),(105,(.len false (.ld 1 false (.fa 1 (.sl 1))))),(106,(.int .i64 0))],[],none,[1],4,[],[],[]⟩]) (.block 6 (.seq (.tidy 0 [1,104,105,106]) (.loop (.seq (.tidy 0 [1,104,105,106]) f13_L3))))) (.seq (.reg [⟨[],[(2,(.int .i64 0))],[],none,[],1,[],[],[]⟩]) (.seq (.tidy 0 [2]) .ret)))))))))), [(.sl 2)],false⟩
theorem j1G:q0J Go.Proofs.Tryz.prog 13 0 1 f13=true:=by kernel_rfl
/- 'sloth/code.great' -/
def f34_L0:C:= (.seq (.reg [⟨[],[(10,(.bin .lss (.sl 9) (.sl 8)))],[],none,[1,3,7,8,9],1,[],[],[]⟩]) (.seq (.cond (.sl 10) .skip (.seq (.tidy 0 [1,3]) (.exit 0))) (.seq (.block 1 (.seq (.reg [⟨[(5,.box (.agg (.cons (.str []) (.cons (.int .i64 0) (.cons (.nilsl 3) .nil)))))],[],[],some (none,.store 3 (.sl 5) (.ld 3 true (.ia 3 (.sl 7) (.sl 9)))),[1,3,5,7,8,9],4,[],[],[]⟩]) (.seq (.reg [⟨[],[(3,(.bin .add (.sl 3) (.len false (.ld 1 false (.fa 2 (.sl 5))))))],[],none,[1,5,7,8,9],6,[],[],[]⟩]) (.seq (.reg [⟨[],[(21,(.bin .gtr (.len false (.ld 1 false (.fa 2 (.sl 5)))) (.int .i64 8000)))],[],none,[1,3,7,8,9],4,[],[],[]⟩]) (.cond (.sl 21) (.seq (.reg [⟨[],[(2,(.bool true))],[],none,[],1,[],[],[]⟩]) (.seq (.tidy 0 [2]) .ret)) .skip))))) (.reg [⟨[],[(9,(.bin .add (.sl 9) (.int .i64 1)))],[],none,[1,3,7,8],2,[],[],[]⟩]))))
def f34:Fun:=⟨ (.seq (.reg [⟨[(1,.box (.sl 0))],[],[(.bool false)],none,[1],2,[],[],[]⟩]) (.seq (.reg [⟨[],[(3,(.int .i64 0))],[],none,[1],1,[],[],[]⟩]) (.seq (.seq (.reg [⟨[],[(7,(.ld 1 false (.fa 1 (.sl 1)))),(8,(.len false (.ld 1 false (.fa 1 (.sl 1))))),(9,(.int .i64 0))],[],none,[1,3],4,[],[],[]⟩]) (.block 0 (.seq (.tidy 0 [1,3,7,8,9]) (.loop (.seq (.tidy 0 [1,3,7,8,9]) f34_L0))))) (.seq (.reg [⟨[],[(2,(.or (.or (.bin .gtr (.len false (.ld 1 false (.fa 0 (.sl 1)))) (.int .i64 2000)) (.bin .gtr (.len false (.ld 1 false (.fa 1 (.sl 1)))) (.int .i64 2000))) (.bin .gtr (.sl 3) (.int .i64 200000))))],[],none,[],15,[],[],[]⟩]) (.seq (.tidy 0 [2]) .ret))))), [(.sl 2)],false⟩
theorem j1s:q0J Go.Proofs.Tryz.prog 34 0 1 f34=true:=by kernel_rfl
/- 'sloth/code.isName' -/
def f35_L0:C:= (.seq (.reg [⟨[],[(7,(.bin .lss (.sl 6) (.sl 5)))],[],none,[0,5,6],1,[],[],[]⟩]) (.seq (.cond (.sl 7) .skip (.seq (.tidy 0 [0]) (.exit 0))) (.seq (.block 1 (.seq (.reg [⟨[],[(3,(.sl 6))],[],none,[0,5,6],2,[],[],[]⟩]) (.seq (.reg [⟨[],[(18,(.or (.bin .lss (.ix (.sl 0) (.sl 3)) (.int .u8 32)) (.bin .gtr (.ix (.sl 0) (.sl 3)) (.int .u8 126))))],[],none,[0,5,6],10,[],[],[]⟩]) (.cond (.sl 18) (.seq (.reg [⟨[],[(2,(.bool false))],[],none,[],1,[],[],[]⟩]) (.seq (.tidy 0 [2]) .ret)) .skip)))) (.reg [⟨[],[(6,(.bin .add (.sl 6) (.int .i64 1)))],[],none,[0,5],2,[],[],[]⟩]))))
def f35:Fun:=⟨ (.seq (.reg [⟨[],[],[(.bool false)],none,[0],1,[],[],[]⟩]) (.seq (.seq (.reg [⟨[],[(5,(.len true (.sl 0))),(6,(.int .i64 0))],[],none,[0],3,[],[],[]⟩]) (.block 0 (.seq (.tidy 0 [0,5,6]) (.loop (.seq (.tidy 0 [0,5,6]) f35_L0))))) (.seq (.reg [⟨[],[(2,(.and (.bin .geq (.len true (.sl 0)) (.int .i64 1)) (.bin .leq (.len true (.sl 0)) (.int .i64 4096))))],[],none,[],9,[],[],[]⟩]) (.seq (.tidy 0 [2]) .ret)))), [(.sl 2)],false⟩
theorem j1r:q0J Go.Proofs.Tryz.prog 35 0 1 f35=true:=by kernel_rfl
/- 'sloth/code.given' -/
def f36:Fun:=⟨ (.seq (.reg [⟨[],[],[(.nilsl 2)],none,[],1,[],[],[]⟩]) (.seq (.reg [⟨[(8,.lits 2 (.cons (.set 0 1 (.str [70,97,108,115,101]) (.agg (.cons (.str []) (.cons (.int .i64 0) .nil)))) (.cons (.set 0 1 (.str [84,114,117,101]) (.agg (.cons (.str []) (.cons (.int .i64 0) .nil)))) (.cons (.set 0 1 (.str [85,110,105,116]) (.agg (.cons (.str []) (.cons (.int .i64 0) .nil)))) (.cons (.set 0 1 (.str [78,105,108]) (.agg (.cons (.str []) (.cons (.int .i64 0) .nil)))) (.cons (.set 1 1 (.int .i64 2) (.set 0 1 (.str [67,111,110,115]) (.agg (.cons (.str []) (.cons (.int .i64 0) .nil))))) (.cons (.set 1 1 (.int .i64 2) (.set 0 1 (.str [80,97,105,114]) (.agg (.cons (.str []) (.cons (.int .i64 0) .nil))))) (.cons (.set 1 1 (.int .i64 3) (.set 0 1 (.str [84,114,105,112,108,101]) (.agg (.cons (.str []) (.cons (.int .i64 0) .nil))))) .nil))))))))],[(0,(.sl 8))],[],none,[],9,[],[],[]⟩]) (.seq (.tidy 0 [0]) .ret))), [(.sl 0)],true⟩
theorem j1q:q0J Go.Proofs.Tryz.prog 36 0 0 f36=true:=by kernel_rfl
/- 'sloth/code.checkCode' -/
def f37_L0:C:= (.seq (.reg [⟨[],[(23,(.bin .lss (.sl 22) (.sl 21)))],[],none,[2,3,20,21,22],1,[],[],[]⟩]) (.seq (.cond (.sl 23) .skip (.seq (.tidy 0 [2,3]) (.exit 0))) (.seq (.block 1 (.seq (.reg [⟨[(6,.box (.agg (.cons (.int .i64 0) (.cons (.int .i64 0) (.cons (.int .i64 0) .nil)))))],[(5,(.sl 22))],[],some (none,.store 3 (.sl 6) (.ld 3 true (.ia 3 (.sl 20) (.sl 22)))),[2,3,6,20,21,22],6,[],[],[]⟩]) (.seq (.reg [⟨[(7,.box (.agg (.cons (.str []) (.cons (.int .i64 0) (.cons (.int .i64 0) .nil)))))],[(32,(.ext 1 (.call 79 (.cons (.ld 1 false (.fa 0 (.sl 6))) .nil))))],[],some (none,.store 3 (.sl 7) (.ext 0 (.call 79 (.cons (.ld 1 false (.fa 0 (.sl 6))) .nil)))),[2,3,5,6,7,20,21,22],8,[],[],[]⟩,⟨[],[(8,(.sl 32))],[],none,[2,3,5,6,7,20,21,22],1,[],[],[]⟩]) (.seq (.seq (.reg [⟨[],[(34,(.un .not (.sl 8)))],[],none,[2,3,5,6,7,20,21,22],2,[],[],[]⟩]) (.cond (.sl 34) (.seq (.reg [⟨[],[(4,(.int .i64 172))],[],none,[],1,[],[],[]⟩]) (.seq (.tidy 0 [4]) .ret)) .skip)) (.seq (.reg [⟨[],[(9,(.call 80 (.cons (.ld 2 true (.sl 2)) (.cons (.ld 3 true (.sl 3)) (.cons (.sl 5) (.cons (.ld 1 false (.fa 1 (.sl 6))) (.cons (.ld 1 false (.fa 1 (.sl 7))) .nil))))))),(10,(.call 80 (.cons (.ld 2 true (.sl 2)) (.cons (.ld 3 true (.sl 3)) (.cons (.sl 5) (.cons (.ld 1 false (.fa 2 (.sl 6))) (.cons (.ld 1 false (.fa 2 (.sl 7))) .nil)))))))],[],none,[2,3,20,21,22],18,[[],[],[],[],[3],[],[5],[5,6,3,4,2,1,0],[],[],[],[],[11],[],[13],[0,1,2,4,3,6,5,7,13,14,11,12,10,9,8],[8,9,10,12,11,14,13,15,0,1,2,4,3,6,5,7],[16,8,9,10,12,11,14,13,7,5,6,3,4,2,1,0,15]],[],[]⟩]) (.seq (.seq (.reg [⟨[],[(56,(.or (.bin .eql (.sl 9) (.int .i64 172)) (.bin .eql (.sl 10) (.int .i64 172))))],[],none,[2,3,9,10,20,21,22],6,[],[],[]⟩]) (.cond (.sl 56) (.seq (.reg [⟨[],[(4,(.int .i64 172))],[],none,[],1,[],[],[]⟩]) (.seq (.tidy 0 [4]) .ret)) .skip)) (.seq (.reg [⟨[],[(62,(.or (.bin .neq (.sl 9) (.int .i64 0)) (.bin .neq (.sl 10) (.int .i64 0))))],[],none,[2,3,20,21,22],6,[],[],[]⟩]) (.cond (.sl 62) (.seq (.reg [⟨[],[(4,(.int .i64 174))],[],none,[],1,[],[],[]⟩]) (.seq (.tidy 0 [4]) .ret)) .skip)))))))) (.reg [⟨[],[(22,(.bin .add (.sl 22) (.int .i64 1)))],[],none,[2,3,20,21],2,[],[],[]⟩]))))
def f37_L1:C:= (.seq (.reg [⟨[],[(81,(.bin .lss (.sl 80) (.sl 79)))],[],none,[2,3,11,78,79,80],1,[],[],[]⟩]) (.seq (.cond (.sl 81) .skip (.seq (.tidy 0 []) (.exit 2))) (.seq (.block 3 (.seq (.reg [⟨[(13,.box (.agg (.cons (.int .i64 0) (.cons (.int .i64 0) (.cons (.int .i64 0) .nil)))))],[(12,(.sl 80))],[],some (none,.store 3 (.sl 13) (.ld 3 true (.ia 3 (.sl 78) (.sl 80)))),[2,3,11,13,78,79,80],6,[],[],[]⟩]) (.seq (.reg [⟨[],[(14,(.ld 1 false (.ia 1 (.sl 11) (.sl 12))))],[],none,[2,3,11,12,13,78,79,80],5,[],[],[]⟩]) (.seq (.seq (.reg [⟨[],[(90,(.bin .eql (.sl 14) (.int .i64 0)))],[],none,[2,3,11,12,13,14,78,79,80],2,[],[],[]⟩]) (.cond (.sl 90) (.seq (.reg [⟨[],[(4,(.int .i64 174))],[],none,[],1,[],[],[]⟩]) (.seq (.tidy 0 [4]) .ret)) .skip)) (.seq (.reg [⟨[],[(15,(.ext 0 (.call 81 (.cons (.ld 2 true (.sl 2)) (.cons (.ld 3 true (.sl 13)) (.cons (.sl 14) .nil)))))),(16,(.ext 1 (.call 81 (.cons (.ld 2 true (.sl 2)) (.cons (.ld 3 true (.sl 13)) (.cons (.sl 14) .nil))))))],[],none,[2,3,11,12,13,78,79,80],9,[],[],[]⟩]) (.seq (.seq (.reg [⟨[],[(99,(.un .not (.sl 16)))],[],none,[2,3,11,12,13,15,78,79,80],2,[],[],[]⟩]) (.cond (.sl 99) (.seq (.reg [⟨[],[(4,(.int .i64 173))],[],none,[],1,[],[],[]⟩]) (.seq (.tidy 0 [4]) .ret)) .skip)) (.seq (.reg [⟨[],[(17,(.and (.and (.bin .neq (.ld 1 false (.fa 0 (.sl 13))) (.int .i64 13)) (.bin .neq (.ld 1 false (.fa 0 (.sl 13))) (.int .i64 16))) (.bin .neq (.ld 1 false (.fa 0 (.sl 13))) (.int .i64 17))))],[],none,[2,3,11,12,13,15,78,79,80],14,[],[],[]⟩]) (.seq (.seq (.reg [⟨[],[(121,(.and (.sl 17) (.bin .eql (.bin .add (.sl 12) (.int .i64 1)) (.len false (.ld 1 false (.fa 2 (.sl 3)))))))],[],none,[2,3,11,12,13,15,17,78,79,80],9,[],[],[]⟩]) (.cond (.sl 121) (.seq (.reg [⟨[],[(4,(.int .i64 174))],[],none,[],1,[],[],[]⟩]) (.seq (.tidy 0 [4]) .ret)) .skip)) (.seq (.seq (.reg [⟨[],[(123,(.sl 17))],[],some (some 128,.calle 82 (.cons (.sl 11) (.cons (.bin .add (.sl 12) (.int .i64 1)) (.cons (.sl 15) .nil)))),[2,3,11,13,15,78,79,80],7,[],[((.sl 17),true)],[]⟩,⟨[],[(130,(.and (.sl 123) (.un .not (.sl 128))))],[],none,[2,3,11,13,15,78,79,80],2,[],[],[]⟩]) (.cond (.sl 130) (.seq (.reg [⟨[],[(4,(.int .i64 173))],[],none,[],1,[],[],[]⟩]) (.seq (.tidy 0 [4]) .ret)) .skip)) (.seq (.reg [⟨[],[(18,(.int .i64 0))],[],none,[2,3,11,13,15,78,79,80],1,[],[],[]⟩]) (.seq (.seq (.reg [⟨[],[(132,(.ld 1 false (.fa 0 (.sl 13))))],[],none,[2,3,11,13,15,18,78,79,80],2,[],[],[]⟩]) (.block 4 (.seq (.reg [⟨[],[(133,(.bin .eql (.sl 132) (.int .i64 13)))],[],none,[2,3,11,13,15,18,78,79,80,132],2,[],[],[]⟩]) (.cond (.sl 133) (.reg [⟨[],[(18,(.ld 1 false (.fa 1 (.sl 13))))],[],none,[2,3,11,15,78,79,80],3,[],[],[]⟩]) (.seq (.seq (.reg [⟨[],[(137,(.bin .eql (.sl 132) (.int .i64 14)))],[],none,[2,3,11,13,15,18,78,79,80,132],2,[],[],[]⟩]) (.cond (.sl 137) .skip (.reg [⟨[],[(137,(.bin .eql (.sl 132) (.int .i64 15)))],[],none,[2,3,11,13,15,18,78,79,80],2,[],[],[]⟩]))) (.cond (.sl 137) (.reg [⟨[],[(18,(.ld 1 false (.fa 2 (.sl 13))))],[],none,[2,3,11,15,78,79,80],3,[],[],[]⟩]) .skip)))))) (.seq (.reg [⟨[],[(144,(.bin .gtr (.sl 18) (.int .i64 0)))],[],some (some 148,.calle 82 (.cons (.sl 11) (.cons (.sl 18) (.cons (.sl 15) .nil)))),[2,3,11,78,79,80],7,[],[((.bin .gtr (.sl 18) (.int .i64 0)),true)],[]⟩,⟨[],[(150,(.and (.sl 144) (.un .not (.sl 148))))],[],none,[2,3,11,78,79,80],2,[],[],[]⟩]) (.cond (.sl 150) (.seq (.reg [⟨[],[(4,(.int .i64 173))],[],none,[],1,[],[],[]⟩]) (.seq (.tidy 0 [4]) .ret)) .skip))))))))))))) (.reg [⟨[],[(80,(.bin .add (.sl 80) (.int .i64 1)))],[],none,[2,3,11,78,79],2,[],[],[]⟩]))))
def f37:Fun:=⟨ (.seq (.reg [⟨[(2,.box (.sl 0)),(3,.box (.sl 1))],[],[(.int .i64 0)],none,[2,3],3,[],[],[]⟩]) (.seq (.seq (.reg [⟨[],[(20,(.ld 1 false (.fa 2 (.sl 3)))),(21,(.len false (.ld 1 false (.fa 2 (.sl 3))))),(22,(.int .i64 0))],[],none,[2,3],4,[],[],[]⟩]) (.block 0 (.seq (.tidy 0 [2,3,20,21,22]) (.loop (.seq (.tidy 0 [2,3,20,21,22]) f37_L0))))) (.seq (.seq (.reg [⟨[],[(67,(.bin .eql (.len false (.ld 1 false (.fa 2 (.sl 3)))) (.int .i64 0)))],[],none,[2,3],4,[],[],[]⟩]) (.cond (.sl 67) (.seq (.reg [⟨[],[(4,(.int .i64 174))],[],none,[],1,[],[],[]⟩]) (.seq (.tidy 0 [4]) .ret)) .skip)) (.seq (.reg [⟨[(71,.mks 1 (.cons (.int .i64 0) .nil) (.len false (.ld 1 false (.fa 2 (.sl 3)))) (.len false (.ld 1 false (.fa 2 (.sl 3)))))],[(11,(.sl 71))],[],none,[2,3],5,[],[],[]⟩]) (.seq (.reg [⟨[],[],[],some (none,.store 1 (.ia 1 (.sl 11) (.int .i64 0)) (.bin .add (.ld 1 false (.fa 1 (.sl 3))) (.int .i64 1))),[2,3,11],6,[],[],[]⟩]) (.seq (.seq (.reg [⟨[],[(78,(.ld 1 false (.fa 2 (.sl 3)))),(79,(.len false (.ld 1 false (.fa 2 (.sl 3))))),(80,(.int .i64 0))],[],none,[2,3,11],4,[],[],[]⟩]) (.block 2 (.seq (.tidy 0 [2,3,11,78,79,80]) (.loop (.seq (.tidy 0 [2,3,11,78,79,80]) f37_L1))))) (.seq (.reg [⟨[],[(4,(.int .i64 0))],[],none,[],1,[],[],[]⟩]) (.seq (.tidy 0 [4]) .ret)))))))), [(.sl 4)],false⟩
theorem j1p:q0J Go.Proofs.Tryz.prog 37 0 2 f37=true:=by kernel_rfl
/- 'sloth/slothref17.Shapes' -/
def f78:Fun:=⟨ (.seq (.reg [⟨[],[],[(.nilsl 2)],none,[],1,[],[],[]⟩]) (.seq (.reg [⟨[(8,.lits 2 (.cons (.set 0 1 (.str [70,97,108,115,101]) (.agg (.cons (.str []) (.cons (.int .i64 0) .nil)))) (.cons (.set 0 1 (.str [84,114,117,101]) (.agg (.cons (.str []) (.cons (.int .i64 0) .nil)))) (.cons (.set 0 1 (.str [85,110,105,116]) (.agg (.cons (.str []) (.cons (.int .i64 0) .nil)))) (.cons (.set 0 1 (.str [78,105,108]) (.agg (.cons (.str []) (.cons (.int .i64 0) .nil)))) (.cons (.set 1 1 (.int .i64 2) (.set 0 1 (.str [67,111,110,115]) (.agg (.cons (.str []) (.cons (.int .i64 0) .nil))))) (.cons (.set 1 1 (.int .i64 2) (.set 0 1 (.str [80,97,105,114]) (.agg (.cons (.str []) (.cons (.int .i64 0) .nil))))) (.cons (.set 1 1 (.int .i64 3) (.set 0 1 (.str [84,114,105,112,108,101]) (.agg (.cons (.str []) (.cons (.int .i64 0) .nil))))) .nil))))))))],[(0,(.sl 8))],[],none,[],9,[],[],[]⟩]) (.seq (.tidy 0 [0]) .ret))), [(.sl 0)],true⟩
theorem j07:q0J Go.Proofs.Tryz.prog 78 0 0 f78=true:=by kernel_rfl
/- 'sloth/code.forms' -/
def f79:Fun:=⟨ (.seq (.reg [⟨[(2,.box (.agg (.cons (.str []) (.cons (.int .i64 0) (.cons (.int .i64 0) .nil)))))],[],[(.bool false)],none,[0,2],2,[],[],[]⟩]) (.seq (.reg [⟨[(4,.box (.agg (.cons (.str []) (.cons (.int .i64 0) (.cons (.int .i64 0) (.cons (.str []) (.cons (.int .i64 0) (.cons (.int .i64 0) (.cons (.str []) (.cons (.int .i64 0) (.cons (.int .i64 0) (.cons (.str []) (.cons (.int .i64 0) (.cons (.int .i64 0) (.cons (.str []) (.cons (.int .i64 0) (.cons (.int .i64 0) (.cons (.str []) (.cons (.int .i64 0) (.cons (.int .i64 0) (.cons (.str []) (.cons (.int .i64 0) (.cons (.int .i64 0) (.cons (.str []) (.cons (.int .i64 0) (.cons (.int .i64 0) (.cons (.str []) (.cons (.int .i64 0) (.cons (.int .i64 0) (.cons (.str []) (.cons (.int .i64 0) (.cons (.int .i64 0) (.cons (.str []) (.cons (.int .i64 0) (.cons (.int .i64 0) (.cons (.str []) (.cons (.int .i64 0) (.cons (.int .i64 0) (.cons (.str []) (.cons (.int .i64 0) (.cons (.int .i64 0) (.cons (.str []) (.cons (.int .i64 0) (.cons (.int .i64 0) (.cons (.str []) (.cons (.int .i64 0) (.cons (.int .i64 0) (.cons (.str []) (.cons (.int .i64 0) (.cons (.int .i64 0) (.cons (.str []) (.cons (.int .i64 0) (.cons (.int .i64 0) (.cons (.str []) (.cons (.int .i64 0) (.cons (.int .i64 0) .nil))))))))))))))))))))))))))))))))))))))))))))))))))))))))],[],[],some (none,.store 54 (.sl 4) (.set 51 3 (.set 2 1 (.int .i64 0) (.set 1 1 (.int .i64 0) (.set 0 1 (.str [117,110,119,105,110,100]) (.agg (.cons (.str []) (.cons (.int .i64 0) (.cons (.int .i64 0) .nil))))))) (.set 48 3 (.set 2 1 (.int .i64 0) (.set 1 1 (.int .i64 7) (.set 0 1 (.str [102,97,105,108]) (.agg (.cons (.str []) (.cons (.int .i64 0) (.cons (.int .i64 0) .nil))))))) (.set 45 3 (.set 2 1 (.int .i64 8) (.set 1 1 (.int .i64 3) (.set 0 1 (.str [116,101,115,116,105,110,116]) (.agg (.cons (.str []) (.cons (.int .i64 0) (.cons (.int .i64 0) .nil))))))) (.set 42 3 (.set 2 1 (.int .i64 8) (.set 1 1 (.int .i64 5) (.set 0 1 (.str [116,101,115,116,99,111,110]) (.agg (.cons (.str []) (.cons (.int .i64 0) (.cons (.int .i64 0) .nil))))))) (.set 39 3 (.set 2 1 (.int .i64 0) (.set 1 1 (.int .i64 8) (.set 0 1 (.str [106,117,109,112]) (.agg (.cons (.str []) (.cons (.int .i64 0) (.cons (.int .i64 0) .nil))))))) (.set 36 3 (.set 2 1 (.int .i64 0) (.set 1 1 (.int .i64 6) (.set 0 1 (.str [97,114,105,116,104]) (.agg (.cons (.str []) (.cons (.int .i64 0) (.cons (.int .i64 0) .nil))))))) (.set 33 3 (.set 2 1 (.int .i64 0) (.set 1 1 (.int .i64 0) (.set 0 1 (.str [101,118,97,108]) (.agg (.cons (.str []) (.cons (.int .i64 0) (.cons (.int .i64 0) .nil))))))) (.set 30 3 (.set 2 1 (.int .i64 0) (.set 1 1 (.int .i64 5) (.set 0 1 (.str [115,112,108,105,116]) (.agg (.cons (.str []) (.cons (.int .i64 0) (.cons (.int .i64 0) .nil))))))) (.set 27 3 (.set 2 1 (.int .i64 0) (.set 1 1 (.int .i64 5) (.set 0 1 (.str [112,97,99,107]) (.agg (.cons (.str []) (.cons (.int .i64 0) (.cons (.int .i64 0) .nil))))))) (.set 24 3 (.set 2 1 (.int .i64 0) (.set 1 1 (.int .i64 1) (.set 0 1 (.str [97,108,108,111,99]) (.agg (.cons (.str []) (.cons (.int .i64 0) (.cons (.int .i64 0) .nil))))))) (.set 21 3 (.set 2 1 (.int .i64 0) (.set 1 1 (.int .i64 2) (.set 0 1 (.str [117,112,100,97,116,101]) (.agg (.cons (.str []) (.cons (.int .i64 0) (.cons (.int .i64 0) .nil))))))) (.set 18 3 (.set 2 1 (.int .i64 0) (.set 1 1 (.int .i64 0) (.set 0 1 (.str [97,112,112,108,121]) (.agg (.cons (.str []) (.cons (.int .i64 0) (.cons (.int .i64 0) .nil))))))) (.set 15 3 (.set 2 1 (.int .i64 0) (.set 1 1 (.int .i64 1) (.set 0 1 (.str [115,108,105,100,101]) (.agg (.cons (.str []) (.cons (.int .i64 0) (.cons (.int .i64 0) .nil))))))) (.set 12 3 (.set 2 1 (.int .i64 0) (.set 1 1 (.int .i64 1) (.set 0 1 (.str [112,111,112]) (.agg (.cons (.str []) (.cons (.int .i64 0) (.cons (.int .i64 0) .nil))))))) (.set 9 3 (.set 2 1 (.int .i64 0) (.set 1 1 (.int .i64 3) (.set 0 1 (.str [105,110,116]) (.agg (.cons (.str []) (.cons (.int .i64 0) (.cons (.int .i64 0) .nil))))))) (.set 6 3 (.set 2 1 (.int .i64 0) (.set 1 1 (.int .i64 4) (.set 0 1 (.str [103,108,111,98]) (.agg (.cons (.str []) (.cons (.int .i64 0) (.cons (.int .i64 0) .nil))))))) (.set 3 3 (.set 2 1 (.int .i64 0) (.set 1 1 (.int .i64 1) (.set 0 1 (.str [112,117,115,104]) (.agg (.cons (.str []) (.cons (.int .i64 0) (.cons (.int .i64 0) .nil))))))) (.set 0 3 (.agg (.cons (.str []) (.cons (.int .i64 0) (.cons (.int .i64 0) .nil)))) (.agg (.cons (.str []) (.cons (.int .i64 0) (.cons (.int .i64 0) (.cons (.str []) (.cons (.int .i64 0) (.cons (.int .i64 0) (.cons (.str []) (.cons (.int .i64 0) (.cons (.int .i64 0) (.cons (.str []) (.cons (.int .i64 0) (.cons (.int .i64 0) (.cons (.str []) (.cons (.int .i64 0) (.cons (.int .i64 0) (.cons (.str []) (.cons (.int .i64 0) (.cons (.int .i64 0) (.cons (.str []) (.cons (.int .i64 0) (.cons (.int .i64 0) (.cons (.str []) (.cons (.int .i64 0) (.cons (.int .i64 0) (.cons (.str []) (.cons (.int .i64 0) (.cons (.int .i64 0) (.cons (.str []) (.cons (.int .i64 0) (.cons (.int .i64 0) (.cons (.str []) (.cons (.int .i64 0) (.cons (.int .i64 0) (.cons (.str []) (.cons (.int .i64 0) (.cons (.int .i64 0) (.cons (.str []) (.cons (.int .i64 0) (.cons (.int .i64 0) (.cons (.str []) (.cons (.int .i64 0) (.cons (.int .i64 0) (.cons (.str []) (.cons (.int .i64 0) (.cons (.int .i64 0) (.cons (.str []) (.cons (.int .i64 0) (.cons (.int .i64 0) (.cons (.str []) (.cons (.int .i64 0) (.cons (.int .i64 0) (.cons (.str []) (.cons (.int .i64 0) (.cons (.int .i64 0) .nil)))))))))))))))))))))))))))))))))))))))))))))))))))))))))))))))))))))))))),[0,2,4],21,[],[],[]⟩]) (.seq (.seq (.reg [⟨[],[(29,(.or (.bin .lss (.sl 0) (.int .i64 1)) (.bin .geq (.sl 0) (.int .i64 18))))],[],none,[0,2,4],6,[],[],[]⟩]) (.cond (.sl 29) (.seq (.reg [⟨[],[],[],some (none,.store 3 (.sl 2) (.agg (.cons (.str []) (.cons (.int .i64 0) (.cons (.int .i64 0) .nil))))),[2],2,[],[],[]⟩,⟨[],[(3,(.bool false))],[],none,[2],1,[],[],[]⟩]) (.seq (.tidy 0 [2,3]) .ret)) .skip)) (.seq (.reg [⟨[],[],[],some (none,.store 3 (.sl 2) (.ld 3 true (.aa 18 3 (.sl 4) (.sl 0)))),[2],4,[],[],[]⟩,⟨[],[(3,(.bool true))],[],none,[2],1,[],[],[]⟩]) (.seq (.tidy 0 [2,3]) .ret))))), [(.ld 3 true (.sl 2)),(.sl 3)],false⟩
theorem j06:q0J Go.Proofs.Tryz.prog 79 0 1 f79=true:=by kernel_rfl
/- 'sloth/code.number' -/
def f80:Fun:=⟨ (.seq (.reg [⟨[(5,.box (.sl 0)),(6,.box (.sl 1))],[],[(.int .i64 0)],none,[2,3,4,5,6],3,[],[],[]⟩]) (.seq (.reg [⟨[],[(11,(.bool true))],[],none,[2,3,4,5,6],1,[],[],[]⟩]) (.seq (.seq (.reg [⟨[],[(12,(.sl 4))],[],none,[2,3,5,6,11],1,[],[],[]⟩]) (.block 0 (.seq (.reg [⟨[],[(13,(.bin .eql (.sl 12) (.int .i64 0)))],[],none,[2,3,5,6,11,12],2,[],[],[]⟩]) (.cond (.sl 13) (.reg [⟨[],[(11,(.bin .eql (.sl 3) (.int .i64 0)))],[],none,[],3,[],[],[]⟩]) (.seq (.reg [⟨[],[(17,(.bin .eql (.sl 12) (.int .i64 1)))],[],none,[2,3,5,6,11,12],2,[],[],[]⟩]) (.cond (.sl 17) (.reg [⟨[],[(11,(.bin .geq (.sl 3) (.int .i64 0)))],[],none,[],3,[],[],[]⟩]) (.seq (.reg [⟨[],[(21,(.bin .eql (.sl 12) (.int .i64 2)))],[],none,[2,3,5,6,11,12],2,[],[],[]⟩]) (.cond (.sl 21) (.reg [⟨[],[(11,(.bin .geq (.sl 3) (.int .i64 1)))],[],none,[],3,[],[],[]⟩]) (.seq (.reg [⟨[],[(25,(.bin .eql (.sl 12) (.int .i64 3)))],[],none,[2,3,5,6,11,12],2,[],[],[]⟩]) (.cond (.sl 25) (.reg [⟨[],[(11,(.and (.bin .geq (.sl 3) (.int .i64 (-4611686018427387904))) (.bin .leq (.sl 3) (.int .i64 4611686018427387903))))],[],none,[],7,[],[],[]⟩]) (.seq (.reg [⟨[],[(33,(.bin .eql (.sl 12) (.int .i64 4)))],[],none,[2,3,5,6,11,12],2,[],[],[]⟩]) (.cond (.sl 33) (.reg [⟨[],[(11,(.and (.bin .geq (.sl 3) (.int .i64 0)) (.bin .lss (.sl 3) (.len false (.ld 1 false (.fa 1 (.sl 5)))))))],[],none,[],10,[],[],[]⟩]) (.seq (.reg [⟨[],[(44,(.bin .eql (.sl 12) (.int .i64 5)))],[],none,[2,3,5,6,11,12],2,[],[],[]⟩]) (.cond (.sl 44) (.reg [⟨[],[(11,(.and (.bin .geq (.sl 3) (.int .i64 0)) (.bin .lss (.sl 3) (.len false (.ld 1 false (.fa 0 (.sl 5)))))))],[],none,[],10,[],[],[]⟩]) (.seq (.reg [⟨[],[(55,(.bin .eql (.sl 12) (.int .i64 6)))],[],none,[2,3,6,11,12],2,[],[],[]⟩]) (.cond (.sl 55) (.reg [⟨[],[(11,(.and (.bin .geq (.sl 3) (.int .i64 1)) (.bin .leq (.sl 3) (.int .i64 11))))],[],none,[],7,[],[],[]⟩]) (.seq (.reg [⟨[],[(63,(.bin .eql (.sl 12) (.int .i64 7)))],[],none,[2,3,6,11,12],2,[],[],[]⟩]) (.cond (.sl 63) (.reg [⟨[],[(11,(.and (.bin .geq (.sl 3) (.int .i64 1)) (.bin .leq (.sl 3) (.int .i64 4))))],[],none,[],7,[],[],[]⟩]) (.seq (.reg [⟨[],[(71,(.bin .eql (.sl 12) (.int .i64 8)))],[],none,[2,3,6,11],2,[],[],[]⟩]) (.cond (.sl 71) (.seq (.reg [⟨[],[(82,(.or (.bin .leq (.sl 3) (.sl 2)) (.bin .geq (.sl 3) (.len false (.ld 1 false (.fa 2 (.sl 6)))))))],[],none,[11],10,[],[],[]⟩]) (.cond (.sl 82) (.seq (.reg [⟨[],[(10,(.int .i64 174))],[],none,[],1,[],[],[]⟩]) (.seq (.tidy 0 [10]) .ret)) .skip)) .skip)))))))))))))))))))) (.seq (.seq (.reg [⟨[],[(84,(.un .not (.sl 11)))],[],none,[],2,[],[],[]⟩]) (.cond (.sl 84) (.seq (.reg [⟨[],[(10,(.int .i64 172))],[],none,[],1,[],[],[]⟩]) (.seq (.tidy 0 [10]) .ret)) .skip)) (.seq (.reg [⟨[],[(10,(.int .i64 0))],[],none,[],1,[],[],[]⟩]) (.seq (.tidy 0 [10]) .ret)))))), [(.sl 10)],false⟩
theorem j05:q0J Go.Proofs.Tryz.prog 80 0 5 f80=true:=by kernel_rfl
/- 'sloth/code.stacked' -/
def f81:Fun:=⟨ (.seq (.reg [⟨[(3,.box (.sl 0)),(4,.box (.sl 1))],[],[(.bool false),(.int .i64 0)],none,[2,3,4],4,[],[],[]⟩]) (.seq (.reg [⟨[],[(8,(.bool true)),(9,(.sl 2))],[],none,[2,3,4],3,[],[],[]⟩]) (.seq (.seq (.reg [⟨[],[(13,(.ld 1 false (.fa 0 (.sl 4))))],[],none,[2,3,4,8,9],2,[],[],[]⟩]) (.block 0 (.seq (.reg [⟨[],[(14,(.bin .eql (.sl 13) (.int .i64 1)))],[],none,[2,3,4,8,9,13],2,[],[],[]⟩]) (.cond (.sl 14) (.reg [⟨[],[(8,(.bin .lss (.ld 1 false (.fa 1 (.sl 4))) (.sl 2))),(9,(.bin .add (.sl 2) (.int .i64 1)))],[],none,[],8,[],[],[]⟩]) (.seq (.seq (.reg [⟨[],[(22,(.bin .eql (.sl 13) (.int .i64 2)))],[],none,[2,3,4,8,9,13],2,[],[],[]⟩]) (.cond (.sl 22) .skip (.reg [⟨[],[(22,(.bin .eql (.sl 13) (.int .i64 3)))],[],none,[2,3,4,8,9,13],2,[],[],[]⟩]))) (.cond (.sl 22) (.reg [⟨[],[(9,(.bin .add (.sl 2) (.int .i64 1)))],[],none,[8],3,[],[],[]⟩]) (.seq (.reg [⟨[],[(27,(.bin .eql (.sl 13) (.int .i64 4)))],[],none,[2,3,4,8,9,13],2,[],[],[]⟩]) (.cond (.sl 27) (.reg [⟨[],[(8,(.bin .lss (.ld 1 false (.fa 1 (.sl 4))) (.sl 2))),(9,(.bin .sub (.sl 2) (.ld 1 false (.fa 1 (.sl 4)))))],[],none,[],10,[[],[0],[],[2,0,1],[],[],[5],[5,6,4],[1,0,2,3],[3,2,0,1,8,4,6,5,7]],[],[]⟩]) (.seq (.reg [⟨[],[(37,(.bin .eql (.sl 13) (.int .i64 5)))],[],none,[2,3,4,8,9,13],2,[],[],[]⟩]) (.cond (.sl 37) (.reg [⟨[],[(8,(.bin .lss (.ld 1 false (.fa 1 (.sl 4))) (.bin .sub (.sl 2) (.int .i64 1)))),(9,(.bin .sub (.sl 2) (.ld 1 false (.fa 1 (.sl 4)))))],[],none,[],11,[[],[0],[],[2],[2,3,0,1],[],[],[6],[6,7,5],[1,0,3,2,4],[4,2,3,0,1,9,5,7,6,8]],[],[]⟩]) (.seq (.seq (.reg [⟨[],[(48,(.bin .eql (.sl 13) (.int .i64 6)))],[],none,[2,3,4,8,9,13],2,[],[],[]⟩]) (.cond (.sl 48) .skip (.reg [⟨[],[(48,(.bin .eql (.sl 13) (.int .i64 12)))],[],none,[2,3,4,8,9,13],2,[],[],[]⟩]))) (.cond (.sl 48) (.reg [⟨[],[(8,(.bin .gtr (.sl 2) (.int .i64 2))),(9,(.bin .sub (.sl 2) (.int .i64 1)))],[],none,[],6,[],[],[]⟩]) (.seq (.reg [⟨[],[(55,(.bin .eql (.sl 13) (.int .i64 7)))],[],none,[2,3,4,8,9,13],2,[],[],[]⟩]) (.cond (.sl 55) (.reg [⟨[],[(8,(.bin .lss (.ld 1 false (.fa 1 (.sl 4))) (.sl 2))),(9,(.bin .sub (.sl 2) (.int .i64 1)))],[],none,[],8,[],[],[]⟩]) (.seq (.reg [⟨[],[(63,(.bin .eql (.sl 13) (.int .i64 8)))],[],none,[2,3,4,8,9,13],2,[],[],[]⟩]) (.cond (.sl 63) (.reg [⟨[],[(8,(.bin .leq (.ld 1 false (.fa 1 (.sl 4))) (.int .i64 8000))),(9,(.bin .add (.sl 2) (.cond (.and (.bin .eql (.bin .and (.int .i64 8000) (.int .i64 0)) (.bin .and (.int .i64 8000) (.int .i64 0))) (.bin .lss (.int .i64 8000) (.ld 1 false (.fa 1 (.sl 4))))) (.int .i64 8000) (.ld 1 false (.fa 1 (.sl 4))))))],[],none,[],10,[[],[0],[0,1],[],[],[4],[4,5],[5,4,6,3],[1,0,2],[2,0,1,8,3,6,4,5,7]],[],[]⟩]) (.seq (.reg [⟨[],[(73,(.bin .eql (.sl 13) (.int .i64 9)))],[],none,[2,3,4,8,9,13],2,[],[],[]⟩]) (.cond (.sl 73) (.seq (.reg [⟨[],[(10,(.ld 1 false (.fa 1 (.ia 2 (.ld 1 false (.fa 0 (.sl 3))) (.ld 1 false (.fa 1 (.sl 4)))))))],[],none,[2],8,[],[],[]⟩]) (.reg [⟨[],[(8,(.bin .lss (.sl 10) (.sl 2))),(9,(.bin .add (.bin .sub (.sl 2) (.sl 10)) (.int .i64 1)))],[],none,[],9,[],[],[]⟩])) (.seq (.reg [⟨[],[(89,(.bin .eql (.sl 13) (.int .i64 10)))],[],none,[2,3,4,8,9,13],2,[],[],[]⟩]) (.cond (.sl 89) (.reg [⟨[],[(8,(.bin .gtr (.sl 2) (.int .i64 1))),(9,(.bin .add (.bin .sub (.sl 2) (.int .i64 1)) (.ld 1 false (.fa 1 (.ia 2 (.ld 1 false (.fa 0 (.sl 3))) (.ld 1 false (.fa 1 (.sl 4))))))))],[],none,[],14,[[],[0],[],[2],[],[4],[],[6],[6,7,4,5],[5,4,7,6,8],[8,6,7,4,5,9],[9,5,4,7,6,8,10,2,3],[0,1],[1,0,12,3,2,10,8,6,7,4,5,9,11]],[],[]⟩]) (.seq (.seq (.reg [⟨[],[(103,(.bin .eql (.sl 13) (.int .i64 11)))],[],none,[2,8,9,13],2,[],[],[]⟩]) (.cond (.sl 103) .skip (.seq (.reg [⟨[],[(103,(.bin .eql (.sl 13) (.int .i64 14)))],[],none,[2,8,9,13],2,[],[],[]⟩]) (.cond (.sl 103) .skip (.reg [⟨[],[(103,(.bin .eql (.sl 13) (.int .i64 15)))],[],none,[2,8,9,13],2,[],[],[]⟩]))))) (.cond (.sl 103) (.reg [⟨[],[(8,(.bin .gtr (.sl 2) (.int .i64 1)))],[],none,[9],3,[],[],[]⟩]) (.seq (.reg [⟨[],[(109,(.bin .eql (.sl 13) (.int .i64 17)))],[],none,[2,8,9],2,[],[],[]⟩]) (.cond (.sl 109) (.reg [⟨[],[(8,(.bin .eql (.sl 2) (.int .i64 1)))],[],none,[9],3,[],[],[]⟩]) .skip)))))))))))))))))))))))) (.seq (.reg [⟨[],[(6,(.sl 9)),(7,(.and (.sl 8) (.bin .leq (.sl 9) (.int .i64 8000))))],[],none,[],8,[],[],[]⟩]) (.seq (.tidy 0 [6,7]) .ret))))), [(.sl 6),(.sl 7)],false⟩
theorem j04:q0J Go.Proofs.Tryz.prog 81 0 3 f81=true:=by kernel_rfl
/- 'sloth/code.reach' -/
def f82:Fun:=⟨ (.seq (.reg [⟨[],[],[(.bool false)],none,[0,1,2],1,[],[],[]⟩]) (.seq (.seq (.reg [⟨[],[(11,(.bin .eql (.ld 1 false (.ia 1 (.sl 0) (.sl 1))) (.int .i64 0)))],[],none,[0,1,2],5,[],[],[]⟩]) (.cond (.sl 11) (.reg [⟨[],[],[],some (none,.store 1 (.ia 1 (.sl 0) (.sl 1)) (.sl 2)),[0,1,2],5,[],[],[]⟩]) .skip)) (.seq (.reg [⟨[],[(6,(.bin .eql (.ld 1 false (.ia 1 (.sl 0) (.sl 1))) (.sl 2)))],[],none,[],7,[],[],[]⟩]) (.seq (.tidy 1 [6]) .ret)))), [(.sl 6)],false⟩
theorem j03:q0J Go.Proofs.Tryz.prog 82 1 3 f82=true:=by kernel_rfl
end Go.Vm
end

section
namespace Go.Vm
set_option maxHeartbeats 8000000 in
theorem z7m(K:Cx)(op:Int):q0o K f79 [.d false (.int .i64 op)] []=some (z6o (q2g op) (decide (1≤op∧op<18)),[],[]):=by
 unfold q2g
 by_cases h:1≤op∧op<18
 ·rw[if_pos h]
  have hd:decide (1≤op∧op<18)=true:=by simpa using h
  rw[hd]
  obtain⟨h1,h2⟩:=h
  have:op=1∨op=2∨op=3∨op=4∨op=5∨op=6∨op=7∨op=8∨op=9∨op=10∨op=11∨op=12∨op=13∨op=14∨op=15∨op=16∨op=17:=by omega
  simp(disch:=first|decide|omega|(simp only[LN];first|done|omega)) only[SV,SW,f79,Nat.reduceAdd,Nat.reduceBEq,lose,e_aa,evAa]
  clear hd h1 h2
  rcases this with rfl|rfl|rfl|rfl|rfl|rfl|rfl|rfl|rfl|rfl|rfl|rfl|rfl|rfl|rfl|rfl|rfl
  all_goals(simp(disch:=first|decide|omega|(simp only[LN];first|done|omega)) only[SV,SW,Int.reduceToNat,Nat.reduceMul,Nat.reduceSub,Nat.min_def,lose,Nat.reduceBEq,Nat.reduceAdd,q0b];rfl)
 ·rw[if_neg h]
  have hd:decide (1≤op∧op<18)=false:=by simpa using h
  rw[hd]
  clear hd
  by_cases h1:op<1
  ·simp(disch:=first|decide|omega|(simp only[LN];first|done|omega)) only[SV,SW,f79,Nat.reduceAdd,Nat.reduceBEq,lose,q0b]
   rfl
  ·simp(disch:=first|decide|omega|(simp only[LN];first|done|omega)) only[SV,SW,f79,Nat.reduceAdd,Nat.reduceBEq,lose,q0b]
   rfl
end Go.Vm
end

section
namespace Go.Vm
set_option maxRecDepth 20000
open Go.Proofs
/- 'sloth/slothlaw17.lent' -/
def f12_L0:C:= (.seq (.seq (.reg [⟨[],[(18,(.bin .lss (.sl 4) (.len false (.sl 3))))],[],none,[1,2,3,4],4,[],[],[]⟩]) (.cond (.sl 18) .skip (.seq (.keep [1,2,3]) (.exit 0)))) (.seq (.block 1 (.seq (.reg [⟨[],[],[],some (none,.store 2 (.ia 2 (.sl 3) (.sl 4)) (.set 0 1 (.str [98,101,104,105,110,100]) (.agg (.cons (.str []) (.cons (.int .i64 0) .nil))))),[1,2,3,4],5,[],[],[]⟩]) (.seq (.reg [⟨[],[(29,(.bin .lss (.sl 4) (.len false (.ld 1 false (.fa 0 (.sl 1))))))],[],none,[1,2,3,4],5,[],[],[]⟩]) (.cond (.sl 29) (.reg [⟨[],[],[],some (none,.store 2 (.ia 2 (.sl 3) (.sl 4)) (.ld 2 true (.ia 2 (.ld 1 false (.fa 0 (.sl 1))) (.sl 4)))),[1,2,3,4],9,[],[],[]⟩]) .skip)))) (.reg [⟨[],[(4,(.bin .add (.sl 4) (.int .i64 1)))],[],none,[1,2,3],3,[],[],[]⟩])))
def f12_L1:C:= (.seq (.seq (.reg [⟨[],[(71,(.bin .lss (.sl 9) (.len false (.sl 8))))],[],none,[1,2,3,5,6,7,8,9],4,[],[],[]⟩]) (.cond (.sl 71) .skip (.seq (.keep [1,2,3,5,6,7,8]) (.exit 4)))) (.seq (.block 5 (.seq (.reg [⟨[],[],[],some (none,.store 3 (.ia 3 (.sl 8) (.sl 9)) (.set 0 1 (.int .i64 (-77)) (.agg (.cons (.int .i64 0) (.cons (.int .i64 0) (.cons (.int .i64 0) .nil)))))),[1,2,3,5,6,7,8,9],5,[],[],[]⟩]) (.seq (.reg [⟨[],[(80,(.bin .lss (.sl 9) (.sl 7)))],[],none,[1,2,3,5,6,7,8,9],3,[],[],[]⟩]) (.cond (.sl 80) (.reg [⟨[],[],[],some (none,.store 3 (.ia 3 (.sl 8) (.sl 9)) (.ld 3 true (.ia 3 (.ld 1 false (.fa 2 (.ia 3 (.ld 1 false (.fa 1 (.sl 1))) (.sl 6)))) (.sl 9)))),[1,2,3,5,6,7,8,9],13,[],[],[]⟩]) .skip)))) (.reg [⟨[],[(9,(.bin .add (.sl 9) (.int .i64 1)))],[],none,[1,2,3,5,6,7,8],3,[],[],[]⟩])))
def f12_T0:C:= (.seq (.reg [⟨[(67,.mks 3 (.cons (.int .i64 0) (.cons (.int .i64 0) (.cons (.int .i64 0) .nil))) (.bin .add (.sl 7) (.int .i64 2)) (.bin .add (.sl 7) (.int .i64 2)))],[(8,(.sl 67))],[],none,[1,2,3,5,6,7],4,[],[],[]⟩]) (.seq (.seq (.reg [⟨[],[(9,(.int .i64 0))],[],none,[1,2,3,5,6,7,8],1,[],[],[]⟩]) (.block 4 (.seq (.keep [1,2,3,5,6,7,8,9]) (.loop (.seq (.keep [1,2,3,5,6,7,8,9]) f12_L1))))) (.reg [⟨[],[],[],some (none,.store 3 (.ia 3 (.sl 5) (.sl 6)) (.set 2 1 (.cut false false true false 3 (.sl 8) .nil (.sl 7) .nil) (.set 1 1 (.ld 1 false (.fa 1 (.ia 3 (.ld 1 false (.fa 1 (.sl 1))) (.sl 6)))) (.set 0 1 (.ld 1 false (.fa 0 (.ia 3 (.ld 1 false (.fa 1 (.sl 1))) (.sl 6)))) (.agg (.cons (.str []) (.cons (.int .i64 0) (.cons (.nilsl 3) .nil)))))))),[1,2,3,5,6],20,[[],[],[],[2],[],[4,2,3],[3,2,4,5],[5,4,2,3,6],[],[8],[],[10,8,9],[9,8,10,11],[11,10,8,9,12],[],[],[15,14],[14,15,16,12,9,8,10,11,13,6,3,2,4,5,7],[17,16,15,14,13,12,11,10,9,8,7,6,5,4,3,2,1,0],[0,1,2,3,4,5,6,7,8,9,10,11,12,13,14,15,16,17,18]],[],[]⟩])))
def f12_L2:C:= (.seq (.seq (.reg [⟨[],[(46,(.bin .lss (.sl 6) (.len false (.sl 5))))],[],none,[1,2,3,5,6],4,[],[],[]⟩]) (.cond (.sl 46) .skip (.seq (.keep [1,2,3,5]) (.exit 2)))) (.seq (.block 3 (.seq (.reg [⟨[],[],[],some (none,.store 3 (.ia 3 (.sl 5) (.sl 6)) (.set 0 1 (.str [98,101,104,105,110,100]) (.agg (.cons (.str []) (.cons (.int .i64 0) (.cons (.nilsl 3) .nil)))))),[1,2,3,5,6],5,[],[],[]⟩]) (.seq (.reg [⟨[],[(57,(.bin .lss (.sl 6) (.len false (.ld 1 false (.fa 1 (.sl 1))))))],[],none,[1,2,3,5,6],5,[],[],[]⟩]) (.cond (.sl 57) (.seq (.reg [⟨[],[(7,(.len false (.ld 1 false (.fa 2 (.ia 3 (.ld 1 false (.fa 1 (.sl 1))) (.sl 6))))))],[],none,[1,2,3,5,6],8,[],[],[]⟩]) (.seq (.keep [1,2,3,5,6,7,1000000000]) f12_T0)) .skip)))) (.reg [⟨[],[(6,(.bin .add (.sl 6) (.int .i64 1)))],[],none,[1,2,3,5],3,[],[],[]⟩])))
def z8b:C:= (.seq (.reg [⟨[(42,.mks 3 (.cons (.str []) (.cons (.int .i64 0) (.cons (.nilsl 3) .nil))) (.bin .add (.len false (.ld 1 false (.fa 1 (.sl 1)))) (.int .i64 2)) (.bin .add (.len false (.ld 1 false (.fa 1 (.sl 1)))) (.int .i64 2)))],[(5,(.sl 42))],[],none,[1,2,3],6,[],[],[]⟩]) (.seq (.seq (.reg [⟨[],[(6,(.int .i64 0))],[],none,[1,2,3,5],1,[],[],[]⟩]) (.block 2 (.seq (.keep [1,2,3,5,6]) (.loop (.seq (.keep [1,2,3,5,6]) f12_L2))))) (.seq (.reg [⟨[],[],[],some (none,.store 2 (.sl 2) (.set 1 1 (.cut false false true false 3 (.sl 5) .nil (.len false (.ld 1 false (.fa 1 (.sl 1)))) .nil) (.set 0 1 (.cut false false true false 2 (.sl 3) .nil (.len false (.ld 1 false (.fa 0 (.sl 1)))) .nil) (.agg (.cons (.nilsl 2) (.cons (.nilsl 3) .nil)))))),[2],12,[[],[],[1],[1,2],[2,1,3,0],[],[],[6],[6,7],[7,6,8,5],[5,8,6,7,9,0,3,1,2,4],[4,2,1,3,0,9,7,6,8,5,10]],[],[]⟩]) (.seq (.keep [2]) .ret))))
def z8a:C:= (.seq (.reg [⟨[(14,.mks 2 (.cons (.str []) (.cons (.int .i64 0) .nil)) (.bin .add (.len false (.ld 1 false (.fa 0 (.sl 1)))) (.int .i64 2)) (.bin .add (.len false (.ld 1 false (.fa 0 (.sl 1)))) (.int .i64 2)))],[(3,(.sl 14))],[],none,[1,2],6,[],[],[]⟩]) (.seq (.seq (.reg [⟨[],[(4,(.int .i64 0))],[],none,[1,2,3],1,[],[],[]⟩]) (.block 0 (.seq (.keep [1,2,3,4]) (.loop (.seq (.keep [1,2,3,4]) f12_L0))))) (.seq (.keep [1,2,3,1000000000]) z8b)))
def f12:Fun:=⟨ (.seq (.reg [⟨[(1,.box (.sl 0)),(2,.box (.agg (.cons (.nilsl 2) (.cons (.nilsl 3) .nil))))],[],[],none,[1,2],2,[],[],[]⟩]) (.seq (.keep [1,2,1000000000]) z8a)), [(.ld 2 true (.sl 2))],true⟩
theorem j1H:q0J Go.Proofs.Tryz.prog 12 0 1 f12=true:=by kernel_rfl
def behN:List UInt8:=[98,101,104,105,110,100]
def behS:Shape:=⟨behN,0⟩
def mkI:Instr:=⟨-77,0,0⟩
structure Sm(t:Table):Prop where
  sh:t.shapes.length≤1048576
  gl:t.globals.length≤1048576
  cd:∀ g∈t.globals,g.code.length≤1048576
def tabV(t:Table):List V:=[.d false (.sl 2 (t.shapes.map q0c)),.d false (.sl 3 (t.globals.map q0l))]
def finS(t:Table):List Shape:=t.shapes++[behS,behS]
def finI(l:List Instr):List Instr:=l++[mkI,mkI]
theorem z4Z(l:List Shape) (i n f):(l.map q0c).set i [D.str n,.int .i64 f]=(l.set i ⟨n,f⟩).map q0c:=by rw[List.map_set];rfl
theorem z9u(k n f):List.replicate k [D.str n,.int .i64 f]=(List.replicate k (Shape.mk n f)).map q0c:=by rw[List.map_replicate];rfl
theorem z9w(k a b c):List.replicate k [D.int .i64 a,.int .i64 b,.int .i64 c]=(List.replicate k (Instr.mk a b c)).map q0j:=by rw[List.map_replicate];rfl
theorem q7T{α:Type}(l:List α)(i:Nat)(h:i<l.length)(x:α):(l.set i x).take (i+1)=l.take i++[x]:=by
  rw[List.take_add_one,List.getElem?_set_self h,List.take_set_of_le (by omega)];rfl
theorem q1P{α:Type}{l f:List α}{i:Nat}(hl:l.length=f.length)(h:l.take i=f.take i)(hi:i<f.length){x:α}(hx:f[i]? = some x):(l.set i x).take (i+1)=f.take (i+1):=by
  rw[q7T l i (by omega),h,List.take_add_one,hx];rfl
theorem z9l(K:Cx)(t:Table)(ht:Sm t)(nx:Nat)(mv:List Nat):∀(k i:Nat)(H:List (Nat×Blk))(rows:List Shape),i+k=t.shapes.length+2→look H 0=some (.mix 2 [tabV t])→look H 2=some (.dat true 2 (rows.map q0c))→
    rows.length=t.shapes.length+2→rows.take i=(finS t).take i→
    ∃ H',lpk K [1,2,3,4] f12_L0 ⟨[(1,.ptr 0 0 0),(2,.ptr 1 0 0),(3,.bsx 2 0 (t.shapes.length+2)),(4,.d false (.int .i64 i))],H,nx,mv⟩=some (.exit 0,⟨[(1,.ptr 0 0 0),(2,.ptr 1 0 0),(3,.bsx 2 0 (t.shapes.length+2))],H',nx,mv⟩)∧
      look H' 2=some (.dat true 2 ((finS t).map q0c))∧∀ b,b≠2→look H' b=look H b:=by
  have hs:=ht.sh
  have lf:(finS t).length=t.shapes.length+2:=by simp [finS]
  intro k
  induction k with
  |zero=>
    intro i H rows hi h0 h2 hl htk
    obtain rfl:i=t.shapes.length+2:=by omega
    have e:rows=finS t:=by rw[List.take_of_length_le (by omega),List.take_of_length_le (by omega)] at htk;exact htk
    subst e
    refine⟨H,?_,h2,fun _ _=>rfl⟩
    rw[q1n f12_L0.eq_1]
    simp only[Int.natCast_add]
    simp(disch:=first|decide|omega|(simp only[LN];first|done|omega)) only[SV,SW,Nat.reduceBEq,q0v,q0y,Nat.reduceEqDiff,q2b]
  |succ k ih=>
    intro i H rows hi h0 h2 hl htk
    by_cases hi2:i<t.shapes.length
    · have hx:(finS t)[i]? = some (nth t.shapes i):=by
        unfold finS
        rw[List.getElem?_append_left hi2,q05,List.getD_eq_getElem?_getD,List.getElem?_eq_getElem hi2];rfl
      obtain⟨H',e1,e2,e3⟩:=ih (i+1) (put (put H 2 (.dat true 2 ((rows.set i behS).map q0c))) 2 (.dat true 2 ((rows.set i (nth t.shapes i)).map q0c))) (rows.set i (nth t.shapes i)) (by omega)
        (by rw[q0a _ _ (by omega),q0a _ _ (by omega)];exact h0) (q0u _ _ _) (by simpa using hl) (q1P (by omega) htk (by omega) hx)
      refine⟨H',?_,e2,fun b hb=>by rw[e3 b hb,q0a _ _ (Ne.symm hb),q0a _ _ (Ne.symm hb)]⟩
      rw[←e1]
      rw[q1n f12_L0.eq_1]
      simp only[tabV] at h0
      simp only[behS,behN]
      simp(disch:=first|decide|omega|(simp only[LN];first|done|omega)) only[SV,SW,Nat.reduceBEq,h2,Nat.reduceAdd,q0g,z4Z,lose,q0a,h0,q0u,z9v,List.set_set,q1o,q0y,Nat.reduceEqDiff]
      rfl
    · have hx:(finS t)[i]? = some behS:=by
        unfold finS
        rw[List.getElem?_append_right (by omega)]
        rcases Nat.lt_or_ge (i - t.shapes.length) 1 with h|h
        · rw[show i - t.shapes.length=0 by omega];rfl
        · rw[show i - t.shapes.length=1 by omega];rfl
      obtain⟨H',e1,e2,e3⟩:=ih (i+1) (put H 2 (.dat true 2 ((rows.set i behS).map q0c))) (rows.set i behS) (by omega)
        (by rw[q0a _ _ (by omega)];exact h0) (q0u _ _ _) (by simpa using hl) (q1P (by omega) htk (by omega) hx)
      refine⟨H',?_,e2,fun b hb=>by rw[e3 b hb,q0a _ _ (Ne.symm hb)]⟩
      rw[←e1]
      rw[q1n f12_L0.eq_1]
      simp only[tabV] at h0
      simp only[behS,behN]
      simp(disch:=first|decide|omega|(simp only[LN];first|done|omega)) only[SV,SW,Nat.reduceBEq,h2,Nat.reduceAdd,q0g,z4Z,lose,q0a,h0,q1o,q0y,Nat.reduceEqDiff]
      rfl
def stL(s n b m:Nat)(i:Nat):List (Nat×V):=[(1,.ptr 0 0 0),(2,.ptr 1 0 0),(3,.bsx 2 0 (s+2)),(5,.bsx 3 0 (n+2)),(6,.d false (.int .i64 i)),(7,.d false (.int .i64 m)),(8,.bsx b 0 (m+2))]
theorem z9k(K:Cx)(t:Table)(ht:Sm t)(nx:Nat)(mv:List Nat)(gi b:Nat)(g:Glob)(hgi:gi<t.globals.length)(hg:nth t.globals gi=g)(hb:3<b):∀(k i:Nat)(H:List (Nat×Blk))(rows:List Instr),i+k=g.code.length+2→look H 0=some (.mix 2 [tabV t])→look H b=some (.dat true 3 (rows.map q0j))→
    rows.length=g.code.length+2→rows.take i=(finI g.code).take i→
    ∃ H',lpk K [1,2,3,5,6,7,8,9] f12_L1 ⟨stL t.shapes.length t.globals.length b g.code.length gi++[(9,.d false (.int .i64 i))],H,nx,mv⟩=some (.exit 4,⟨stL t.shapes.length t.globals.length b g.code.length gi,H',nx,mv⟩)∧
      look H' b=some (.dat true 3 ((finI g.code).map q0j))∧∀ c,c≠b→look H' c=look H c:=by
  have hs:=ht.sh
  have hgl:=ht.gl
  have hm:g∈t.globals:=by rw[←hg,q05,List.getD_eq_getElem?_getD,List.getElem?_eq_getElem hgi];exact List.getElem_mem hgi
  have hcd:=ht.cd g hm
  have lf:(finI g.code).length=g.code.length+2:=by simp [finI]
  have hb0:(b=0)=False:=by simp;omega
  intro k
  induction k with
  |zero=>
    intro i H rows hi h0 h2 hl htk
    obtain rfl:i=g.code.length+2:=by omega
    have e:rows=finI g.code:=by rw[List.take_of_length_le (by omega),List.take_of_length_le (by omega)] at htk;exact htk
    subst e
    refine⟨H,?_,h2,fun _ _=>rfl⟩
    rw[q1n f12_L1.eq_1]
    simp only[Int.natCast_add,stL]
    simp(disch:=first|decide|omega|(simp only[LN];first|done|omega)) only[SV,SW,Int.reduceNeg,Nat.reduceBEq,q0v,q0y,Nat.reduceEqDiff,q2b]
  |succ k ih=>
    intro i H rows hi h0 h2 hl htk
    by_cases hi2:i<g.code.length
    · have hx:(finI g.code)[i]? = some (nth g.code i):=by
        unfold finI
        rw[List.getElem?_append_left hi2,q05,List.getD_eq_getElem?_getD,List.getElem?_eq_getElem hi2];rfl
      obtain⟨H',e1,e2,e3⟩:=ih (i+1) (put (put H b (.dat true 3 ((rows.set i mkI).map q0j))) b (.dat true 3 ((rows.set i (nth g.code i)).map q0j))) (rows.set i (nth g.code i)) (by omega)
        (by rw[q0a _ _ (by omega),q0a _ _ (by omega)];exact h0) (q0u _ _ _) (by simpa using hl) (q1P (by omega) htk (by omega) hx)
      refine⟨H',?_,e2,fun c hc=>by rw[e3 c hc,q0a _ _ (Ne.symm hc),q0a _ _ (Ne.symm hc)]⟩
      rw[←e1]
      rw[q1n f12_L1.eq_1]
      simp only[tabV] at h0
      simp only[mkI,stL]
      simp(disch:=first|decide|omega|(simp only[LN];first|done|omega)) only[SV,SW,Int.reduceNeg,Nat.reduceBEq,h2,Nat.reduceAdd,q0e,z0r,lose,q0u,q0a,h0,hg,q0k,z9x,List.set_set,q1o,q0y,Nat.reduceEqDiff]
      rfl
    · have hx:(finI g.code)[i]? = some mkI:=by
        unfold finI
        rw[List.getElem?_append_right (by omega)]
        rcases Nat.lt_or_ge (i - g.code.length) 1 with h|h
        · rw[show i - g.code.length=0 by omega];rfl
        · rw[show i - g.code.length=1 by omega];rfl
      obtain⟨H',e1,e2,e3⟩:=ih (i+1) (put H b (.dat true 3 ((rows.set i mkI).map q0j))) (rows.set i mkI) (by omega)
        (by rw[q0a _ _ (by omega)];exact h0) (q0u _ _ _) (by simpa using hl) (q1P (by omega) htk (by omega) hx)
      refine⟨H',?_,e2,fun c hc=>by rw[e3 c hc,q0a _ _ (Ne.symm hc)]⟩
      rw[←e1]
      rw[q1n f12_L1.eq_1]
      simp only[tabV] at h0
      simp only[mkI,stL]
      simp(disch:=first|decide|omega|(simp only[LN];first|done|omega)) only[SV,SW,Int.reduceNeg,Nat.reduceBEq,h2,Nat.reduceAdd,q0e,z0r,lose,q1o,q0y,Nat.reduceEqDiff]
      rfl
theorem q3F(H k b)(len:Nat)(lo mx:V) (c kd)(h:Int)(hw:q15 H b k=true)(h0:0≤h)(h1:h≤len∨h≤q4i H b):z1h H false false true false k (.bsx b 0 len) lo (.d c (.int kd h)) mx=some (.bsx b 0 h.toNat):=by
  have:(0:Int)≤h∧(h≤(len:Int)∨((0:Nat):Int)+h≤q4i H b):=⟨h0,by simpa using h1⟩
  simp [z1h,V.isStr,q9v,q4L,hw,h0]
  intro q
  omega
end Go.Vm
end

section
namespace Go.Vm
set_option maxRecDepth 20000
open Go.Proofs
abbrev Gl:=List (Nat×Glob)
def rowG(q:Nat×Glob):List V:=[.d false (.str q.2.name),.d false (.int .i64 q.2.arity),.bsx q.1 0 q.2.code.length]
def behG(z:Bool):List V:=[.d false (.str behN),.d false (.int .i64 0),.fs z 3 []]
def behD:List D:=[.str behN,.int .i64 0,.sl 3 []]
def numG(p:Nat):List Glob→Gl
 |[]=>[]
 |g :: r=>(p,g) :: numG (p+1) r
theorem q1c(gs:List Glob):∀ p,(numG p gs).length=gs.length:=by
 induction gs with
 |nil=>intro p;rfl
 |cons g r ih=>intro p;simp [numG,ih]
theorem q4o:∀(gs:List Glob)(p i:Nat),(numG p gs)[i]? = gs[i]?.map fun g=>(p+i,g)
 |[],p,i=>by simp [numG]
 |g :: r,p,0=>by simp [numG]
 |g :: r,p,i+1=>by
  simp only[numG,List.getElem?_cons_succ]
  rw[q4o r (p+1) i]
  congr 1
  funext x
  rw[show p+1+i=p+(i+1) by omega]
def q8Y(t:Table):List (List V):=(numG 4 t.globals).map rowG++[behG true,behG true]
theorem q6d(t:Table):(q8Y t).length=t.globals.length+2:=by simp [q8Y,q1c]
def GS(t:Table)(i:Nat)(blk:Blk):Prop:=
 (t.globals≠[]∧0<i∧∃ R,blk=.mix 3 R∧R.length=t.globals.length+2∧R.take i=(q8Y t).take i∧∀ r∈R,r.length=3)∨
 ((t.globals=[]∨i=0)∧∃ rows,blk=.dat true 3 rows∧rows.length=t.globals.length+2∧rows.take i=[behD,behD].take i∧∀ r∈rows,r.length=3)
def behC:List V:=[.d false (.str behN),.d false (.int .i64 0),.fs true 3 []]
theorem q91{α:Type}(new row:List α)(h1:new.length=3)(h2:row.length=3):splice 0 new row=new:=by
 simp only[splice,List.take_zero,List.nil_append,Nat.zero_add,h1]
 rw[List.drop_of_length_le (by omega),List.append_nil]
theorem q2r{α:Type}{R:List (List α)}{i:Nat}{row:List α}(h:∀ r∈R,r.length=3)(hr:row.length=3):∀ r∈R.set i row,r.length=3:=by
 intro r hm
 rcases List.mem_or_eq_of_mem_set hm with h1|h1
 ·exact h r h1
 ·rw[h1];exact hr
theorem z0e{R:List (List V)}{i:Nat}{cells:List V}(hi:i<R.length)(h:∀ r∈R,r.length=3)(hc:cells.length=3):(Blk.mix 3 R).set i 0 cells=some (.mix 3 (R.set i cells)):=by
 have h3:=h R[i] (List.getElem_mem hi)
 simp only[Blk.set,List.getElem?_eq_getElem hi]
 rw[if_pos (by omega),q91 _ _ hc h3]
theorem z1o{R:List (List D)}{i:Nat}{cells:List V}{ds:List D}(hi:i<R.length)(h:∀ r∈R,r.length=3)(hc:cells.length=3)(hd:mapO asD cells=some ds)(hn:cells.all V.new1=true) :
  (Blk.dat true 3 R).set i 0 cells=some (.dat true 3 (R.set i ds)):=by
 have h3:=h R[i] (List.getElem_mem hi)
 have hl:=(q0i hd).1
 simp only[Blk.set,List.getElem?_eq_getElem hi]
 rw[if_pos (by omega)]
 simp only[hd,hn,Bool.and_self,q91 ds R[i] (by omega) h3]
theorem z7F{R:List (List D)}{i:Nat}{cells:List V}(hi:i<R.length)(h:∀ r∈R,r.length=3)(hc:cells.length=3)(hd:mapO asD cells=none) :
  (Blk.dat true 3 R).set i 0 cells=some (.mix 3 ((R.map (·.map (mkd true))).set i cells)):=by
 have h3:=h R[i] (List.getElem_mem hi)
 simp only[Blk.set,List.getElem?_eq_getElem hi]
 rw[if_pos (by omega)]
 simp only[hd,q91 cells (R[i].map (mkd true)) hc (by simpa using h3)]
theorem z9q{t:Table}{i:Nat}{blk:Blk}(h:GS t i blk)(hi:i<t.globals.length):∃ b1 b2,blk.set i 0 behC=some b1∧blk.k=3∧b1.k=3∧b1.set i 0 (rowG (4+i,nth t.globals i))=some b2∧GS t (i+1) b2:=by
 have hne:t.globals≠[]:=by intro e;rw[e] at hi;simp at hi
 have hx:(q8Y t)[i]? = some (rowG (4+i,nth t.globals i)):=by
  unfold q8Y
  rw[List.getElem?_append_left (by simpa [q1c] using hi),List.getElem?_map,q4o,List.getElem?_eq_getElem hi,q05,List.getD_eq_getElem?_getD,List.getElem?_eq_getElem hi];rfl
 have lf:=q6d t
 rcases h with⟨_,h0,R,rfl,hl,htk,h3⟩|⟨h0,rows,rfl,hl,htk,h3⟩
 ·refine⟨_,_,z0e (by omega) h3 rfl,rfl,rfl,z0e (by simp;omega) (q2r h3 rfl) rfl,.inl ⟨hne,by omega,_,rfl,by simpa using hl,?_,q2r (q2r h3 rfl) rfl⟩⟩
  rw[List.set_set]
  exact q1P (by omega) htk (by omega) hx
 ·obtain rfl:i=0:=h0.resolve_left hne
  refine⟨_,_,z1o (ds:=behD) (by omega) h3 rfl rfl rfl,rfl,rfl,z7F (by simp;omega) (q2r h3 rfl) rfl rfl,.inl ⟨hne,by omega,_,rfl,by simpa using hl,?_,q2r (fun r hr=>?_) rfl⟩⟩
  ·exact q1P (by simp;omega) (by simp) (by omega) hx
  ·obtain⟨r',hr',rfl⟩:=List.mem_map.1 hr
   simpa using q2r h3 rfl r' hr'
theorem z9p{t:Table}{i:Nat}{blk:Blk}(h:GS t i blk)(hi:t.globals.length≤i)(hi2:i<t.globals.length+2):∃ b1,blk.set i 0 behC=some b1∧blk.k=3∧GS t (i+1) b1:=by
 have lf:=q6d t
 rcases h with⟨hne,h0,R,rfl,hl,htk,h3⟩|⟨h0,rows,rfl,hl,htk,h3⟩
 ·have hx:(q8Y t)[i]? = some behC:=by
   unfold q8Y
   rw[List.getElem?_append_right (by simpa [q1c] using hi),List.length_map,q1c]
   rcases Nat.lt_or_ge (i - t.globals.length) 1 with h|h
   ·rw[show i - t.globals.length=0 by omega];rfl
   ·rw[show i - t.globals.length=1 by omega];rfl
  refine⟨_,z0e (by omega) h3 rfl,rfl,.inl ⟨hne,by omega,_,rfl,by simpa using hl,q1P (by omega) htk (by omega) hx,q2r h3 rfl⟩⟩
 ·have hn:t.globals=[]:=by
   rcases h0 with h|h
   ·exact h
   ·subst h;exact List.length_eq_zero_iff.1 (by omega)
  have hl0:t.globals.length=0:=by rw[hn];rfl
  have hx:[behD,behD][i]? = some behD:=by
   rcases Nat.lt_or_ge i 1 with h|h
   ·rw[show i=0 by omega];rfl
   ·rw[show i=1 by omega];rfl
  refine⟨_,z1o (ds:=behD) (by omega) h3 rfl rfl rfl,rfl,.inr ⟨.inl hn,_,rfl,by simpa using hl,q1P (by simp;omega) htk (by simp;omega) hx,q2r h3 rfl⟩⟩
def gBlk(t:Table):Blk:=if t.globals=[] then .dat true 3 [behD,behD] else .mix 3 (q8Y t)
theorem j0V{t:Table}{blk:Blk}(h:GS t (t.globals.length+2) blk):blk=gBlk t:=by
 have lf:=q6d t
 unfold gBlk
 rcases h with⟨hne,h0,R,rfl,hl,htk,h3⟩|⟨h0,rows,rfl,hl,htk,h3⟩
 ·rw[if_neg hne,List.take_of_length_le (by omega),List.take_of_length_le (by omega)] at *
  rw[htk]
 ·have hn:t.globals=[]:=h0.resolve_right (by omega)
  have hl0:t.globals.length=0:=by rw[hn];rfl
  rw[if_pos hn]
  rw[List.take_of_length_le (by omega),List.take_of_length_le (by simp)] at htk
  rw[htk]
theorem gs_0(t:Table):GS t 0 (.dat true 3 (List.replicate (t.globals.length+2) [.str [],.int .i64 0,.sl 3 []])):=
 .inr ⟨.inr rfl,_,rfl,by simp,by simp,fun r hr=>by rw[(List.mem_replicate.1 hr).2];rfl⟩
theorem q3o{k b i len:Nat}{n:Int}{blk:Blk}(h:blk.k=k)(h0:0≤n)(h1:n<len):iaB k b i len n blk=some (.ptr b (i+n.toNat) 0):=if_pos ⟨h,h0,h1⟩
theorem q3y(n:Nat):((n:Int)+2).toNat=n+2:=by omega
set_option maxHeartbeats 1000000 in
theorem z97(K:Cx)(t:Table)(ht:Sm t)(i:Nat)(g:Glob)(H:List (Nat×Blk))(nx:Nat)(mv:List Nat)(hi:i<t.globals.length)(hg:nth t.globals i=g)(hnx:3<nx)(h0:look H 0=some (.mix 2 [tabV t]))
  (blk blk':Blk) (h3:look H 3=some blk) (hk:blk.k=3) (hset:blk.set i 0 [.d false (.str g.name),.d false (.int .i64 g.arity),.bsx nx 0 g.code.length]=some blk') :
  ∃ H',exec K f12_T0 ⟨[(1,.ptr 0 0 0),(2,.ptr 1 0 0),(3,.bsx 2 0 (t.shapes.length+2)),(5,.bsx 3 0 (t.globals.length+2)),(6,.d false (.int .i64 i)),(7,.d false (.int .i64 g.code.length)),(1000000000,.junk)],H,nx,mv⟩ =
   some (.nrm,⟨[(1,.ptr 0 0 0),(2,.ptr 1 0 0),(3,.bsx 2 0 (t.shapes.length+2)),(5,.bsx 3 0 (t.globals.length+2)),(6,.d false (.int .i64 i))],H',nx+1,mv⟩)∧
   look H' 3=some blk'∧look H' nx=some (.dat true 3 ((finI g.code).map q0j))∧∀ b,b≠3→b≠nx→look H' b=look H b:=by
 have hs:=ht.sh
 have hgl:=ht.gl
 have hm:g∈t.globals:=by rw[←hg,q05,List.getD_eq_getElem?_getD,List.getElem?_eq_getElem hi];exact List.getElem_mem hi
 have hcd:=ht.cd g hm
 obtain⟨H1,e1,e2,e3⟩:=z9k K t ht (nx+1) mv i nx g hi hg hnx (g.code.length+2) 0 ((nx,.dat true 3 ((List.replicate (g.code.length+2) (Instr.mk 0 0 0)).map q0j)) :: H) (List.replicate (g.code.length+2) ⟨0,0,0⟩) (by omega)
  (by rw[q21 _ _ (by omega)];exact h0) (q79 _ _ _) (by simp) (by simp)
 simp only[stL,List.cons_append,List.nil_append,Int.natCast_zero] at e1
 have g0:look H1 0=some (.mix 2 [tabV t]):=by rw[e3 0 (by omega),q21 _ _ (by omega)];exact h0
 have g3:look H1 3=some blk:=by rw[e3 3 (by omega),q21 _ _ (by omega)];exact h3
 have hc:=q3F H1 3 nx (g.code.length+2) (.tup []) (.tup []) false .i64 g.code.length (by simp [q15,e2,Blk.k]) (by omega) (by omega)
 refine⟨put H1 3 blk',?_,q0u _ _ _,by rw[q0a _ _ (by omega)];exact e2,fun b hb hb'=>by rw[q0a _ _ (Ne.symm hb),e3 b hb',q21 _ _ (Ne.symm hb')]⟩
 simp only[tabV] at g0
 rw[f12_T0.eq_1]
 simp(disch:=first|decide|omega|(simp only[LN];first|done|omega)) only[SV,SW,Nat.reduceEqDiff,Nat.reduceBEq,q75,Nat.reduceAdd,q3y,z9w,q0v,q0y,q1A,e1]
 have hia:=q3o (k:=3) (b:=3) (i:=0) (len:=t.globals.length+2) (n:=(i:Int)) hk (by omega) (by omega)
 simp(disch:=first|decide|omega|(simp only[LN];first|done|omega)) only[SV,SW,g3,hia,hc,g0,hg,q0k,Nat.reduceAdd,hset,lose]
structure G2(t:Table)(i:Nat)(H:List (Nat×Blk))(nx:Nat):Prop where
 h0:look H 0=some (.mix 2 [tabV t])
 nx:nx=4+min i t.globals.length
 gb:∃ blk,look H 3=some blk∧GS t i blk
 cd:∀ j,j<min i t.globals.length→look H (4+j)=some (.dat true 3 ((finI (nth t.globals j).code).map q0j))
set_option maxHeartbeats 1000000 in
theorem z9j(K:Cx)(t:Table)(ht:Sm t)(mv:List Nat):∀(k i:Nat)(H:List (Nat×Blk))(nx:Nat),i+k=t.globals.length+2→G2 t i H nx→
  ∃ H',lpk K [1,2,3,5,6] f12_L2 ⟨[(1,.ptr 0 0 0),(2,.ptr 1 0 0),(3,.bsx 2 0 (t.shapes.length+2)),(5,.bsx 3 0 (t.globals.length+2)),(6,.d false (.int .i64 i))],H,nx,mv⟩ =
   some (.exit 2,⟨[(1,.ptr 0 0 0),(2,.ptr 1 0 0),(3,.bsx 2 0 (t.shapes.length+2)),(5,.bsx 3 0 (t.globals.length+2))],H',4+t.globals.length,mv⟩)∧
   G2 t (t.globals.length+2) H' (4+t.globals.length)∧∀ b,b<3→look H' b=look H b:=by
 have hs:=ht.sh
 have hgl:=ht.gl
 intro k
 induction k with
 |zero=>
  intro i H nx hi hI
  obtain rfl:i=t.globals.length+2:=by omega
  obtain rfl:nx=4+t.globals.length:=by have:=hI.nx;omega
  refine⟨H,?_,hI,fun _ _=>rfl⟩
  rw[q1n f12_L2.eq_1]
  simp only[Int.natCast_add]
  simp(disch:=first|decide|omega|(simp only[LN];first|done|omega)) only[SV,SW,Nat.reduceBEq,q0v,q0y,Nat.reduceEqDiff,q2b]
 |succ k ih=>
  intro i H nx hi hI
  obtain⟨h0,hnx,⟨blk,h3,hgs⟩,hcd⟩:=hI
  by_cases hi2:i<t.globals.length
  ·obtain⟨b1,b2,s1,k1,k2,s2,hgs'⟩:=z9q hgs hi2
   generalize hg:nth t.globals (i:Int)=g at s2
   have hm:g∈t.globals:=by rw[←hg,q05,List.getD_eq_getElem?_getD,List.getElem?_eq_getElem hi2];exact List.getElem_mem hi2
   have hcl:=ht.cd g hm
   obtain⟨H1,e1,f3,fn,fo⟩:=z97 K t ht i g (put H 3 b1) nx mv hi2 hg (by omega) (by rw[q0a _ _ (by omega)];exact h0) b1 b2 (q0u _ _ _) k2 (by rw[show nx=4+i by omega];exact s2)
   obtain⟨H',e2,hI',hlow⟩:=ih (i+1) H1 (nx+1) (by omega) ⟨by rw[fo 0 (by omega) (by omega),q0a _ _ (by omega)];exact h0,by omega,⟨b2,f3,hgs'⟩,fun j hj=>by
    by_cases hji:j=i
    ·subst hji;rw[show 4+j=nx by omega,fn,hg]
    ·rw[fo _ (by omega) (by omega),q0a _ _ (by omega)];exact hcd j (by omega)⟩
   refine⟨H',?_,hI',fun b hb=>by rw[hlow b hb,fo b (by omega) (by omega),q0a _ _ (by omega)]⟩
   rw[←e2]
   rw[q1n f12_L2.eq_1]
   simp only[tabV] at h0
   simp only[behC,behN] at s1
   have hia:=q3o (k:=3) (b:=3) (i:=0) (len:=t.globals.length+2) (n:=(i:Int)) k1 (by omega) (by omega)
   clear hcd hlow fo ih hm
   simp(disch:=first|decide|omega|(simp only[LN];first|done|omega)) only[SV,SW,Nat.reduceBEq,h3,hia,Nat.reduceAdd,s1,lose,q0a,h0,hg,q0k,q0v,q0y,q80,Nat.reduceEqDiff,e1,q1o]
   rfl
  ·obtain⟨b1,s1,k1,hgs'⟩:=z9p hgs (by omega) (by omega)
   obtain⟨H',e2,hI',hlow⟩:=ih (i+1) (put H 3 b1) nx (by omega) ⟨by rw[q0a _ _ (by omega)];exact h0,by omega,⟨b1,q0u _ _ _,hgs'⟩,fun j hj=>by
    rw[q0a _ _ (by omega)];exact hcd j (by omega)⟩
   refine⟨H',?_,hI',fun b hb=>by rw[hlow b hb,q0a _ _ (by omega)]⟩
   rw[←e2]
   rw[q1n f12_L2.eq_1]
   simp only[tabV] at h0
   simp only[behC,behN] at s1
   have hia:=q3o (k:=3) (b:=3) (i:=0) (len:=t.globals.length+2) (n:=(i:Int)) k1 (by omega) (by omega)
   clear hcd hlow ih
   simp(disch:=first|decide|omega|(simp only[LN];first|done|omega)) only[SV,SW,Nat.reduceBEq,h3,hia,Nat.reduceAdd,s1,lose,q0a,h0,q1o,q0y,Nat.reduceEqDiff]
   rfl
end Go.Vm
end

section
namespace Go.Vm
set_option maxRecDepth 20000
open Go.Proofs
set_option maxHeartbeats 1000000 in
theorem z4C(K:Cx)(t:Table)(ht:Sm t):∃ H,exec K f12.body (startS [.agg (tabV t)] [])=some (.ret,⟨[(2,.ptr 1 0 0)],H,4+t.globals.length,[]⟩)∧
  look H 1=some (.mix 2 [[.bsx 2 0 t.shapes.length,.bsx 3 0 t.globals.length]])∧look H 2=some (.dat true 2 ((finS t).map q0c))∧look H 3=some (gBlk t)∧
  ∀ j,j<t.globals.length→look H (4+j)=some (.dat true 3 ((finI (nth t.globals j).code).map q0j)):=by
 have hs:=ht.sh
 have hgl:=ht.gl
 obtain⟨H0,e0,a2,ao⟩:=z9l K t ht 3 [] (t.shapes.length+2) 0 [(2,.dat true 2 ((List.replicate (t.shapes.length+2) (Shape.mk [] 0)).map q0c)),(1,.mix 2 [[.fs true 2 [],.fs true 3 []]]),(0,.mix 2 [tabV t])]
  (List.replicate (t.shapes.length+2) ⟨[],0⟩) (by omega) rfl rfl (by simp) (by simp)
 have b0:look H0 0=some (.mix 2 [tabV t]):=by rw[ao 0 (by omega)];rfl
 have b1:look H0 1=some (.mix 2 [[.fs true 2 [],.fs true 3 []]]):=by rw[ao 1 (by omega)];rfl
 obtain⟨H1,e1,hI,lo⟩:=z9j K t ht [] (t.globals.length+2) 0 ((3,.dat true 3 (List.replicate (t.globals.length+2) [.str [],.int .i64 0,.sl 3 []])) :: H0) 4 (by omega)
  ⟨by rw[q21 _ _ (by omega)];exact b0,by omega,⟨_,q79 _ _ _,gs_0 t⟩,fun j hj=>by omega⟩
 obtain⟨h0,_,⟨blk,h3,hgs⟩,hcd⟩:=hI
 obtain rfl:=j0V hgs
 have c1:look H1 1=some (.mix 2 [[.fs true 2 [],.fs true 3 []]]):=by rw[lo 1 (by omega),q21 _ _ (by omega)];exact b1
 have c2:look H1 2=some (.dat true 2 ((finS t).map q0c)):=by rw[lo 2 (by omega),q21 _ _ (by omega)];exact a2
 refine⟨put H1 1 (.mix 2 [[.bsx 2 0 t.shapes.length,.bsx 3 0 t.globals.length]]),?_,q0u _ _ _,by rw[q0a _ _ (by omega)];exact c2,by rw[q0a _ _ (by omega)];exact h3,fun j hj=>by
  rw[q0a _ _ (by omega)];exact hcd j (by omega)⟩
 have k3:(gBlk t).k=3:=by unfold gBlk;split <;> rfl
 have q1:=q3F H1 3 3 (t.globals.length+2) (.tup []) (.tup []) false .i64 t.globals.length (by simp [q15,h3,k3]) (by omega) (by omega)
 have q2:=q3F H1 2 2 (t.shapes.length+2) (.tup []) (.tup []) false .i64 t.shapes.length (by simp [q15,c2,Blk.k]) (by omega) (by omega)
 simp only[Int.natCast_zero] at e0 e1
 clear hcd lo ao hgs a2
 simp only[tabV] at h0 b0 b1 e0 e1 ⊢
 simp(disch:=first|decide|omega|(simp only[LN];first|done|omega)) only[SV,SW,f12,z8a,z8b,Nat.reduceAdd,Nat.reduceBEq,q0v,q0y,q80,Nat.reduceEqDiff,q75,q3y,z9u,q1A,e0,b0,List.isEmpty_nil]
 simp(disch:=first|decide|omega|(simp only[LN];first|done|omega)) only[SV,SW,e1,Nat.reduceBEq,h0,q1,q2,Nat.reduceAdd,c1,lose,q0v,q0y,Nat.reduceEqDiff]
def gB(z:Bool)(p:Nat)(gs:List Glob):Blk:=if gs=[] then .dat z 3 [behD,behD] else .mix 3 ((numG p gs).map rowG++[behG z,behG z])
def cB(z:Bool)(g:Glob):Blk:=.dat z 3 ((finI g.code).map q0j)
def tblk(z:Bool)(p:Nat)(t:Table):List Blk:=.dat z 2 ((finS t).map q0c) :: gB z p t.globals :: t.globals.map (cB z)
structure TB(H:List (Nat×Blk))(p:Nat)(z:Bool)(t:Table):Prop where
 s:look H p=some (.dat z 2 ((finS t).map q0c))
 g:look H (p+1)=some (gB z (p+2) t.globals)
 c:∀ j,j<t.globals.length→look H (p+2+j)=some (cB z (nth t.globals j))
theorem q1O(z p t):(tblk z p t).length=t.globals.length+2:=by simp [tblk]
theorem q0U{α:Type} [Inhabited α]{l:List α}{j:Nat}(h:j<l.length):l[j]? = some (nth l (j:Int)):=by
 rw[q05,List.getD_eq_getElem?_getD,List.getElem?_eq_getElem h];rfl
theorem TB.all{H:List (Nat×Blk)}{p:Nat}{z:Bool}{t:Table}(h:TB H p z t):∀ j,j<t.globals.length+2→look H (p+j)=(tblk z (p+2) t)[j]?:=by
 intro j hj
 match j,hj with
 |0,_=>rw[Nat.add_zero,h.s];rfl
 |1,_=>rw[h.g];rfl
 |j+2,hj=>
  rw[show p+(j+2)=p+2+j by omega,h.c j (by omega)]
  simp only[tblk,List.getElem?_cons_succ,List.getElem?_map,q0U (show j<t.globals.length by omega),Option.map_some]
theorem z3S(q:Nat×Glob):refsL (rowG q)=[q.1]:=rfl
theorem z5D(z):refsL (behG z)=[]:=rfl
theorem q88:∀(gs:List Glob)(p:Nat),((numG p gs).map rowG).flatMap refsL=List.range' p gs.length
 |[],_=>rfl
 |g :: r,p=>by
  simp only[numG,List.map_cons,List.flatMap_cons,z3S,q88 r (p+1),List.length_cons,List.range'_succ]
  rfl
theorem z4S(z p gs):(gB z p gs).refs=List.range' p gs.length:=by
 unfold gB
 split
 ·rename_i h;subst h;rfl
 ·simp only[Blk.refs,List.flatMap_append,q88,List.flatMap_cons,z5D,List.flatMap_nil,List.append_nil]
theorem z8T{H:List (Nat×Blk)}{b:Nat}{k:Blk}(h:look H b=some k):k.refs.length≤refN H:=by
 induction H with
 |nil=>simp [look] at h
 |cons q H ih=>
  obtain⟨c,x⟩:=q
  simp only[refN,List.map_cons,List.sum_cons]
  simp only[look] at h
  split at h
  ·obtain rfl:=Option.some.inj h;omega
  ·have:=ih h
   simp only[refN] at this
   omega
theorem q5l(H:List (Nat×Blk)):∀(todo:List Nat)(fuel:Nat)(done:List Nat),todo.Nodup→(∀ b∈todo,b∉done∧z6G (look H b)=[])→todo.length≤fuel→q0N H fuel done todo=done++todo
 |[],fuel,done,_,_,_=>by rw[q4Y,List.append_nil]
 |b :: r,0,done,_,_,h=>by simp at h
 |b :: r,fuel+1,done,hn,hd,hf=>by
  rw[List.nodup_cons] at hn
  have hb:=hd b (by simp)
  rw[q2W,show done.contains b=false by simpa using hb.1,q2p,hb.2,List.append_nil]
  rw[q5l H r fuel (done++[b]) hn.2 (fun c hc=>⟨by
   simp only[List.mem_append,List.mem_singleton,not_or]
   exact⟨(hd c (by simp [hc])).1,fun e=>hn.1 (e ▸ hc)⟩,(hd c (by simp [hc])).2⟩) (by simpa using hf)]
  simp
theorem TB.reach{H:List (Nat×Blk)}{p:Nat}{z:Bool}{t:Table}(h:TB H p z t):q0N H (refN H+64) [] [p,p+1]=List.range' p (t.globals.length+2):=by
 have hr:=z8T h.g
 rw[z4S,List.length_range'] at hr
 rw[show refN H+64=(refN H+62)+1+1 by omega,q2W]
 simp only[List.contains_nil,q2p,h.s,q4W,Blk.refs,List.append_nil,List.nil_append]
 rw[q2W,show [p].contains (p+1)=false by simp,q2p,h.g,q4W,z4S,List.nil_append]
 rw[q5l _ _ _ _ (List.nodup_range' (step:=1)) (fun b hb=>?_) (by simp;omega)]
 ·rw[show t.globals.length+2=(t.globals.length+1)+1 by omega,List.range'_succ,List.range'_succ]
  rfl
 ·rw[List.mem_range'_1] at hb
  refine⟨by simp;omega,?_⟩
  obtain⟨j,rfl⟩:∃ j,b=p+2+j:=⟨b - (p+2),by omega⟩
  rw[h.c j (by omega)];rfl
end Go.Vm
end
