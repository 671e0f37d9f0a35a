/-
  Parts of the proof: Drawn regions whose pieces overlap: what may be worked out late may be worked out in the next pieces too. Regions that draw, their operations told in another order. Code that passed the check does what the machine says. Functions: what they return. Loops and jumps, by their rounds. The machine by reckoning: with so many rounds at the most. What is known of functions over package-level tables, put together of what each one answers. Package strings' Builder: its methods, with all that they leave alone. Package strings' Builder: WriteByte, WriteString, Len, String. Package strings' Builder: String. What the machine knows of a Builder's methods. DERIVED: THE SHELF's CONTRACTS AT THIS DUMP, IN PLAIN WORDS (tools/lay-plain.mjs out of 'TryzShelf.lean', which tools/lay-shelf.mjs wrote): THE SAME DECLARATIONS UNDER THE SAME NAMES: 'import', 'namespace', 'open', 'def', 'theorem' AND NOTHING ELSE: no command of the shelf's: FOR A HAND-IN. Each laying: the table of numbers ('.._ren') and one theorem, a field a fact of the dump's own or the kernel's comparison; each contract: ONE APPLICATION. Package strings' Builder at this program: copyCheck, WriteByte, WriteString. Library functions at this program, told to the reckoning: IndexByte, Count, Itoa, Atoi, strings.Builder. Functions that defer one closure: no panic, the closure does nothing. The machine by reckoning: functions whose text goes with any number of blocks. The closures that code.Read and code.Load defer: without a panic they do nothing. The functions that both slothlaw17.awake and the document's Check run through, as the machine's text. Conditions: none.
-/
import Derived.Test.YtjpnaaebfdnccaaGreatDoorCodeChecksUptoCardSaidB
import Derived.Scope
import Derived.Laws.Sem
import Derived.Shelf.Strings.BuilderK
import Derived.Shelf.Strings.Builder1
import Derived.Shelf.Small.Strs
import Derived.Shelf.LaysM
import Derived.Shelf.Strconv.Itoa3
import Derived.Shelf.Strings.Count
import Derived.Shelf.Strconv.Atoi
import Derived.Test.YtjpnaaebfdnccaaGreatDoorProg
import Derived.Test.YtjpnaaebfdnccaaGreatDoorChecked
import Derived.Lib.LaidTab
import Derived.Lib.SmallJoins
import Derived.Below
import Derived.Recover
import Derived.KernelRfl
set_option linter.unusedVariables false
set_option linter.unusedSimpArgs false

section
namespace Go.Vm
open Go.RowKit
variable {P:Program}{K:Cx}{n:Nat}{X:Nat→Nat→Prop}{base:Nat}{w0:World}{F0:Nat→Prop}{m0:Nat}{σ0:Nat→Option Loc}{ops:Array Oper}{Q:Exit→Act→World→Prop}
def q7A(g:Seg)(R:List Rec)(is:List Nat):List Nat:=is.filter fun i=>R.any fun r=>r.i==i&&q2x g.late r
def wrIx(R:List Rec):Option Nat:=(R.find? (·.isWr)).map (·.i)
def z73(g:Seg)(R:List Rec)(pend:List Nat)(mds:List Nat)(R':List Rec):Bool:=
 R'.all (fun r=>!pend.contains r.i||R.any fun q=>decide (q.i=r.i)&&q2x g.late q&&decide (r.x=q.x)&&r.ch.isEmpty&&!r.isWr&&!r.isMk)&&g.late.all (E.free mds) &&
 R.all fun q=>!q2x g.late q||match q.o.dst with
  |some d=>!(g.lets.map (·.1)).contains d&&!g.keep.contains d
  |none=>true
def z7N(tab:List (List Nat))(size k j:Nat):Bool:=(List.range' k (size - k)).all fun x=>(tab.getD x []).contains j
def q01(P:Program)(ops:Array Oper)(n:Nat)(tab:List (List Nat)):List Nat→Nat→List Seg→Bool
 |_,_,[]=>false
 |L,k,[g]=>q7V (tabB tab) P ops n (L++List.range' k g.cnt) g&&(k+g.cnt==ops.size)
 |L,k,g :: g' :: gs=>q7V (tabB tab) P ops n (L++List.range' k g.cnt) g&&match recs (tabB tab) P ops (g.mks.map (·.1)) g.ef n (L++List.range' k g.cnt) [] with
  |none=>false
  |some R=>match wrIx R with
   |none=>(L++List.range' k g.cnt).all (z7N tab ops.size (k+g.cnt))&&q01 P ops n tab [] (k+g.cnt) (g' :: gs)
   |some wi=>z7N tab ops.size (k+g.cnt) wi&&(match recs (tabB tab) P ops (g'.mks.map (·.1)) g'.ef n (q7A g R (L++List.range' k g.cnt)++List.range' (k+g.cnt) g'.cnt) [] with
    |some R'=>z73 g R (q7A g R (L++List.range' k g.cnt)) (g'.mks.map (·.1)) R'
    |none=>false)&&q01 P ops n tab (q7A g R (L++List.range' k g.cnt)) (k+g.cnt) (g' :: gs)
def q4D(P:Program)(ops:Array Oper)(n:Nat)(gs:List Seg):Bool:=q01 P ops n (z1Y gs) [] 0 gs&&z3I ops.toList (z1Y gs)
theorem j1X{B:Nat→Nat→Bool}{is is':List Nat}{g g':Seg}{R R':List Rec}{s s1 s' s1' s'':S}{T T':Tr}{news news':List Blk}{l l':List (Nat×V)}{D:Nat→Prop}{a:Act}{w:World}{F:Nat→Prop}{σ:Nat→Option Loc}
  (h:Full (q1m P K ops B n R g s s1 T X base w0 F0 m0 σ0) is g s' news l) (h':Full (q1m P K ops B n R' g' s' s1' T' X base w0 F0 m0 σ0) is' g' s'' news' l')
  (hsame:∀ e∈g.late,ev K s' e=ev K s1 e)
  (hlink:∀ r∈R',D r.i→∃ q∈R,q.i=r.i∧q2x g.late q=true∧r.x=q.x∧r.ch=[]∧r.isWr=false∧r.isMk=false)
  (hfree:∀ e∈g.late,e.free (g'.mks.map (·.1))=true)
  (hsl:∀ q∈R,q2x g.late q=true→∀ d,q.o.dst=some d→look s'.rho d=none)
  (hW:Wrt (q1m P K ops B n R g s s1 T X base w0 F0 m0 σ0) g s' D a w F σ):Inv (q1m P K ops B n R' g' s' s1' T' X base w0 F0 m0 σ0) D a w F σ:=by
 have hnx:s'.nx≤s1'.nx:=h'.nx
 have oper:∀ r∈R',∀ q∈R,q.i=r.i→q.o=r.o:=by
  intro r hr q hq he
  have h1:=(h'.ok.good.split hr)
  have h2:=(h.ok.good.split hq)
  obtain⟨_,_,_,g1⟩:=h1
  obtain⟨_,_,_,g2⟩:=h2
  cases g1 with
  |cons _ _ _ e1 _ _ _=>
   cases g2 with
   |cons _ _ _ e2 _ _ _=>
    have e1':ops[r.i]? = some r.o:=e1
    have e2':ops[q.i]? = some q.o:=e2
    rw[he,e1'] at e2'
    exact(Option.some.inj e2').symm
 have nomk:∀ r∈R',D r.i→∀ d,r.o.dst=some d→d∉g'.mks.map (·.1):=by
  intro r hr hD d hd hm
  obtain⟨r2,hr2,hd2,hm2⟩:=h'.ok.covers d hm
  obtain⟨_,_,_,_,_,_,_,hmk⟩:=hlink r hr hD
  by_cases hri:r2.i=r.i
  ·obtain rfl:=h'.ok.good.inj r2 hr2 r hr hri
   rw[hmk] at hm2;cases hm2
  ·exact absurd hd (q3O h'.ok hr2 hr hri hd2)
 refine⟨⟨hW.heap.blk,hW.heap.inj,fun b l hb=>?_,hW.heap.fro⟩,hW.glob,hW.le,hW.frame,hW.frz,hW.size,hW.dfr,fun t v hv hn=>?_,fun r hr hD d hd hwr=>?_,fun d m v n0 nw hT ⟨r,hr,hD,hd⟩=>?_,fun d m v n0 nw hT hn b h1 h2=>?_,hW.stab,hW.sub⟩
 ·obtain⟨o1,o2⟩:=hW.heap.own b l hb
  exact⟨show b<s1'.nx by omega,o2⟩
 ·refine hW.rho t v hv fun q hq hD hd=>?_
  have:=hsl q hq (hW.rest q hq hD) t hd
  have hv':look s'.rho t=some v:=hv
  rw[this] at hv';cases hv'
 ·obtain⟨q,hq,hqi,hql,hx,hch,_,_⟩:=hlink r hr hD
  have ho:=oper r hr q hq hqi
  refine⟨fun _ v hv=>?_,fun hnw=>absurd (by rw[hch];exact fun p hp=>by simp at hp) hnw⟩
  obtain⟨e,hk,hqx,hel,_⟩:=q1Y hql
  obtain⟨val,hv1,hv2,_⟩:=h.ended.late e hel _ _ h.ended.mks
  have e1:ev K s1' e=ev K s' e:=by
   have hh:s1'.heap=s'.heap:=h'.ok.s1
   obtain⟨ρ1,H1,n1,u1⟩:=s1'
   obtain⟨ρ2,H2,n2,u2⟩:=s'
   simp only at hh
   subst hh
   exact q3u K ρ2 ρ1 H1 n2 n1 u2 u1 (fun t ht=>h'.ok.old t ht) e (hfree e hel)
  have hv':ev K s1' r.x=some v:=hv
  rw[hx,hqx,e1,hsame e hel] at hv'
  have hv2':ev K s1 e=some val:=hv2
  rw[hv2'] at hv'
  obtain rfl:=Option.some.inj hv'
  exact hW.ldone q hq (by rw[hqi];exact hD) hql d (by rw[ho];exact hd) val (by rw[hqx];exact hv1)
 ·exact absurd ((h'.ok.mds d).2 ⟨m,v,n0,nw,hT⟩) (nomk r hr hD d hd)
 ·have h0:s'.nx≤n0:=(h'.ok.evm d m v n0 nw hT).2.1
  cases hb:σ b with
  |none=>rfl
  |some l=>
   have:=(hW.heap.own b l hb).1
   omega
abbrev Li(listed:Array Bool):Nat→Prop:=fun i=>listed.getD i false=true
theorem q5e{tab:List (List Nat)}(ht:Tab ops tab)(is es:List Nat)(St:(Nat→Prop)→Act→World→Prop)(dom:(Nat→Prop)→Prop)
  (his:∀ i∈is,i<ops.size) (hdom:∀ D i,dom D→i∈is→dom (plus D i))
  (hin:∀ D i,dom D→¬(∀ j∈es,D j)→i<ops.size→¬ D i→(∀ j,tabB tab j i=true→D j)→i∈is) (hes:∀ j∈es,j<ops.size)
  (hstep:∀(D:Nat→Prop) (a:Act) (w:World) (i:Nat) (Kn:Act→World→Prop),i∈is→¬ D i→(∀ q,q<ops.size→D q→∀ p,tabB tab p q=true→D p)→(∀ q,tabB tab q i=true→D q)→St D a w→(∀ a' w',St (plus D i) a' w'→Kn a' w')→wpOp P ops Q i Kn a w)
  (hrest:∀(fuel:Nat) (listed:Array Bool) (a:Act) (w:World),listed.size=ops.size→q0w listed ops.size≤fuel→dom (Li listed)→(∀ i,i<ops.size→Li listed i→∀ j,tabB tab j i=true→Li listed j)→(∀ j∈es,Li listed j)→St (Li listed) a w→wpAny P .any ops Q fuel listed a w) :
  ∀(fuel:Nat) (listed:Array Bool) (a:Act) (w:World),listed.size=ops.size→q0w listed ops.size≤fuel→dom (Li listed)→(∀ i,i<ops.size→Li listed i→∀ j,tabB tab j i=true→Li listed j)→St (Li listed) a w→wpAny P .any ops Q fuel listed a w:=by
 intro fuel
 induction fuel with
 |zero=>
  intro listed a w hsz hfuel hd hdown hs
  have hall:∀ i,i<ops.size→Li listed i:=by
   intro i hi
   cases hl:listed.getD i false with
   |true=>exact hl
   |false=>
    have hm:i∈(List.range ops.size).filter fun i=>!listed.getD i true:=by
     simp only[List.mem_filter,List.mem_range,Bool.not_eq_true']
     exact⟨hi,by rw[q4E listed i hsz hi];exact hl⟩
    have:0<q0w listed ops.size:=List.length_pos_of_mem hm
    omega
  exact hrest 0 listed a w hsz hfuel hd hdown (fun j hj=>hall j (hes j hj)) hs
 |succ fuel ih=>
  intro listed a w hsz hfuel hd hdown hs
  by_cases hall:∀ j∈es,Li listed j
  ·exact hrest (fuel+1) listed a w hsz hfuel hd hdown hall hs
  ·refine⟨fun hr=>absurd (fun j hj=>z4i ht listed hsz hr j (hes j hj)) hall,fun i hi=>?_⟩
   obtain⟨h1,h2,o,ho,h3⟩:=q4p.1 hi
   rw[q4E listed i hsz h1] at h2
   have hpre:∀ j,tabB tab j i=true→Li listed j:=by
    intro j hj
    simp only[tabB,List.contains_eq_mem,decide_eq_true_eq] at hj
    obtain⟨e,he,h4⟩:=ht.clo i o ho j hj
    rcases h4 with rfl|h4
    ·exact h3 _ he
    ·exact hdown e (by have:=ht.lt i o ho e he;omega) (h3 e he) j (by simpa [tabB] using h4)
   have hnl:¬ Li listed i:=by show ¬(listed.getD i false=true);rw[h2];simp
   have hmi:i∈is:=hin _ i hd hall h1 hnl hpre
   have hlt:i<listed.size:=by omega
   have hset:Li (listed.setIfInBounds i true)=plus (Li listed) i:=by
    funext x
    show((listed.setIfInBounds i true).getD x false=true)=_
    rw[q1E listed i x hlt]
    simp only[plus,Li,eq_iff_iff]
    by_cases hx:x=i <;> simp [hx]
   exact hstep _ a w i (wpAny P .any ops Q fuel (listed.setIfInBounds i true)) hmi hnl (fun q hq hqD p hpq=>hdown q hq hqD p hpq) hpre hs (fun a' w' hs'=>by
     refine ih _ a' w' (by simpa using hsz) ?_ (by rw[hset];exact hdom _ i hd hmi) ?_ (by rw[hset];exact hs')
     ·have:q0w (listed.setIfInBounds i true) ops.size<q0w listed ops.size:=by
       unfold q0w
       have hsub:((List.range ops.size).filter fun x=>!(listed.setIfInBounds i true).getD x true)=((List.range ops.size).filter fun x=>!listed.getD x true).filter fun x=>decide (x≠i):=by
        rw[List.filter_filter]
        refine List.filter_congr fun x _=>?_
        rw[q1E listed i x hlt]
        by_cases hx:x=i
        ·simp [hx]
        ·simp [hx]
       rw[hsub]
       have hm:i∈(List.range ops.size).filter fun i=>!listed.getD i true:=by
        simp only[List.mem_filter,List.mem_range,Bool.not_eq_true']
        exact⟨h1,by rw[q4E listed i hsz h1];exact h2⟩
       exact List.length_filter_lt_length_iff_exists.2 ⟨i,hm,by simp⟩
      omega
     ·intro x hx hxl j hj
      rw[hset] at hxl ⊢
      rcases hxl with hxl|rfl
      ·exact .inl (hdown x hx hxl j hj)
      ·exact .inl (hpre j hj))
theorem z7Q{listed:Array Bool}(hsz:listed.size=ops.size)(hall:∀ i,i<ops.size→Li listed i){fuel:Nat}{a:Act}{w:World}(hQ:Q .normal a w):wpAny P .any ops Q fuel listed a w:=by
 have hr:Region.ready .any ops listed=[]:=by
  cases hr:Region.ready .any ops listed with
  |nil=>rfl
  |cons i t=>
   have:i∈Region.ready .any ops listed:=by rw[hr];simp
   obtain⟨h1,h2,_⟩:=q4p.1 this
   rw[q4E listed i hsz h1] at h2
   have:=hall i h1
   simp only[Li] at this
   rw[this] at h2
   cases h2
 cases fuel with
 |zero=>exact⟨hr,hQ⟩
 |succ fuel=>exact⟨fun _=>hQ,fun i hi=>by rw[hr] at hi;simp at hi⟩
theorem q4t{tab:List (List Nat)}:∀(gs:List Seg)(L:List Nat)(k:Nat),q01 P ops n tab L k gs=true→k≤ops.size
 |[],_,_,h=>by simp [q01] at h
 |[g],L,k,h=>by
  simp only[q01,Bool.and_eq_true,beq_iff_eq] at h
  omega
 |g :: g' :: gs,L,k,h=>by
  simp only[q01,Bool.and_eq_true] at h
  obtain⟨_,h⟩:=h
  split at h
  ·cases h
  ·split at h
   ·simp only[Bool.and_eq_true] at h
    have:=q4t (g' :: gs) _ _ h.2
    omega
   ·simp only[Bool.and_eq_true] at h
    have:=q4t (g' :: gs) _ _ h.2
    omega
theorem z8k{tab:List (List Nat)}{size k j i:Nat}(h:z7N tab size k j=true)(h1:k≤i)(h2:i<size):tabB tab j i=true:=by
 simp only[z7N,List.all_eq_true] at h
 exact h i (by rw[List.mem_range'_1];omega)
theorem z3F{R:List Rec}{wi:Nat}(h:wrIx R=some wi):∃ r∈R,r.isWr=true∧r.i=wi:=by
 simp only[wrIx,Option.map_eq_some_iff] at h
 obtain⟨r,hr,rfl⟩:=h
 exact⟨r,List.mem_of_find?_eq_some hr,List.find?_some hr,rfl⟩
theorem q5X(hK:K.Sound P){tab:List (List Nat)}(ht:Tab ops tab)(s':S)(hQ:∀ a w F σ,StRel K X base w0 F0 m0 σ0 n s' a w F σ→Q .normal a w):∀(gs:List Seg)(L:List Nat)(k:Nat)(s:S),q01 P ops n tab L k gs=true→q1K K s gs=some s'→
  (∀ j∈L,j<k)→(∀ b blk,look s.heap b=some blk→b<s.nx)→m0≤s.nx→(∀ b k,X b k→b<m0)→
  ∀(fuel:Nat) (listed:Array Bool) (a:Act) (w:World),listed.size=ops.size→q0w listed ops.size≤fuel→(∀ i,i<k→i∉L→Li listed i)→(∀ i,k≤i→¬ Li listed i)→(∀ i,i<ops.size→Li listed i→∀ j,tabB tab j i=true→Li listed j)→
   (∀ g gs',gs=g :: gs'→∀ R s1 T s2 news l,Full (q1m P K ops (tabB tab) n R g s s1 T X base w0 F0 m0 σ0) (L++List.range' k g.cnt) g s2 news l→Stage (q1m P K ops (tabB tab) n R g s s1 T X base w0 F0 m0 σ0) g s2 (Li listed) a w)→
   wpAny P .any ops Q fuel listed a w
 |[],_,_,_,hok,_,_,_,_,_=>by simp [q01] at hok
 |[g],L,k,s,hok,hev,hL,hdm,hnm,hxm=>by
  intro fuel listed a w hsz hfuel hlo hhi hdown hst
  simp only[q01,Bool.and_eq_true,beq_iff_eq] at hok
  obtain⟨hok1,hsize⟩:=hok
  simp only[q1K] at hev
  cases hg:q28 K s g with
  |none=>simp [hg] at hev
  |some s2=>
   simp only[hg,true_or,if_true,Option.some.injEq] at hev
   subst hev
   obtain⟨R,s1,T,news,l,hf⟩:=q3r (X:=X) (base:=base) (w0:=w0) (F0:=F0) (m0:=m0) (σ0:=σ0) hok1 hK hg hdm hnm hxm
   have hmem:∀ q∈R,q.i∈L++List.range' k g.cnt:=fun q hq=>(q0K hf.seg q.i).1 ⟨q,hq,rfl⟩
   have hlt:∀ i∈L++List.range' k g.cnt,i<ops.size:=fun i hi=>by
    rcases List.mem_append.1 hi with h|h
    ·have:=hL i h;omega
    ·rw[List.mem_range'_1] at h;omega
   refine q5e ht (L++List.range' k g.cnt) (L++List.range' k g.cnt) (Stage (q1m P K ops (tabB tab) n R g s s1 T X base w0 F0 m0 σ0) g s2) (fun D=>∀ i,i<k→i∉L→D i) hlt (fun D i hd _ j hj hjL=>.inl (hd j hj hjL))
    (fun D i hd _ hi hD _=>?_) hlt (fun D a w i Kn hi hD hdn hpre hs hKn=>?_) (fun fuel listed a w q1 q2 q3 q4 q5 hs=>?_) fuel listed a w hsz hfuel hlo hdown (hst g [] rfl R s1 T s2 news l hf)
   ·rcases Nat.lt_or_ge i k with h|h
    ·by_cases hiL:i∈L
     ·exact List.mem_append_left _ hiL
     ·exact absurd (hd i h hiL) hD
    ·exact List.mem_append_right _ (by rw[List.mem_range'_1];omega)
   ·obtain⟨r,hr,rfl⟩:=(q0K hf.seg i).2 hi
    exact q3z hf hs hr hD (fun q hq hqD p hp hpq=>hdn q.i (hlt _ (hmem q hq)) hqD p.i hpq) (fun q hq hqr=>hpre q.i hqr) hKn
   ·obtain⟨F,σ,hst2⟩:=q4b hf hs (fun r hr=>q5 r.i (hmem r hr))
    refine z7Q q1 (fun i hi=>?_) (hQ a w F σ hst2)
    by_cases h:i∈L++List.range' k g.cnt
    ·exact q5 i h
    ·refine q3 i ?_ (fun hiL=>h (List.mem_append_left _ hiL))
     rcases Nat.lt_or_ge i k with h2|h2
     ·exact h2
     ·exact absurd (List.mem_append_right _ (by rw[List.mem_range'_1];omega)) h
 |g :: g' :: gs,L,k,s,hok,hev,hL,hdm,hnm,hxm=>by
  intro fuel listed a w hsz hfuel hlo hhi hdown hst
  simp only[q01,Bool.and_eq_true] at hok
  obtain⟨hok1,hok⟩:=hok
  simp only[q1K] at hev
  cases hg:q28 K s g with
  |none=>simp [hg] at hev
  |some s2=>
   simp only[hg,reduceCtorEq,false_or] at hev
   split at hev
   case isFalse=>cases hev
   rename_i hsame
   obtain⟨R,s1,T,news,l,hf⟩:=q3r (X:=X) (base:=base) (w0:=w0) (F0:=F0) (m0:=m0) (σ0:=σ0) hok1 hK hg hdm hnm hxm
   have hrec:recs (tabB tab) P ops (g.mks.map (·.1)) g.ef n (L++List.range' k g.cnt) []=some R:=hf.seg.recs
   rw[hrec] at hok
   simp only at hok
   have hmem:∀ q∈R,q.i∈L++List.range' k g.cnt:=fun q hq=>(q0K hf.seg q.i).1 ⟨q,hq,rfl⟩
   have hkc:k+g.cnt≤ops.size:=by
    split at hok
    ·simp only[Bool.and_eq_true] at hok
     exact q4t _ _ _ hok.2
    ·simp only[Bool.and_eq_true] at hok
     exact q4t _ _ _ hok.2
   have hlt0:∀ i∈L++List.range' k g.cnt,i<k+g.cnt:=fun i hi=>by
    rcases List.mem_append.1 hi with h|h
    ·have:=hL i h;omega
    ·rw[List.mem_range'_1] at h;omega
   have hlt:∀ i∈L++List.range' k g.cnt,i<ops.size:=fun i hi=>Nat.lt_of_lt_of_le (hlt0 i hi) hkc
   obtain⟨hdm2,hnm2⟩:(∀ b blk,look s2.heap b=some blk→b<s2.nx)∧s.nx≤s2.nx:=by
    have hd1:=z0F hf
    have hn1:=hf.nx
    rcases hf.ended.wr with⟨_,he⟩|⟨d,wr,hw,_,he⟩|⟨d,wr,H,v,p,nx,hw,_,hev',he⟩
    ·subst he;exact⟨hd1,hn1⟩
    ·subst he;exact⟨hd1,hn1⟩
    ·subst he
     obtain⟨h1,h2⟩:=z1e hev' hd1
     exact⟨fun b blk hb=>by obtain⟨y,hy⟩:=q7z _ _ _ _ hb;exact h1 b y hy,Nat.le_trans hn1 h2⟩
   have hstep:∀(D:Nat→Prop) (a:Act) (w:World) (i:Nat) (Kn:Act→World→Prop),i∈L++List.range' k g.cnt→¬ D i→(∀ q,q<ops.size→D q→∀ p,tabB tab p q=true→D p)→(∀ q,tabB tab q i=true→D q)→
     Stage (q1m P K ops (tabB tab) n R g s s1 T X base w0 F0 m0 σ0) g s2 D a w→(∀ a' w',Stage (q1m P K ops (tabB tab) n R g s s1 T X base w0 F0 m0 σ0) g s2 (plus D i) a' w'→Kn a' w')→wpOp P ops Q i Kn a w:=fun D a w i Kn hi hD hdn hpre hs hKn=>by
    obtain⟨r,hr,rfl⟩:=(q0K hf.seg i).2 hi
    exact q3z hf hs hr hD (fun q hq hqD p hp hpq=>hdn q.i (hlt _ (hmem q hq)) hqD p.i hpq) (fun q hq hqr=>hpre q.i hqr) hKn
   have hdom:∀(D:Nat→Prop) i,((∀ i,i<k→i∉L→D i)∧∀ i,k+g.cnt≤i→¬ D i)→i∈L++List.range' k g.cnt→(∀ j,j<k→j∉L→plus D i j)∧∀ j,k+g.cnt≤j→¬ plus D i j:=fun D i hd hi=>⟨fun j hj hjL=>.inl (hd.1 j hj hjL),fun j hj=>by
    rintro(h|rfl)
    ·exact hd.2 j hj h
    ·have:=hlt0 _ hi;omega⟩
   have hinn:∀(D:Nat→Prop) i,((∀ i,i<k→i∉L→D i)∧∀ i,k+g.cnt≤i→¬ D i)→¬ D i→i<k+g.cnt→i∈L++List.range' k g.cnt:=fun D i hd hD hi=>by
    rcases Nat.lt_or_ge i k with h|h
    ·by_cases hiL:i∈L
     ·exact List.mem_append_left _ hiL
     ·exact absurd (hd.1 i h hiL) hD
    ·exact List.mem_append_right _ (by rw[List.mem_range'_1];omega)
   have h0:(∀ i,i<k→i∉L→Li listed i)∧∀ i,k+g.cnt≤i→¬ Li listed i:=⟨hlo,fun i hi=>hhi i (by omega)⟩
   cases hwi:wrIx R with
   |none=>
    simp only[hwi,Bool.and_eq_true,List.all_eq_true] at hok
    obtain⟨hbar,hok2⟩:=hok
    refine q5e ht (L++List.range' k g.cnt) (L++List.range' k g.cnt) (Stage (q1m P K ops (tabB tab) n R g s s1 T X base w0 F0 m0 σ0) g s2) (fun D=>(∀ i,i<k→i∉L→D i)∧∀ i,k+g.cnt≤i→¬ D i) hlt hdom
     (fun D i hd hne hi hD hpre=>?_) hlt hstep (fun fuel listed a w q1 q2 q3 q4 q5 hs=>?_) fuel listed a w hsz hfuel h0 hdown (hst g _ rfl R s1 T s2 news l hf)
    ·rcases Nat.lt_or_ge i (k+g.cnt) with h|h
     ·exact hinn D i hd hD h
     ·exact absurd (fun j hj=>hpre j (z8k (hbar j hj) h hi)) hne
    ·obtain⟨F,σ,hst2⟩:=q4b hf hs (fun r hr=>q5 r.i (hmem r hr))
     refine q5X hK ht s' hQ (g' :: gs) [] (k+g.cnt) s2 hok2 hev (fun j hj=>by simp at hj) hdm2 (Nat.le_trans hnm hnm2) hxm fuel listed a w q1 q2 (fun i hi _=>?_) q3.2 q4 (fun g1 gs1 he R' s1' T' s3 news' l' hf'=>?_)
     ·by_cases h:i∈L++List.range' k g.cnt
      ·exact q5 i h
      ·exact Classical.byContradiction fun hD=>h (hinn _ i q3 hD hi)
     ·refine(q0P (P:=P) (ops:=ops) (B:=tabB tab) (R:=R') (s':=s3) hf'.traced hst2).congr (fun r hr=>?_)
      have hri:=(q0K hf'.seg r.i).1 ⟨r,hr,rfl⟩
      rw[List.nil_append,List.mem_range'_1] at hri
      exact⟨fun h=>h.elim,fun h=>q3.2 r.i hri.1 h⟩
   |some wi=>
    simp only[hwi,Bool.and_eq_true] at hok
    obtain⟨⟨hbar,hlk⟩,hok2⟩:=hok
    obtain⟨rw0,hrw,hrww,hrwi⟩:=z3F hwi
    refine q5e ht (L++List.range' k g.cnt) [wi] (Stage (q1m P K ops (tabB tab) n R g s s1 T X base w0 F0 m0 σ0) g s2) (fun D=>(∀ i,i<k→i∉L→D i)∧∀ i,k+g.cnt≤i→¬ D i) hlt hdom
     (fun D i hd hne hi hD hpre=>?_) (fun j hj=>?_) hstep (fun fuel listed a w q1 q2 q3 q4 q5 hs=>?_) fuel listed a w hsz hfuel h0 hdown (hst g _ rfl R s1 T s2 news l hf)
    ·rcases Nat.lt_or_ge i (k+g.cnt) with h|h
     ·exact hinn D i hd hD h
     ·refine absurd (fun j hj=>?_) hne
      obtain rfl:j=wi:=by simpa using hj
      exact hpre j (z8k hbar h hi)
    ·obtain rfl:j=wi:=by simpa using hj
     rw[←hrwi]
     exact hlt _ (hmem rw0 hrw)
    ·have hwD:Li listed wi:=q5 wi (by simp)
     rcases hs with⟨hno,_⟩|⟨_,F,σ,hW⟩
     ·have:=hno rw0 hrw (by rw[hrwi];exact hwD)
      rw[hrww] at this;cases this
     ·refine q5X hK ht s' hQ (g' :: gs) (q7A g R (L++List.range' k g.cnt)) (k+g.cnt) s2 hok2 hev (fun j hj=>hlt0 j (List.mem_filter.1 hj).1) hdm2 (Nat.le_trans hnm hnm2) hxm fuel listed a w q1 q2 (fun i hi hnp=>?_) q3.2 q4 (fun g1 gs1 he R' s1' T' s3 news' l' hf'=>?_)
      ·refine Classical.byContradiction fun hD=>?_
       have hmi:=hinn _ i q3 hD hi
       obtain⟨r,hr,rfl⟩:=(q0K hf.seg i).2 hmi
       have hl:=hW.rest r hr hD
       refine hnp (List.mem_filter.2 ⟨hmi,?_⟩)
       simp only[List.any_eq_true]
       exact⟨r,hr,by simp [hl]⟩
      ·obtain⟨rfl,rfl⟩:=List.cons.inj he
       have hrec':recs (tabB tab) P ops (g'.mks.map (·.1)) g'.ef n (q7A g R (L++List.range' k g.cnt)++List.range' (k+g.cnt) g'.cnt) []=some R':=hf'.seg.recs
       rw[hrec'] at hlk
       simp only[z73,Bool.and_eq_true,List.all_eq_true] at hlk
       obtain⟨⟨hl1,hl2⟩,hl3⟩:=hlk
       have hpend:∀ r∈R',Li listed r.i→r.i∈q7A g R (L++List.range' k g.cnt):=fun r hr hD=>by
        rcases List.mem_append.1 ((q0K hf'.seg r.i).1 ⟨r,hr,rfl⟩) with h|h
        ·exact h
        ·rw[List.mem_range'_1] at h
         exact absurd hD (q3.2 r.i h.1)
       have hlink:∀ r∈R',Li listed r.i→∃ q∈R,q.i=r.i∧q2x g.late q=true∧r.x=q.x∧r.ch=[]∧r.isWr=false∧r.isMk=false:=fun r hr hD=>by
        have:=hl1 r hr
        simp only[Bool.or_eq_true,Bool.not_eq_true',List.any_eq_true,Bool.and_eq_true,decide_eq_true_eq,List.isEmpty_iff] at this
        rcases this with h|⟨q,hq,⟨⟨⟨⟨h1,h2⟩,h3⟩,h4⟩,h5⟩,h6⟩
        ·have h':=hpend r hr hD
         rw[List.contains_eq_mem,decide_eq_false_iff_not] at h
         exact absurd h' h
        ·exact⟨q,hq,h1,h2,h3,h4,h5,h6⟩
       refine .inl ⟨fun r hr hD=>(hlink r hr hD).choose_spec.2.2.2.2.2.1,F,σ,j1X hf hf' (fun e he'=>(hsame.resolve_left (by simp)) e he' _ _ hf.ended.mks) hlink hl2 (fun q hq hql d hd=>?_) hW⟩
       -- the slot of a late one is not known behind the piece
       have h3:=hl3 q hq
       simp only[hql,Bool.not_true,Bool.false_or,hd,Bool.and_eq_true,Bool.not_eq_true',List.contains_eq_mem,decide_eq_false_iff_not] at h3
       obtain⟨h4,h5⟩:=h3
       have hnone:look (l++q0f s1.rho g.keep) d=none:=by
        cases hh:look (l++q0f s1.rho g.keep) d with
        |none=>rfl
        |some u=>
         rw[q22] at hh
         cases hll:look l d with
         |some u2=>
          obtain⟨e2,he2,_⟩:=(q11 _ _ _ _ hf.ended.lets).1 d u2 hll
          exact absurd (List.mem_map.2 ⟨_,he2,rfl⟩) h4
         |none=>
          rw[hll] at hh
          exact absurd (q0z _ _ _ _ hh).1 h5
       have hlose:∀ p:Lost,look (lose p (l++q0f s1.rho g.keep)) d=none:=fun p=>by
        cases hh:look (lose p (l++q0f s1.rho g.keep)) d with
        |none=>rfl
        |some u=>
         obtain⟨y,hy,_⟩:=q6x _ _ _ _ hh
         rw[hnone] at hy;cases hy
       rcases hf.ended.wr with⟨_,he2⟩|⟨d0,wr,hw0,_,he2⟩|⟨d0,wr,H,v,p,nx,hw0,_,_,he2⟩
       ·subst he2;exact hnone
       ·subst he2;exact hnone
       ·subst he2
        cases d0 with
        |none=>exact hlose p
        |some d0=>
         simp only[look]
         split
         ·rename_i hdd
          subst hdd
          rcases hf.seg.wr with⟨_,hn0⟩|⟨r0,x0,hr0,hk0,hg0,_⟩
          ·rw[hn0] at hw0;cases hw0
          ·rw[hg0] at hw0
           simp only[Option.some.injEq,Prod.mk.injEq] at hw0
           have hqr:q.i≠r0.i:=fun e=>by
            obtain rfl:=hf.ok.good.inj q hq r0 hr0 e
            obtain⟨_,hkk,_⟩:=q1Y hql
            rw[hk0] at hkk;cases hkk
           exact absurd hw0.1 (q3O hf.ok hq hr0 hqr hd)
         ·exact hlose p
theorem q8k{id:Nat}{gs:List Seg}{s s':S}{a:Act}{w:World}{F:Nat→Prop}{σ:Nat→Option Loc}(hm:P.follows .mixedOrders=true)(hK:K.Sound P)(hok:q4D P ops n gs=true)(hev:q1K K s gs=some s')(hst:StRel K X base w0 F0 m0 σ0 n s a w F σ)
  (hQ:∀ a w F σ,StRel K X base w0 F0 m0 σ0 n s' a w F σ→Q .normal a w):(Code.region id ops true).wp P Q a w:=by
 simp only[q4D,Bool.and_eq_true] at hok
 refine wp_region_any hm ?_
 have hno:∀ i,(Array.replicate ops.size false).getD i false=false:=by
  intro i
  simp only[Array.getD_eq_getD_getElem?,Array.getElem?_replicate]
  split <;> rfl
 refine q5X hK (z0L hok.2) s' hQ gs [] 0 s hok.1 hev (fun j hj=>by simp at hj) hst.dom hst.nxm hst.xm ops.size _ a _ (by simp) ?_ (fun i hi=>by omega) (fun i _ h=>by simp only[Li] at h;rw[hno] at h;cases h) (fun i _ h=>by simp only[Li] at h;rw[hno] at h;cases h) (fun g gs' he R s1 T s2 news l hf=>?_)
 ·unfold q0w
  refine Nat.le_trans (List.length_filter_le _ _) ?_
  simp
 ·refine(q0P (P:=P) (ops:=ops) (B:=tabB (z1Y gs)) (R:=R) (s':=s2) hf.traced (hst.drawn _)).congr (fun r hr=>?_)
  exact⟨fun h=>h.elim,fun h=>by simp only[Li] at h;rw[hno] at h;cases h⟩
end Go.Vm
end

section
namespace Go.Vm
open Go.RowKit
variable {P:Program}{K:Cx}{n:Nat}{X:Nat→Nat→Prop}{base:Nat}{w0:World}{F0:Nat→Prop}{m0:Nat}{σ0:Nat→Option Loc}{ops:Array Oper}{Q:Exit→Act→World→Prop}
def q6j(π:List Nat)(o:Oper):Oper:={ o with after:=o.after.map fun e=>{ e with on:=π.idxOf e.on } }
def q2w(π:List Nat)(ops:Array Oper):Array Oper:=(π.map fun i=>q6j π ((ops[i]?).getD default)).toArray
def z4b(π:List Nat)(ops:Array Oper):Bool:=decide (π.length=ops.size)&&decide (π.Nodup)&&π.all (fun i=>decide (i<ops.size))&&(List.range ops.size).all (fun i=>π.contains i)&&ops.toList.all fun o=>o.guard.isNone
theorem q7N(π:List Nat)(o:Oper):q2A (q6j π o)=(q2A o).map π.idxOf:=by
 unfold q2A q6j
 simp only[Array.toList_map]
 induction o.after.toList with
 |nil=>rfl
 |cons e l ih=>
  simp only[List.map_cons,List.filter_cons]
  have hb:Region.binds .any ({ e with on:=π.idxOf e.on }:Edge)=Region.binds .any e:=rfl
  rw[hb]
  split
  ·simp only[List.map_cons,ih]
  ·exact ih
theorem z8Y(π:List Nat)(o:Oper)(a:Act)(w:World)(Kn:Act→World→Prop):(q6j π o).wp P a w Kn Q↔o.wp P a w Kn Q:=Iff.rfl
structure Perm(π:List Nat)(ops:Array Oper):Prop where
 len:π.length=ops.size
 nd:π.Nodup
 mem:∀ i,i∈π↔i<ops.size
 gd:∀(i:Nat) (o:Oper),ops[i]? = some o→o.guard=none
theorem z8W{π:List Nat}(h:z4b π ops=true):Perm π ops:=by
 simp only[z4b,Bool.and_eq_true,decide_eq_true_eq,List.all_eq_true,List.contains_eq_mem,List.mem_range,Option.isNone_iff_eq_none] at h
 obtain⟨⟨⟨⟨h1,h2⟩,h3⟩,h4⟩,h5⟩:=h
 refine⟨h1,h2,fun i=>⟨h3 i,fun hi=>by simpa using h4 i hi⟩,fun i o ho=>h5 o ?_⟩
 exact Array.mem_toList_iff.2 (Array.mem_of_getElem? ho)
theorem q6f{π:List Nat}(h:Perm π ops):(q2w π ops).size=ops.size:=by simp [q2w,h.len]
theorem z4I{π:List Nat}(h:Perm π ops){i:Nat}(hi:i<ops.size):π.idxOf i<ops.size:=by
 rw[←h.len];exact List.idxOf_lt_length_of_mem ((h.mem i).2 hi)
theorem j0T{π:List Nat}(h:Perm π ops){i:Nat}(hi:¬ i<ops.size):π.idxOf i=ops.size:=by
 rw[←h.len];exact List.idxOf_eq_length (fun hm=>hi ((h.mem i).1 hm))
theorem q7X{π:List Nat}(h:Perm π ops){i:Nat}{o:Oper}(ho:ops[i]? = some o):(q2w π ops)[π.idxOf i]? = some (q6j π o):=by
 have hi:i<ops.size:=(Array.getElem?_eq_some_iff.1 ho).1
 have hm:=(h.mem i).2 hi
 have hg:π[π.idxOf i]? = some i:=by
  rw[List.getElem?_eq_getElem (List.idxOf_lt_length_of_mem hm)]
  simp
 simp only[q2w,List.getElem?_toArray,List.getElem?_map,hg,Option.map_some,ho,Option.getD_some]
theorem z2e{bs:List Nat}(hn:bs.Nodup){i b:Nat}(h:bs[i]? = some b):bs.idxOf b=i:=by
 obtain⟨hi,rfl⟩:=List.getElem?_eq_some_iff.1 h
 exact hn.idxOf_getElem i hi
theorem q7t{π:List Nat}(h:Perm π ops){la lb:Array Bool}(ha:la.size=ops.size)(hb:lb.size=ops.size)(hl:∀ i,la.getD i false=lb.getD (π.idxOf i) false){i:Nat}(hi:i∈Region.ready .any ops la):π.idxOf i∈Region.ready .any (q2w π ops) lb:=by
 rw[q4p] at hi ⊢
 obtain⟨h1,h2,o,h3,h4⟩:=hi
 have hk:=z4I h h1
 refine⟨by rw[q6f h];exact hk,?_,_,q7X h h3,?_⟩
 ·have e1:lb.getD (π.idxOf i) true=lb.getD (π.idxOf i) false:=q4E lb (π.idxOf i) hb hk
  rw[e1,←hl,←q4E la i ha h1]
  exact h2
 ·rw[q7N]
  intro j hj
  obtain⟨j0,hj0,rfl⟩:=List.mem_map.1 hj
  rw[←hl]
  exact h4 j0 hj0
theorem z6J{π:List Nat}(h:Perm π ops):∀(fuel:Nat)(la lb:Array Bool)(a:Act)(w:World),la.size=ops.size→lb.size=ops.size→(∀ i,la.getD i false=lb.getD (π.idxOf i) false)→
  wpAny P .any (q2w π ops) Q fuel lb a w→wpAny P .any ops Q fuel la a w:=by
 have none_of:∀ {la lb:Array Bool},la.size=ops.size→lb.size=ops.size→(∀ i,la.getD i false=lb.getD (π.idxOf i) false)→Region.ready .any ops la=[]→Region.ready .any (q2w π ops) lb=[]:=by
  intro la lb ha hb hl h0
  refine List.eq_nil_iff_forall_not_mem.2 fun k hk=>?_
  rw[q4p] at hk
  obtain⟨k1,k2,o',k3,k4⟩:=hk
  rw[q6f h] at k1
  have hkm:k<π.length:=by rw[h.len];exact k1
  have hik:π.idxOf π[k]=k:=z2e h.nd (List.getElem?_eq_getElem hkm)
  have hi:π[k]<ops.size:=(h.mem _).1 (List.getElem_mem hkm)
  have ho:=Array.getElem?_eq_getElem hi
  have hg:=q7X h ho
  rw[hik,k3] at hg
  obtain rfl:=Option.some.inj hg
  have:π[k]∈Region.ready .any ops la:=by
   rw[q4p]
   refine⟨hi,?_,_,ho,fun j hj=>?_⟩
   ·rw[q4E la _ ha hi,hl,hik,←q4E lb k hb k1];exact k2
   ·rw[hl]
    refine k4 _ ?_
    rw[q7N]
    exact List.mem_map.2 ⟨j,hj,rfl⟩
  rw[h0] at this
  cases this
 intro fuel
 induction fuel with
 |zero=>
  intro la lb a w ha hb hl hw
  obtain⟨h1,h2⟩:=hw
  refine⟨List.eq_nil_iff_forall_not_mem.2 fun i hi=>?_,h2⟩
  have:=q7t h ha hb hl hi
  rw[h1] at this
  cases this
 |succ fuel ih=>
  intro la lb a w ha hb hl hw
  obtain⟨h1,h2⟩:=hw
  refine⟨fun h0=>h1 (none_of ha hb hl h0),fun i hi=>?_⟩
  have hk:=h2 _ (q7t h ha hb hl hi)
  rw[q4p] at hi
  obtain⟨q1,_,o,q3,_⟩:=hi
  have step:∀ a w,wpAny P .any (q2w π ops) Q fuel (lb.setIfInBounds (π.idxOf i) true) a w→wpAny P .any ops Q fuel (la.setIfInBounds i true) a w:=by
   intro a w hw
   refine ih _ _ a w (by simp [ha]) (by simp [hb]) (fun j=>?_) hw
   rw[q1E la i j (by omega) false,q1E lb (π.idxOf i) (π.idxOf j) (by rw[hb];exact z4I h q1) false,hl]
   by_cases hj:j=i
   ·subst hj;simp
   ·rw[if_neg hj]
    by_cases hjs:j<ops.size
    ·rw[if_neg]
     intro he
     have e1:π[π.idxOf j]'(List.idxOf_lt_length_of_mem ((h.mem j).2 hjs))=j:=by simp
     have e2:π[π.idxOf i]'(List.idxOf_lt_length_of_mem ((h.mem i).2 q1))=i:=by simp
     apply hj
     rw[←e1,←e2]
     congr 1
    ·rw[if_neg]
     intro he
     rw[j0T h hjs] at he
     have:=z4I h q1
     omega
  unfold wpOp at hk ⊢
  rw[q7X h q3] at hk
  rw[q3]
  have hg:=h.gd i o q3
  have w1:∀ y,Region.wanted (q6j π o) y=true:=fun y=>by
   have:(q6j π o).guard=none:=hg
   simp [Region.wanted,this]
  have w2:∀ y,Region.wanted o y=true:=fun y=>by simp [Region.wanted,hg]
  simp only[w1,w2,if_true] at hk ⊢
  exact hk.imp (fun h=>Oper.wp_mono step ((z8Y π o a w _).1 h)) (fun h=>h)
def q8m(P:Program)(ops:Array Oper)(n:Nat)(π:List Nat)(gs:List Seg):Bool:=z4b π ops&&q4D P (q2w π ops) n gs
theorem z2E{π:List Nat}{gs:List Seg}{s s':S}{a:Act}{w:World}{F:Nat→Prop}{σ:Nat→Option Loc}(hK:K.Sound P)(hok:q8m P ops n π gs=true)(hev:q1K K s gs=some s')(hst:StRel K X base w0 F0 m0 σ0 n s a w F σ)
  (hQ:∀ a w F σ,StRel K X base w0 F0 m0 σ0 n s' a w F σ→Q .normal a w):wpAny P .any ops Q ops.size (Array.replicate ops.size false) a { w with drawn:=w.drawn+1 }:=by
 simp only[q8m,q4D,Bool.and_eq_true] at hok
 obtain⟨hpm,hok⟩:=hok
 have hp:=z8W hpm
 refine z6J hp ops.size _ (Array.replicate ops.size false) a _ (by simp) (by simp) (fun i=>?_) ?_
 ·simp only[Array.getD_eq_getD_getElem?,Array.getElem?_replicate]
  split <;> split <;> rfl
 have hsz:=q6f hp
 generalize q2w π ops=ops' at hok hsz
 rw[←hsz]
 have hno:∀ i,(Array.replicate ops'.size false).getD i false=false:=by
  intro i
  simp only[Array.getD_eq_getD_getElem?,Array.getElem?_replicate]
  split <;> rfl
 refine q5X (ops:=ops') hK (z0L hok.2) s' hQ gs [] 0 s hok.1 hev (fun j hj=>by simp at hj) hst.dom hst.nxm hst.xm ops'.size _ a _ (by simp) ?_ (fun i hi=>by omega) (fun i _ h=>by simp only[Li] at h;rw[hno] at h;cases h) (fun i _ h=>by simp only[Li] at h;rw[hno] at h;cases h) (fun g gs' he R s1 T s2 news l hf=>?_)
 ·unfold q0w
  refine Nat.le_trans (List.length_filter_le _ _) ?_
  simp
 ·refine(q0P (P:=P) (ops:=ops') (B:=tabB (z1Y gs)) (R:=R) (s':=s2) hf.traced (hst.drawn _)).congr (fun r hr=>?_)
  exact⟨fun h=>h.elim,fun h=>by simp only[Li] at h;rw[hno] at h;cases h⟩
end Go.Vm
end

section
namespace Go.Vm
open Go.RowKit
variable {P:Program}{K:Cx}{n:Nat}{X:Nat→Nat→Prop}{base:Nat}{w0:World}{F0:Nat→Prop}{m0:Nat}{σ0:Nat→Option Loc}{Q:Exit→Act→World→Prop}
def one:List Seg→Option Seg
 |[g]=>some g
 |_=>none
def chk(P:Program)(m n:Nat):C→Code→Bool
 |.stuck,_=>true
 |.skip,.skip=>true
 |.reg l,.region _ ops draw=>if draw then z0y P ops n l else q4a P ops n 0 l
 |.seq (.tidy m' _) b,c=>m'==m&&chk P m n b c
 |.seq (.own t _) b,c=>decide (t<n)&&chk P m n b c
 |.seq (.keep _) b,c=>chk P m n b c
 |.seq (.frz m' _ _) b,c=>(m'==m)&&chk P m n b c
 |.seq (.ownc _ _ _) b,c=>chk P m n b c
 |.regl l,.region _ ops draw=>draw&&q4D P ops n l
 |.regp π l,.region _ ops draw=>draw&&q8m P ops n π l
 |.regg m' l,.region _ ops draw=>(m'==m)&&if draw then q8n P ops n l else q2T P ops n 0 l
 |.seq a b,.seq x y=>chk P m n a x&&chk P m n b y
 |.cond e a b,.cond c x y=>decide (q0h P [] 0 c=some e)&&chk P m n a x&&chk P m n b y
 |.block id c,.block id' x=>id==id'&&chk P m n c x
 |.loop c,.loop x=>chk P m n c x
 |.exit id,.exit id'=>id==id'
 |.scope c ls,.scope x=>chk P m n c x&&chk P m n ls x
 |.lnil,_=>true
 |.lcons l c ls,x=>(match findLabel x l with|some rest=>chk P m n c rest|none=>false)&&chk P m n ls x
 |.label l,.label l'=>l==l'
 |.goto l,.goto l'=>l==l'
 |.ret,.ret=>true
 |_,_=>false
def Ex.to:Ex→Exit
 |.nrm=>.normal
 |.exit id=>.exit id
 |.goto l=>.goto l
 |.ret=>.ret
def Post(K:Cx)(X:Nat→Nat→Prop)(base:Nat)(w0:World)(F0:Nat→Prop)(m0:Nat)(σ0:Nat→Option Loc)(n:Nat)(r:Ex×S)(e:Exit)(a:Act)(w:World):Prop:=
 e=r.1.to∧∃ F σ,StRel K X base w0 F0 m0 σ0 n r.2 a w F σ
theorem z4j{bs:List Nat}(hn:bs.Nodup){i b:Nat}(h:bs[i]? = some b):bs.idxOf b=i:=by
 obtain⟨hi,rfl⟩:=List.getElem?_eq_some_iff.1 h
 exact hn.idxOf_getElem i hi
theorem q6w(H:List (Nat×Blk))(bs0:List Nat):∀(bs:List Nat)(k i:Nat)(x:Blk),look ((bs.zipIdx k).filterMap fun p=>(look H p.1).map fun blk=>(p.2,blk.ren bs0.idxOf)) i=some x→k≤i∧∃ b x0,bs[i - k]? = some b∧look H b=some x0∧x=x0.ren bs0.idxOf
 |[],k,i,x,h=>by simp [look] at h
 |b :: bs,k,i,x,h=>by
  simp only[List.zipIdx_cons,List.filterMap_cons] at h
  have rest:look ((bs.zipIdx (k+1)).filterMap fun p=>(look H p.1).map fun blk=>(p.2,blk.ren bs0.idxOf)) i=some x→k≤i∧∃ b' x0,(b :: bs)[i - k]? = some b'∧look H b'=some x0∧x=x0.ren bs0.idxOf:=by
   intro h
   obtain⟨h1,b',x0,h2,h3,h4⟩:=q6w H bs0 bs (k+1) i x h
   refine⟨by omega,b',x0,?_,h3,h4⟩
   have:i - k=(i - (k+1))+1:=by omega
   rw[this,List.getElem?_cons_succ]
   exact h2
  cases hb:look H b with
  |none=>
   simp only[hb,Option.map_none] at h
   exact rest h
  |some x0=>
   simp only[hb,Option.map_some,look] at h
   split at h
   ·rename_i he
    subst he
    exact⟨Nat.le_refl _,b,x0,by simp,hb,(Option.some.inj h).symm⟩
   ·exact rest h
theorem StRel.tidy{s s':S}{a:Act}{w:World}{F:Nat→Prop}{σ:Nat→Option Loc}{slots:List Nat}(ht:q5z m0 slots s=some s')(h:StRel K X base w0 F0 m0 σ0 n s a w F σ):∃ σ',StRel K X base w0 F0 m0 σ0 n s' a w F σ':=by
 unfold q5z at ht
 simp only at ht
 split at ht
 case isFalse=>cases ht
 rename_i hc
 obtain rfl:=Option.some.inj ht
 generalize hbs:q0N s.heap (refN s.heap+64) [] (List.range m0++refsL ((q0f s.rho slots).map (·.2)))=bs at hc
 simp only[Bool.and_eq_true,decide_eq_true_eq,List.all_eq_true] at hc
 obtain⟨⟨⟨hnd,hpre⟩,hwi⟩,hcl⟩:=hc
 simp only[closedB,List.all_eq_true] at hcl
 have hF:∀ b,F b→F b∧w.heap[b]? = w.heap[b]?:=fun b hb=>⟨hb,rfl⟩
 have hσ:∀ b l,bs.contains b=true→σ b=some l→inn bs σ (bs.idxOf b)=some l:=fun b l h1 h2=>by rw[z0l (by simpa using h1)];exact h2
 refine⟨inn bs σ,⟨fun i x hx=>?_,fun i j l l' h1 h2 he=>?_,fun i l hi=>?_,h.heap.fro⟩,h.glob,h.le,h.frame,h.frz,h.size,h.dfr,fun t v hv=>?_,fun i x hx=>?_,fun b l hb h0 hm=>?_,?_,h.xm,h.sub⟩
 ·obtain⟨_,b,x0,h1,h2,rfl⟩:=q6w s.heap bs bs 0 i x hx
  rw[Nat.sub_zero] at h1
  have hσi:inn bs σ i=σ b:=by unfold inn;rw[h1]
  have hb:=hcl b (List.mem_of_getElem? h1)
  rw[h2] at hb
  exact(h.heap.blk b x0 h2).ren (w':=w) (F':=F) (p:=bs.contains) hF (fun _ _ h=>h) hσ hb (fun l hl=>by rw[hσi];exact hl) (fun hl=>by rw[hσi];exact hl) (fun _ _=>rfl)
 ·obtain⟨b,hb1,h3⟩:=q1d h1
  obtain⟨b',hb2,h4⟩:=q1d h2
  obtain rfl:=h.heap.inj b b' l l' h3 h4 he
  exact(List.getElem?_inj (List.getElem?_eq_some_iff.1 hb1).1 hnd).1 (hb1.trans hb2.symm)
 ·obtain⟨b,hb1,h3⟩:=q1d hi
  obtain⟨_,o2,o3,o4⟩:=h.heap.own b l h3
  refine⟨(List.getElem?_eq_some_iff.1 hb1).1,o2,o3.imp id (fun hx=>?_),o4⟩
  have hbm:=h.xm b _ hx
  have:bs[b]? = some b:=by
   have:(bs.take m0)[b]? = some b:=by rw[hpre];simp [hbm]
   simpa [List.getElem?_take,hbm] using this
  have:=(List.getElem?_inj (List.getElem?_eq_some_iff.1 hb1).1 hnd).1 (hb1.trans this.symm)
  rw[this]
  exact hx
 ·simp only at hv
  rw[show((q0f s.rho slots).map fun p=>(p.1,p.2.ren bs.idxOf))=(q0f s.rho slots).map fun(t,v)=>(t,(V.ren bs.idxOf) v) from rfl,q2K] at hv
  simp only[Option.map_eq_some_iff] at hv
  obtain⟨v0,h1,rfl⟩:=hv
  have hm:=z01 _ _ _ h1
  exact((h.rho t v0 (q0z _ _ _ _ h1).2).ren (base':=base) (fun _ _ h=>h) hσ (hwi _ hm))
 ·obtain⟨_,b,x0,h1,_⟩:=q6w s.heap bs bs 0 i x hx
  rw[Nat.sub_zero] at h1
  exact(List.getElem?_eq_some_iff.1 h1).1
 ·have hb2:bs[b]? = some b:=by
   have:(bs.take m0)[b]? = some b:=by rw[hpre];simp [hb]
   simpa [List.getElem?_take,hb] using this
  unfold inn
  rw[hb2]
  refine h.stab b l hb h0 fun hm'=>hm ?_
  simp only[List.mem_filter,List.mem_range]
  exact⟨hb,by simpa using hm'⟩
 ·have:=congrArg List.length hpre
  simp only[List.length_take,List.length_range] at this
  show m0≤bs.length
  omega
theorem StRel.own{s:S}{a:Act}{w:World}{F:Nat→Prop}{σ:Nat→Option Loc}{t k k':Nat}{c:Bool}(hl:look s.rho t=some (.fs c k' []))(h:StRel K X base w0 F0 m0 σ0 n s a w F σ) :
  StRel K X base w0 F0 m0 σ0 n ⟨put s.rho t (.bsl s.nx 0 0),(s.nx,.dat true k []) :: s.heap,s.nx+1,s.mv⟩ a w F σ:=by
 have hnone:σ s.nx=none:=by
  cases hs:σ s.nx with
  |none=>rfl
  |some l=>have:=(h.heap.own _ l hs).1;omega
 refine⟨⟨fun b blk hb=>?_,h.heap.inj,fun b l hb=>⟨by have:=(h.heap.own b l hb).1;show b<s.nx+1;omega,(h.heap.own b l hb).2⟩,h.heap.fro⟩,h.glob,h.le,h.frame,h.frz,h.size,h.dfr,fun u v hv=>?_,fun b blk hb=>?_,h.stab,by have:=h.nxm;show m0≤s.nx+1;omega,h.xm,h.sub⟩
 ·simp only[look] at hb
  split at hb
  ·rename_i he
   subst he
   obtain rfl:=Option.some.inj hb
   exact .inl ⟨rfl,hnone⟩
  ·exact h.heap.blk b blk hb
 ·simp only at hv
  rw[q0x] at hv
  split at hv
  ·rename_i he
   subst he
   obtain rfl:=Option.some.inj hv
   have:=h.rho t _ hl
   generalize a.tmps.getD t undef=u at this ⊢
   cases this with
   |fs _ ad len _ _ hd=>
    cases hd with
    |sl0=>exact .bsl0 _ _ _
    |sl b o l cap k rows g h1=>simp at h1;subst h1;exact .bsl0 _ _ _
  ·exact h.rho u v hv
 ·simp only[look] at hb
  split at hb
  ·rename_i he;show b<s.nx+1;omega
  ·have:=h.dom b blk hb;show b<s.nx+1;omega
theorem StRel.ownc{s:S}{a:Act}{w:World}{F:Nat→Prop}{σ:Nat→Option Loc}(t j k:Nat)(h:StRel K X base w0 F0 m0 σ0 n s a w F σ):StRel K X base w0 F0 m0 σ0 n (z6K t j k s) a w F σ:=by
 unfold z6K
 split
 case h_2=>exact h
 rename_i b hb
 split
 case h_2=>exact h
 rename_i k0 row hrow
 split
 case h_2=>exact h
 rename_i c k' hj
 split
 case isFalse=>exact h
 have hnone:σ s.nx=none:=by
  cases hs:σ s.nx with
  |none=>rfl
  |some l=>have:=(h.heap.own _ l hs).1;omega
 refine⟨⟨fun i blk hi=>?_,h.heap.inj,fun b l hb=>⟨by have:=(h.heap.own b l hb).1;show b<s.nx+1;omega,(h.heap.own b l hb).2⟩,h.heap.fro⟩,h.glob,h.le,h.frame,h.frz,h.size,h.dfr,h.rho,fun i blk hi=>?_,h.stab,by have:=h.nxm;show m0≤s.nx+1;omega,h.xm,h.sub⟩
 ·simp only[look] at hi
  split at hi
  ·rename_i he
   subst he
   obtain rfl:=Option.some.inj hi
   exact .inl ⟨rfl,hnone⟩
  ·rw[q0x] at hi
   split at hi
   ·rename_i he
    subst he
    obtain rfl:=Option.some.inj hi
    rcases h.heap.blk b _ hrow with⟨hz,_⟩|⟨_,_,_,_,hmap,_⟩|⟨lb,cs,T,q1,q2,q3,q4,q5,q6,q7⟩
    ·simp [Blk.n] at hz
    ·cases hmap
    ·refine .inr (.inr ⟨lb,cs,T,q1,q2,q3,q4,q5,fun i r hr=>?_,rfl⟩)
     cases i with
     |succ i=>simp [Blk.row?] at hr
     |zero=>
      simp only[Blk.row?,List.getElem?_cons_zero,Option.some.injEq] at hr
      subst hr
      obtain⟨g1,g2⟩:=q6 0 row rfl
      refine⟨by simpa [Blk.k] using g1,fun jj x hx=>?_⟩
      by_cases hjj:j=jj
      ·subst hjj
       have hlt:j<row.length:=(List.getElem?_eq_some_iff.1 hj).1
       rw[List.getElem?_set_self (by simpa using hlt)] at hx
       obtain rfl:=Option.some.inj hx
       obtain⟨v,g3,g4,g5⟩:=g2 j _ hj
       refine⟨v,g3,g4,?_⟩
       cases g5 with
       |fs _ ad len _ _ hd=>
        cases hd with
        |sl0=>exact .bsl0 _ _ _
        |sl b o l cap k rows g h1=>simp at h1;subst h1;exact .bsl0 _ _ _
      ·rw[List.getElem?_set_ne hjj] at hx
       exact g2 jj x hx
   ·exact h.heap.blk i blk hi
 ·simp only[look] at hi
  split at hi
  ·rename_i he;show i<s.nx+1;omega
  ·rw[q0x] at hi
   split at hi
   ·rename_i he;subst he;have:=h.dom _ _ hrow;show b<s.nx+1;omega
   ·have:=h.dom i blk hi;show i<s.nx+1;omega
theorem q7b{c:Code}(J:Nat→Act→World→Prop)(h0:∀ a w,¬ J 0 a w)(round:∀ m a w,J (m+1) a w→c.wp P (Exit.then (J m) Q) a w){m:Nat}{a:Act}{w:World}(h:J m a w):(Code.loop c).wp P Q a w:=by
 intro b k cs
 have key:∀ m a w,J m a w→∃ e a' w',Q e a' w'∧Arrives P (lone (b.at a (.code c :: .inLoop c :: k)) cs w) b k cs e a' w':=by
  intro m
  induction m with
  |zero=>intro a w h;exact absurd h (h0 a w)
  |succ m ih=>
   intro a w hI
   obtain⟨e,a₁,w₁,hq,harr⟩:=round m a w hI b (.inLoop c :: k) cs
   cases e with
   |normal=>
    obtain⟨e₂,a₂,w₂,hq₂,harr₂⟩:=ih a₁ w₁ hq
    exact⟨e₂,a₂,w₂,hq₂,.of_steps (Steps.trans harr (.one step_inLoop)) harr₂⟩
   |exit id=>exact⟨_,a₁,w₁,hq,.pass (x:=.inLoop c) rfl (fun _ _=>.inl (by simp)) harr⟩
   |goto l=>exact⟨_,a₁,w₁,hq,.pass (x:=.inLoop c) rfl (fun _ _=>.inl (by simp)) harr⟩
   |ret=>exact⟨_,a₁,w₁,hq,.pass (x:=.inLoop c) rfl (fun _ _=>.inl (by simp)) harr⟩
   |panic ch=>exact⟨_,a₁,w₁,hq,.pass (x:=.inLoop c) rfl (fun _ _=>.inl (by simp)) harr⟩
   |outgrown=>exact⟨_,a₁,w₁,hq,.pass (x:=.inLoop c) rfl (fun _ _=>.inl (by simp)) harr⟩
 obtain⟨e,a',w',hq,harr⟩:=key m a w h
 exact⟨e,a',w',hq,.of_steps (.one step_loop) harr⟩
theorem z4N{a:Act}{w:World}{F:Nat→Prop}{σ:Nat→Option Loc}{s:S}(h:StRel K X base w0 F0 m0 σ0 n s a w F σ){x:Operand}{t:TypeId}{e:E}{r:V}(he:q0h P [] t x=some e)(hr:ev K s e=some r):RepV w F base σ (a.eval x) r:=by
 have:Held P K s [] w F base σ a x:=by
  cases x with
  |const v=>exact q45
  |global g=>exact q6F h.glob
  |func f=>exact q6G
  |tmp t=>
   refine q8a fun r hr=>?_
   simp only[Env.get,look,ev] at hr
   exact h.rho t r hr
 exact this t e r he hr
def Exit.jumpR(J:Nat→Act→World→Prop)(Q:Exit→Act→World→Prop):Exit→Act→World→Prop
 |.goto l,a,w=>J l a w
 |e,a,w=>Q e a w
theorem q50{c:Code}(J:Nat→Nat→Act→World→Prop)(h0:∀ l a w,¬ J 0 l a w)(round:∀ m l a w,J (m+1) l a w→∃ rest,findLabel c l=some rest∧rest.wp P (Exit.jumpR (J m) Q) a w){m:Nat}{a:Act}{w:World}(first:c.wp P (Exit.jumpR (J m) Q) a w):(Code.scope c).wp P Q a w:=by
 intro b k cs
 have key:∀ m l rest a w,findLabel c l=some rest→J m l a w→∃ e a' w',Q e a' w'∧Arrives P (lone (b.at a (.code rest :: .inScope c :: k)) cs w) b k cs e a' w':=by
  intro m
  induction m with
  |zero=>intro l rest a w _ h;exact absurd h (h0 l a w)
  |succ m ih=>
   intro l rest a w hf hJ
   obtain⟨rest',hf',hwp⟩:=round m l a w hJ
   rw[hf] at hf'
   obtain rfl:=Option.some.inj hf'
   obtain⟨e,a₁,w₁,hq,harr⟩:=hwp b (.inScope c :: k) cs
   cases e with
   |normal=>exact⟨.normal,a₁,w₁,hq,Steps.trans harr (.one step_inScope)⟩
   |exit id=>exact⟨.exit id,a₁,w₁,hq,fun k' hk=>harr k' (by simp [exitTo,hk])⟩
   |goto l'=>
    have hq':J m l' a₁ w₁:=hq
    cases m with
    |zero=>exact absurd hq' (h0 l' a₁ w₁)
    |succ m=>
     obtain⟨rest2,hf2,_⟩:=round m l' a₁ w₁ hq'
     obtain⟨e₂,a₂,w₂,hq₂,harr₂⟩:=ih l' rest2 a₁ w₁ hf2 hq'
     have hg:gotoIn l' (.inScope c :: k)=some (.code rest2 :: .inScope c :: k):=by simp [gotoIn,hf2]
     exact⟨e₂,a₂,w₂,hq₂,.of_steps (harr _ hg) harr₂⟩
   |ret=>exact⟨_,a₁,w₁,hq,harr⟩
   |panic ch=>exact⟨_,a₁,w₁,hq,harr⟩
   |outgrown=>exact⟨_,a₁,w₁,hq,harr⟩
 obtain⟨e,a₁,w₁,hq,harr⟩:=first b (.inScope c :: k) cs
 cases e with
 |normal=>exact⟨.normal,a₁,w₁,hq,.head step_scope (Steps.trans harr (.one step_inScope))⟩
 |exit id=>exact⟨.exit id,a₁,w₁,hq,fun k' hk=>.head step_scope (harr k' (by simp [exitTo,hk]))⟩
 |goto l'=>
  have hq':J m l' a₁ w₁:=hq
  cases m with
  |zero=>exact absurd hq' (h0 l' a₁ w₁)
  |succ m=>
   obtain⟨rest2,hf2,_⟩:=round m l' a₁ w₁ hq'
   obtain⟨e₂,a₂,w₂,hq₂,harr₂⟩:=key _ l' rest2 a₁ w₁ hf2 hq'
   have hg:gotoIn l' (.inScope c :: k)=some (.code rest2 :: .inScope c :: k):=by simp [gotoIn,hf2]
   exact⟨e₂,a₂,w₂,hq₂,.of_steps (.head step_scope (harr _ hg)) harr₂⟩
 |ret=>exact⟨_,a₁,w₁,hq,.of_steps (.one step_scope) harr⟩
 |panic ch=>exact⟨_,a₁,w₁,hq,.of_steps (.one step_scope) harr⟩
 |outgrown=>exact⟨_,a₁,w₁,hq,.of_steps (.one step_scope) harr⟩
theorem z47(hm:P.follows .mixedOrders=true)(hK:K.Sound P):∀(c:C),(∀(code:Code)(s:S)(r:Ex×S)(a:Act)(w:World)(F:Nat→Prop)(σ:Nat→Option Loc),chk P m0 n c code=true→exec K c s=some r→StRel K X base w0 F0 m0 σ0 n s a w F σ→
  code.wp P (Post K X base w0 F0 m0 σ0 n r) a w)∧
  ∀(code:Code) (l:Nat) (g:S→Option (Ex×S)),chk P m0 n c code=true→exec.labelled K c l=some g→∃ rest,findLabel code l=some rest∧∀(s:S) (r:Ex×S) (a:Act) (w:World) (F:Nat→Prop) (σ:Nat→Option Loc),g s=some r→StRel K X base w0 F0 m0 σ0 n s a w F σ→rest.wp P (Post K X base w0 F0 m0 σ0 n r) a w:=by
 intro c
 induction c with
 |skip=>
  refine⟨?_,fun code l g _ h=>by simp [exec.labelled] at h⟩
  intro code s r a w F σ hc he hs
  cases code <;> simp only[chk] at hc <;> (try(cases hc;done))
  simp only[exec,Option.some.injEq] at he
  subst he
  exact wp_skip ⟨rfl,F,σ,hs⟩
 |ownc t j k=>
  refine⟨?_,fun code l g _ h=>by simp [exec.labelled] at h⟩
  intro code s r a w F σ hc he hs
  cases code <;> simp [chk] at hc
 |regl l=>
  refine⟨?_,fun code l g _ h=>by simp [exec.labelled] at h⟩
  intro code s r a w F σ hc he hs
  cases code <;> simp only[chk] at hc <;> (try(cases hc;done))
  rename_i id ops draw
  simp only[Bool.and_eq_true] at hc
  obtain⟨rfl,hc⟩:=hc
  simp only[exec] at he
  cases hev:q1K K s l with
  |none=>simp [hev] at he
  |some s'=>
   simp only[hev,Option.some.injEq] at he
   subst he
   exact q8k hm hK hc hev hs fun a w F σ h=>⟨rfl,F,σ,h⟩
 |regp π l=>
  refine⟨?_,fun code l g _ h=>by simp [exec.labelled] at h⟩
  intro code s r a w F σ hc he hs
  cases code <;> simp only[chk] at hc <;> (try(cases hc;done))
  rename_i id ops draw
  simp only[Bool.and_eq_true] at hc
  obtain⟨rfl,hc⟩:=hc
  simp only[exec] at he
  cases hev:q1K K s l with
  |none=>simp [hev] at he
  |some s'=>
   simp only[hev,Option.some.injEq] at he
   subst he
   exact wp_region_any hm (z2E hK hc hev hs fun a w F σ h=>⟨rfl,F,σ,h⟩)
 |regg m' l=>
  refine⟨?_,fun code l g _ h=>by simp [exec.labelled] at h⟩
  intro code s r a w F σ hc he hs
  cases code <;> simp only[chk] at hc <;> (try(cases hc;done))
  rename_i id ops draw
  simp only[Bool.and_eq_true] at hc
  obtain⟨hm',hc⟩:=hc
  obtain rfl:m'=m0:=by simpa using hm'
  simp only[exec] at he
  cases hev:q2i m' K s l with
  |none=>simp [hev] at he
  |some s'=>
   simp only[hev,Option.some.injEq] at he
   subst he
   cases draw with
   |false=>
    simp only[Bool.false_eq_true,if_false] at hc
    exact q8F hK hc hev hs fun a w F σ h=>⟨rfl,F,σ,h⟩
   |true=>
    simp only[if_true] at hc
    exact q8l hm hK hc hev hs fun a w F σ h=>⟨rfl,F,σ,h⟩
 |reg l=>
  refine⟨?_,fun code l g _ h=>by simp [exec.labelled] at h⟩
  intro code s r a w F σ hc he hs
  cases code <;> simp only[chk] at hc <;> (try(cases hc;done))
  rename_i id ops draw
  simp only[exec] at he
  cases hev:q1N K s l with
  |none=>simp [hev] at he
  |some s'=>
   simp only[hev,Option.some.injEq] at he
   subst he
   cases draw with
   |false=>
    simp only[Bool.false_eq_true,if_false] at hc
    exact q9V hK hc hev hs fun a w F σ h=>⟨rfl,F,σ,h⟩
   |true=>
    simp only[if_true] at hc
    exact q9z hm hK hc hev hs fun a w F σ h=>⟨rfl,F,σ,h⟩
 |seq x y ihx ihy=>
  refine⟨?_,fun code l g _ h=>by simp [exec.labelled] at h⟩
  intro code s r a w F σ hc he hs
  simp only[exec] at he
  have plain:∀ cx cy,code=.seq cx cy→chk P m0 n x cx=true→chk P m0 n y cy=true→code.wp P (Post K X base w0 F0 m0 σ0 n r) a w:=by
   rintro cx cy rfl h1 h2
   cases hx:exec K x s with
   |none=>simp [hx] at he
   |some p=>
    obtain⟨ex,s'⟩:=p
    refine wp_seq (wp_mono (ihx.1 cx s _ a w F σ h1 hx hs) fun e a' w' hp=>?_)
    obtain⟨rfl,F',σ',hs'⟩:=hp
    cases ex with
    |nrm=>
     simp only[hx] at he
     exact ihy.1 cy s' r a' w' F' σ' h2 he hs'
    |exit id=>simp only[hx,Option.some.injEq] at he;subst he;exact⟨rfl,F',σ',hs'⟩
    |goto l=>simp only[hx,Option.some.injEq] at he;subst he;exact⟨rfl,F',σ',hs'⟩
    |ret=>simp only[hx,Option.some.injEq] at he;subst he;exact⟨rfl,F',σ',hs'⟩
  by_cases hkp:∃ sl,x=.keep sl
  ·obtain⟨sl,rfl⟩:=hkp
   have hc':chk P m0 n y code=true:=by cases code <;> simpa only[chk] using hc
   simp only[exec] at he
   exact ihy.1 code _ r a w F σ hc' he (hs.skipM sl)
  by_cases hgc:∃ m' sl,x=.tidy m' sl
  ·obtain⟨m',sl,rfl⟩:=hgc
   have hc':(m'==m0)=true∧chk P m0 n y code=true:=by cases code <;> simpa only[chk,Bool.and_eq_true] using hc
   obtain⟨hm',hc'⟩:=hc'
   obtain rfl:m'=m0:=by simpa using hm'
   simp only[exec] at he
   cases hts:q5z m' sl s with
   |none=>simp [hts] at he
   |some s'=>
    simp only[hts] at he
    obtain⟨σ',hs'⟩:=hs.tidy hts
    exact ihy.1 code _ r a w F σ' hc' he hs'
  ·by_cases hown:∃ t k,x=.own t k
   ·obtain⟨t,k,rfl⟩:=hown
    have hc':decide (t<n)=true∧chk P m0 n y code=true:=by cases code <;> simpa only[chk,Bool.and_eq_true] using hc
    simp only[exec] at he
    cases hl:look s.rho t with
    |none=>simp only[hl] at he;exact ihy.1 code s r a w F σ hc'.2 he hs
    |some v=>
     cases v with
     |fs c k' rows=>
      cases rows with
      |nil=>
       simp only[hl] at he
       by_cases hk:k'=k
       ·simp only[hk,if_true] at he
        exact ihy.1 code _ r a w F σ hc'.2 he (hs.own hl)
       ·simp only[hk,if_false] at he;exact ihy.1 code s r a w F σ hc'.2 he hs
      |cons _ _=>simp only[hl] at he;exact ihy.1 code s r a w F σ hc'.2 he hs
     |_=>simp only[hl] at he;exact ihy.1 code s r a w F σ hc'.2 he hs
   ·by_cases hfrz:∃ m' t j,x=.frz m' t j
    ·obtain⟨m',t,j,rfl⟩:=hfrz
     have hc':(m'==m0)=true∧chk P m0 n y code=true:=by cases code <;> simpa only[chk,Bool.and_eq_true] using hc
     obtain⟨hm',hc'⟩:=hc'
     obtain rfl:m'=m0:=by simpa using hm'
     simp only[exec] at he
     obtain⟨F',σ',hs'⟩:=hs.freeze t j
     exact ihy.1 code _ r a w F' σ' hc' he hs'
    ·by_cases hoc:∃ t j k,x=.ownc t j k
     ·obtain⟨t,j,k,rfl⟩:=hoc
      have hc':chk P m0 n y code=true:=by cases code <;> simpa only[chk] using hc
      simp only[exec] at he
      exact ihy.1 code _ r a w F σ hc' he (hs.ownc t j k)
     ·cases code with
      |seq cx cy=>
       have:chk P m0 n x cx=true∧chk P m0 n y cy=true:=by
        cases x <;> first|(exact absurd ⟨_,rfl⟩ hkp)|(exact absurd ⟨_,_,rfl⟩ hgc)|(exact absurd ⟨_,_,rfl⟩ hown)|(exact absurd ⟨_,_,_,rfl⟩ hfrz)|(exact absurd ⟨_,_,_,rfl⟩ hoc)|(simpa only[chk,Bool.and_eq_true] using hc)
       exact plain cx cy rfl this.1 this.2
      |_=>cases x <;> first|(exact absurd ⟨_,rfl⟩ hkp)|(exact absurd ⟨_,_,rfl⟩ hgc)|(exact absurd ⟨_,_,rfl⟩ hown)|(exact absurd ⟨_,_,_,rfl⟩ hfrz)|(exact absurd ⟨_,_,_,rfl⟩ hoc)|(simp [chk] at hc)
 |cond e x y ihx ihy=>
  refine⟨?_,fun code l g _ h=>by simp [exec.labelled] at h⟩
  intro code s r a w F σ hc he hs
  cases code <;> simp only[chk] at hc <;> (try(cases hc;done))
  rename_i oc cx cy
  simp only[Bool.and_eq_true,decide_eq_true_eq] at hc
  simp only[exec] at he
  cases hv:ev K s e with
  |none=>simp [hv] at he
  |some v=>
   cases v with
   |d k x=>
    cases x with
    |bool b=>
     simp only[hv] at he
     have hb:=(z4N hs hc.1.1 hv).bool_inv
     refine wp_cond hb ?_
     cases b with
     |true=>exact ihx.1 cx s r a w F σ hc.1.2 (by simpa using he) hs
     |false=>exact ihy.1 cy s r a w F σ hc.2 (by simpa using he) hs
    |_=>simp [hv] at he
   |_=>simp [hv] at he
 |block id x ih=>
  refine⟨?_,fun code l g _ h=>by simp [exec.labelled] at h⟩
  intro code s r a w F σ hc he hs
  cases code <;> simp only[chk] at hc <;> (try(cases hc;done))
  rename_i id' cx
  simp only[Bool.and_eq_true,beq_iff_eq] at hc
  obtain⟨rfl,hc⟩:=hc
  simp only[exec] at he
  cases hx:exec K x s with
  |none=>simp [hx] at he
  |some p=>
   obtain⟨ex,s'⟩:=p
   refine wp_block (wp_mono (ih.1 cx s _ a w F σ hc hx hs) fun e a' w' hp=>?_)
   obtain⟨rfl,F',σ',hs'⟩:=hp
   cases ex with
   |exit i=>
    simp only[hx] at he
    simp only[Ex.to,Exit.inBlock]
    split at he
    ·rename_i hi
     rw[if_pos hi]
     simp only[Option.some.injEq] at he
     subst he
     exact⟨rfl,F',σ',hs'⟩
    ·rename_i hi
     rw[if_neg hi]
     simp only[Option.some.injEq] at he
     subst he
     exact⟨rfl,F',σ',hs'⟩
   |nrm=>simp only[hx,Option.some.injEq] at he;subst he;exact⟨rfl,F',σ',hs'⟩
   |goto l=>simp only[hx,Option.some.injEq] at he;subst he;exact⟨rfl,F',σ',hs'⟩
   |ret=>simp only[hx,Option.some.injEq] at he;subst he;exact⟨rfl,F',σ',hs'⟩
 |loop x ih=>
  refine⟨?_,fun code l g _ h=>by simp [exec.labelled] at h⟩
  intro code s r a w F σ hc he hs
  cases code <;> simp only[chk] at hc <;> (try(cases hc;done))
  rename_i cx
  simp only[exec,q3J] at he
  split at he
  case isFalse=>cases he
  rename_i hex
  refine q7b (J:=fun m a w=>∃ s F σ,iter (exec K x) m s=some r∧StRel K X base w0 F0 m0 σ0 n s a w F σ) (fun a w h=>?_) (fun m a w h=>?_) (m:=hex.choose) ⟨s,F,σ,he,hs⟩
  ·obtain⟨s,F,σ,h,_⟩:=h
   simp [iter] at h
  ·obtain⟨s,F,σ,h,hs⟩:=h
   simp only[iter] at h
   cases hx:exec K x s with
   |none=>simp [hx] at h
   |some p=>
    obtain⟨ex,s'⟩:=p
    refine wp_mono (ih.1 cx s _ a w F σ hc hx hs) fun e a' w' hp=>?_
    obtain⟨rfl,F',σ',hs'⟩:=hp
    cases ex with
    |nrm=>simp only[hx] at h;exact⟨s',F',σ',h,hs'⟩
    |exit id=>simp only[hx,Option.some.injEq] at h;subst h;exact⟨rfl,F',σ',hs'⟩
    |goto l=>simp only[hx,Option.some.injEq] at h;subst h;exact⟨rfl,F',σ',hs'⟩
    |ret=>simp only[hx,Option.some.injEq] at h;subst h;exact⟨rfl,F',σ',hs'⟩
 |exit id=>
  refine⟨?_,fun code l g _ h=>by simp [exec.labelled] at h⟩
  intro code s r a w F σ hc he hs
  cases code <;> simp only[chk] at hc <;> (try(cases hc;done))
  simp only[beq_iff_eq] at hc
  subst hc
  simp only[exec,Option.some.injEq] at he
  subst he
  exact wp_exit ⟨rfl,F,σ,hs⟩
 |scope x ls ihx ihl=>
  refine⟨?_,fun code l g _ h=>by simp [exec.labelled] at h⟩
  intro code s r a w F σ hc he hs
  cases code <;> simp only[chk] at hc <;> (try(cases hc;done))
  rename_i cx
  simp only[Bool.and_eq_true] at hc
  simp only[exec,z0S] at he
  split at he
  case isFalse=>cases he
  rename_i hex
  generalize hex.choose=m at he
  cases m with
  |zero=>simp [q2o] at he
  |succ m=>
   have post:∀(m:Nat) (p:Ex×S) (e:Exit) (a:Act) (w:World),q2o (fun l=>exec.labelled K ls l) (m+1) (some p)=some r→Post K X base w0 F0 m0 σ0 n p e a w→
     Exit.jumpR (fun l a w=>∃ g s F σ,exec.labelled K ls l=some g∧q2o (fun l=>exec.labelled K ls l) m (g s)=some r∧StRel K X base w0 F0 m0 σ0 n s a w F σ) (Post K X base w0 F0 m0 σ0 n r) e a w:=by
    intro m p e a w hj hp
    obtain⟨ex,s'⟩:=p
    obtain⟨rfl,F',σ',hs'⟩:=hp
    simp only[q2o] at hj
    cases ex with
    |nrm=>simp only[Option.some.injEq] at hj;subst hj;exact⟨rfl,F',σ',hs'⟩
    |exit id=>simp only[Option.some.injEq] at hj;subst hj;exact⟨rfl,F',σ',hs'⟩
    |ret=>simp only[Option.some.injEq] at hj;subst hj;exact⟨rfl,F',σ',hs'⟩
    |goto l=>
     simp only at hj
     cases hl:exec.labelled K ls l with
     |none=>simp [hl] at hj
     |some g=>
      simp only[hl] at hj
      exact⟨g,s',F',σ',hl,hj,hs'⟩
   cases hx:exec K x s with
   |none=>simp [hx,q2o] at he
   |some p=>
    rw[hx] at he
    refine q50 (m:=m) (J:=fun m l a w=>∃ g s F σ,exec.labelled K ls l=some g∧q2o (fun l=>exec.labelled K ls l) m (g s)=some r∧StRel K X base w0 F0 m0 σ0 n s a w F σ) (fun l a w h=>?_) (fun m l a w h=>?_) (wp_mono (ihx.1 cx s _ a w F σ hc.1 hx hs) fun e a' w' hp=>post m p e a' w' he hp)
    ·obtain⟨g,s,F,σ,_,h,_⟩:=h
     simp [q2o] at h
    ·obtain⟨g,s,F,σ,hl,hj,hs⟩:=h
     obtain⟨rest,hf,hrest⟩:=ihl.2 cx l g hc.2 hl
     refine⟨rest,hf,?_⟩
     cases hg:g s with
     |none=>rw[hg] at hj;simp [q2o] at hj
     |some p=>
      rw[hg] at hj
      exact wp_mono (hrest s p a w F σ hg hs) fun e a' w' hp=>post m p e a' w' hj hp
 |lnil=>exact⟨fun code s r a w F σ hc he=>by simp [exec] at he,fun code l g _ h=>by simp [exec.labelled] at h⟩
 |lcons l0 c ls ihc ihl=>
  refine⟨fun code s r a w F σ hc he=>by simp [exec] at he,fun code l g hc h=>?_⟩
  have hc':((match findLabel code l0 with|some rest=>chk P m0 n c rest|none=>false)&&chk P m0 n ls code)=true:=by cases code <;> simpa only[chk] using hc
  simp only[Bool.and_eq_true] at hc'
  simp only[exec.labelled] at h
  split at h
  ·rename_i he
   subst he
   obtain rfl:=Option.some.inj h
   cases hf:findLabel code l0 with
   |none=>simp [hf] at hc'
   |some rest=>
    simp only[hf] at hc'
    exact⟨rest,rfl,fun s r a w F σ he hs=>ihc.1 rest s r a w F σ hc'.1 he hs⟩
  ·exact ihl.2 code l g hc'.2 h
 |label l=>
  refine⟨?_,fun code l g _ h=>by simp [exec.labelled] at h⟩
  intro code s r a w F σ hc he hs
  cases code <;> simp only[chk] at hc <;> (try(cases hc;done))
  simp only[exec,Option.some.injEq] at he
  subst he
  exact wp_label ⟨rfl,F,σ,hs⟩
 |goto l=>
  refine⟨?_,fun code l g _ h=>by simp [exec.labelled] at h⟩
  intro code s r a w F σ hc he hs
  cases code <;> simp only[chk] at hc <;> (try(cases hc;done))
  simp only[beq_iff_eq] at hc
  subst hc
  simp only[exec,Option.some.injEq] at he
  subst he
  exact wp_goto ⟨rfl,F,σ,hs⟩
 |ret=>
  refine⟨?_,fun code l g _ h=>by simp [exec.labelled] at h⟩
  intro code s r a w F σ hc he hs
  cases code <;> simp only[chk] at hc <;> (try(cases hc;done))
  simp only[exec,Option.some.injEq] at he
  subst he
  exact wp_ret ⟨rfl,F,σ,hs⟩
 |keep=>exact⟨fun code s r a w F σ hc he=>by cases code <;> simp [chk] at hc,fun code l g _ h=>by simp [exec.labelled] at h⟩
 |tidy=>exact⟨fun code s r a w F σ hc he=>by cases code <;> simp [chk] at hc,fun code l g _ h=>by simp [exec.labelled] at h⟩
 |own=>exact⟨fun code s r a w F σ hc he=>by cases code <;> simp [chk] at hc,fun code l g _ h=>by simp [exec.labelled] at h⟩
 |stuck=>exact⟨fun code s r a w F σ hc he=>by simp [exec] at he,fun code l g _ h=>by simp [exec.labelled] at h⟩
 |frz=>exact⟨fun code s r a w F σ hc he=>by cases code <;> simp [chk] at hc,fun code l g _ h=>by simp [exec.labelled] at h⟩
theorem q10(hm:P.follows .mixedOrders=true)(hK:K.Sound P)(c:C)(code:Code)(s:S)(r:Ex×S)(a:Act)(w:World)(F:Nat→Prop)(σ:Nat→Option Loc)(hc:chk P m0 n c code=true)(he:exec K c s=some r)(hs:StRel K X base w0 F0 m0 σ0 n s a w F σ) :
  code.wp P (Post K X base w0 F0 m0 σ0 n r) a w:=(z47 hm hK c).1 code s r a w F σ hc he hs
end Go.Vm
end

section
namespace Go.Vm
open Go.RowKit

def hNew (H : List (Nat × Blk)) : Bool := H.all fun p => match p.2 with
  | .dat c _ _ => c
  | .mix _ rows => rows.all (·.all V.newR)
  | .map es => es.all fun q => match q.2 with
    | .agg cs => cs.all V.newR
    | v => v.newR

def restH (bs : List Nat) (H : List (Nat × Blk)) : List (Nat × Blk) := forgetH bs.contains (H.filter fun p => !bs.contains p.1)

def finC (z : Bool) (bs : List Nat) (H : List (Nat × Blk)) : V → Option V
  | .d c y => some (.d c y)
  | .fs c k r => some (.fs c k r)
  | .ptr b i j => if bs.contains b then some (.ptr (bs.idxOf b) i j) else (q0d viewDepth (restH bs H) (.ptr b i j)).map (.d (z && hNew (restH bs H)))
  | .bsl b i n => if bs.contains b then some (.bsl (bs.idxOf b) i n) else (q0d viewDepth (restH bs H) (.bsl b i n)).map (.d (z && hNew (restH bs H)))
  | .bsx b i n => if bs.contains b then some (.bsx (bs.idxOf b) i n) else (q0d viewDepth (restH bs H) (.bsx b i n)).map (.d (z && hNew (restH bs H)))
  | .iface t v => (q0d viewDepth (restH bs H) (V.drop1 bs.contains (.iface t v))).map (.d false)
  | .map b => if bs.contains b then some (.map (bs.idxOf b)) else none
  | _ => none
def finA (z : Bool) (bs : List Nat) (H : List (Nat × Blk)) : V → Option V
  | .agg cs => (mapO (finC z bs H) cs).map .agg
  | .fn f cs => (mapO (finC z bs H) cs).map (.fn f)
  | v => finC z bs H v
def finV (z : Bool) (bs : List Nat) (H : List (Nat × Blk)) : V → Option V
  | .tup vs => (mapO (finA z bs H) vs).map .tup
  | v => finA z bs H v
def finB (z : Bool) (bs : List Nat) (H : List (Nat × Blk)) (b : Nat) : Option Blk := match look H b with
  | some (.dat c k rows) => some (.dat c k rows)
  | some (.mix k rows) => (mapO (mapO (finC z bs H)) rows).map (.mix k)
  | some (.map es) => (mapO (fun q => (finA z bs H q.2).map fun v => (q.1, v)) es).map .map
  | none => none

structure Fun where
  body : C
  res : List E
  own : Bool
  deriving Inhabited

def q0b : List V → V
  | [v] => v
  | vs => .tup vs

def finish (m : Nat) (own : Bool) (s : S) (v : V) : Option (V × List Blk × List Nat) :=
  let bs := if own then q0N s.heap (refN s.heap + 64) [] (List.range m ++ v.refs) else List.range m
  if decide bs.Nodup && decide (bs.take m = List.range m) then
    match finV (m == 0) bs s.heap v, mapO (finB (m == 0) bs s.heap) bs with
    | some r, some news => some (r, news, (List.range m).filter fun b => s.mv.contains b)
    | _, _ => none
  else none

def startS (args : List V) (blks : List Blk) : S := ⟨(args.zipIdx.map fun (v, i) => (i, v)), indexed blks, blks.length, []⟩

noncomputable def q0o (K : Cx) (g : Fun) (args : List V) (blks : List Blk) : Option (V × List Blk × List Nat) :=
  match exec K g.body (startS args blks) with
  | some (.nrm, s) => match mapO (ev K s) g.res with
    | some vs => finish blks.length g.own s (q0b vs)
    | none => none
  | some (.ret, s) => match mapO (ev K s) g.res with
    | some vs => finish blks.length g.own s (q0b vs)
    | none => none
  | _ => none

def resE (P : Program) : ResultVar → Option E
  | .tmp t => some (.sl t)
  | .cell a t => match P.info? t, P.underlying t with
    | some i, some d => some (.ld i.size (q1L d) (.sl a))
    | _, _ => none

def q0J (P : Program) (f : FuncId) (m n : Nat) (g : Fun) : Bool :=
  match P.funcs[f]? with
  | some fn => match fn.body with
    | some code => chk P m fn.ntmps g.body code && decide (mapO (resE P) fn.results.toList = some g.res) && decide (n ≤ fn.ntmps) && (fn.name != "runtime.NumGoroutine")
    | none => false
  | none => false

variable {P : Program} {w : World} {F : Nat → Prop} {X : Nat → Nat → Prop} {base nx : Nat} {σ : Nat → Option Loc} {H : List (Nat × Blk)} {bs : List Nat}

theorem q6B {f : V → Option V} : ∀ {es es' : List (D × V)}, mapO (fun q => (f q.2).map fun v => (q.1, v)) es = some es' → es'.map (·.1) = es.map (·.1)
  | [], es', h => by obtain rfl := Option.some.inj h; rfl
  | q :: es, es', h => by
    simp only [mapO] at h
    cases hq : f q.2 with
    | none => simp [hq] at h
    | some v =>
      cases hr : mapO (fun q => (f q.2).map fun v => (q.1, v)) es with
      | none => simp [hq, hr] at h
      | some r =>
        simp only [hq, hr, Option.map_some, Option.some.injEq] at h
        subst h
        simp only [List.map_cons, q6B hr]

theorem MemObj.ofO {f : V → Option V} {w w' : World} {σ σ' : Nat → Option Loc} {l : Loc} {ck : Nat} {es : Array MapEntry} {ds ds' : List (D × V)} (hw : w'.heap[l.blk]? = w.heap[l.blk]?) (hes : mapO (fun q => (f q.2).map fun v => (q.1, v)) ds = some ds')
    (hf : ∀ q ∈ ds, ∀ y, f q.2 = some y → ∀ v, BufV σ v q.2 → BufV σ' v y) (h : MemObj w σ l es ck ds) : MemObj w' σ' l es ck ds' := by
  have hk := q6B hes
  rcases h with ⟨h, hx, ht⟩ | ⟨T, p, v, x, h1, h2, h3, h4⟩ | ⟨T, cur, fz, bs, h1, h2, h3⟩
  · refine .inl ⟨by rw [hw]; exact h, hx, ?_⟩
    cases ds with
    | nil => obtain rfl : ds' = [] := by simpa using hk
             rfl
    | cons q ds =>
      obtain ⟨k, v⟩ := q
      cases ds' with
      | nil => simp at hk
      | cons q' ds' =>
        obtain ⟨k', v'⟩ := q'
        simp only [List.map_cons, List.cons.injEq] at hk
        obtain ⟨rfl, _⟩ := hk
        cases k' <;> first | rfl | (simp [q02] at ht)
  · subst h1
    simp only [mapO] at hes
    cases hx : f x with
    | none => simp [hx] at hes
    | some y =>
      simp only [hx, Option.map_some, Option.some.injEq] at hes
      subst hes
      exact .inr (.inl ⟨T, p, v, y, rfl, by rw [hw]; exact h2, h3, hf (.nils T, x) (by simp) y hx v h4⟩)
  · exact .inr (.inr ⟨T, cur, fz, bs, by rw [hk]; exact h1, by rw [hw]; exact h2, h3⟩)

theorem z5K {c : Bool} {b : Nat} (h : col F base true b) : col (New F base) base c b := by
  cases c
  · exact h
  · exact ⟨h, h.2⟩

theorem RepV.newF {v : Value} {x : V} (hx : x.newR = true) (h : RepV w F base σ v x) : RepV w (New F base) base σ v x := by
  cases h with
  | d c v x h =>
    simp only [V.newR, V.new1, Bool.or_eq_true] at hx
    cases c with
    | true => exact .d _ _ _ (h.mono fun b hb => ⟨z5K hb, rfl⟩)
    | false => exact .d _ _ _ (h.flat (by simpa using hx))
  | fs c a len k rows h =>
    simp only [V.newR, V.new1] at hx
    subst hx
    exact .fs _ _ _ _ _ (h.mono fun b hb => ⟨z5K hb, rfl⟩)
  | ptr b i j l hl => exact .ptr b i j l hl
  | bsl0 a b i => exact .bsl0 a b i
  | bsl b i len cap l hl h1 h2 => exact .bsl b i len cap l hl h1 h2
  | bsx b i len cap l a hl h1 h2 h3 => exact .bsx b i len cap l a hl h1 h2 h3
  | map b l hl => exact .map b l hl
  | _ => simp [V.newR, V.new1] at hx

theorem z6Q {c : Bool} (hc : c = true) (d : D) : (mkd c d).newR = true := by
  subst hc
  unfold mkd
  split <;> simp [V.newR, V.new1, *]

theorem HeapRel.newF (hn : hNew H = true) (h : HeapRel w F X base σ nx H) : HeapRel w (New F base) X base σ nx H := by
  refine ⟨fun b blk hb => ?_, h.inj, fun b l hb => ⟨(h.own b l hb).1, fun hf => (h.own b l hb).2.1 hf.1, (h.own b l hb).2.2⟩, fun b hb => h.fro b hb.1⟩
  have hin : ∃ p ∈ H, p = (b, blk) := by
    clear hn h
    induction H with
    | nil => simp [look] at hb
    | cons p H ih =>
      obtain ⟨k, v⟩ := p
      simp only [look] at hb
      split at hb
      · rename_i hk
        subst hk
        obtain rfl := Option.some.inj hb
        exact ⟨_, List.mem_cons_self .., rfl⟩
      · obtain ⟨p, hp, he⟩ := ih hb
        exact ⟨p, List.mem_cons_of_mem _ hp, he⟩
  obtain ⟨p, hp, rfl⟩ := hin
  simp only [hNew, List.all_eq_true] at hn
  have hnb := hn _ hp
  rcases h.blk b blk hb with ⟨h1, h2⟩ | ⟨l, es, ck, ds, rfl, h1, h2, h3, h4, h5⟩ | ⟨l, cs, T, h1, h2, h3, h4, h5, h6, h7⟩
  · exact .inl ⟨h1, h2⟩
  · have := h5.transM (f := fun x => x) (w' := w) (F' := New F base) (base' := base) (σ' := σ) fun q hq v hv => by
      simp only [List.all_eq_true] at hnb
      have hqn := hnb q hq
      obtain ⟨qk, qv⟩ := q
      cases qv with
      | agg cs =>
        cases hv with
        | agg vs _ g1 g2 g3 =>
          simp only [List.all_eq_true] at hqn
          exact .agg vs cs g1 (fun j v x hv hx => (g2 j v x hv hx).newF (hqn x (List.mem_of_getElem? hx))) g3
      | _ => exact hv.newF hqn
    exact .inr (.inl ⟨l, es, ck, ds, rfl, h1, h2, h3, h4, by simpa using this⟩)
  · refine .inr <| .inr ⟨l, cs, T, h1, h2, h3, h4, h5, fun i row hrow => ⟨(h6 i row hrow).1, fun j x hx => ?_⟩, h7⟩
    obtain ⟨v, g1, g2, g3⟩ := (h6 i row hrow).2 j x hx
    refine ⟨v, g1, g2, g3.newF ?_⟩
    cases blk with
    | dat c k rows =>
      simp only [Blk.row?, Option.map_eq_some_iff] at hrow
      obtain ⟨r, _, rfl⟩ := hrow
      simp only [List.getElem?_map, Option.map_eq_some_iff] at hx
      obtain ⟨d, _, rfl⟩ := hx
      exact z6Q hnb d
    | mix k rows =>
      simp only [Blk.row?] at hrow
      simp only [List.all_eq_true] at hnb
      exact hnb row (List.mem_of_getElem? hrow) x (List.mem_of_getElem? hx)
    | map es => simp [Blk.entries] at h7

def wo (bs : List Nat) (σ : Nat → Option Loc) (b : Nat) : Option Loc := if bs.contains b then none else σ b
def outs (bs : List Nat) (σ : Nat → Option Loc) (i : Nat) : Option Loc := match bs[i]? with
  | some b => σ b
  | none => none

theorem q3Q {b : Nat} {l : Loc} (h : wo bs σ b = some l) : bs.contains b = false ∧ σ b = some l := by
  unfold wo at h
  split at h
  · cases h
  · rename_i hb; exact ⟨by simpa using hb, h⟩
theorem z1V : ∀ b l, σ b = some l → bs.contains b = false → wo bs σ b = some l := by
  intro b l h1 h2
  unfold wo
  rw [if_neg (by rw [h2]; exact Bool.false_ne_true)]
  exact h1

theorem q3W (p : Nat → Bool) : ∀ (H : List (Nat × Blk)) (b : Nat) (blk : Blk), look (H.filter fun q => p q.1) b = some blk → p b = true ∧ look H b = some blk
  | [], b, blk, h => by simp [look] at h
  | (k, v) :: H, b, blk, h => by
    simp only [List.filter_cons] at h
    split at h
    · rename_i hk
      simp only [look] at h ⊢
      split at h
      · rename_i he
        subst he
        rw [if_pos rfl]
        exact ⟨hk, h⟩
      · rename_i he
        rw [if_neg he]
        exact q3W p H b blk h
    · rename_i hk
      obtain ⟨h1, h2⟩ := q3W p H b blk h
      refine ⟨h1, ?_⟩
      simp only [look]
      rw [if_neg (fun e => hk (by subst e; exact h1))]
      exact h2

theorem q8Z (h : HeapRel w F X base σ nx H) : HeapRel w F X base (wo bs σ) nx (restH bs H) := by
  refine ⟨fun b blk hb => ?_, fun b b' l l' h1 h2 => h.inj b b' l l' (q3Q h1).2 (q3Q h2).2, fun b l hb => h.own b l (q3Q hb).2, h.fro⟩
  unfold restH forgetH at hb
  rw [q2d] at hb
  simp only [Option.map_eq_some_iff] at hb
  obtain ⟨blk0, h1, rfl⟩ := hb
  obtain ⟨h2, h3⟩ := q3W (fun b => !bs.contains b) H b blk0 h1
  have h2' : bs.contains b = false := by simpa using h2
  have hs : ∀ l, σ b = some l → wo bs σ b = some l := fun l hl => z1V b l hl h2'
  refine (h.blk b blk0 h3).forget _ (fun b hb => ⟨hb, rfl⟩) z1V hs (fun h4 => ?_) (fun _ _ => rfl)
  unfold wo
  split
  · rfl
  · exact h4

def FZ (F : Nat → Prop) (bs : List Nat) (σ : Nat → Option Loc) : Nat → Prop := All F (wo bs σ)

variable {z : Bool}

def z2L (X : Nat → Nat → Prop) (base : Nat) (bs : List Nat) (σ : Nat → Option Loc) : Prop := ∀ i l, wo bs σ i = some l → base ≤ l.blk

theorem q6i {b : Nat} {l : Loc} (h1 : σ b = some l) (h2 : bs.contains b = true) : outs bs σ (bs.idxOf b) = some l := by
  unfold outs
  have hm : b ∈ bs := by simpa using h2
  have : bs[bs.idxOf b]? = some b := by
    rw [List.getElem?_eq_getElem (List.idxOf_lt_length_of_mem hm)]
    rw [List.getElem_idxOf]
  rw [this]
  exact h1

theorem z7e {z : Bool} {x y : V} (hy : finC z bs H x = some y) {v : Value} (hv : BufV σ v x) : BufV (outs bs σ) v y := by
  cases x with
  | bsl b i n =>
    simp only [finC] at hy
    split at hy
    · rename_i hb
      obtain rfl := Option.some.inj hy
      obtain ⟨h0, h | ⟨l, h1, h2⟩⟩ := hv
      · exact ⟨h0, .inl h⟩
      · exact ⟨h0, .inr ⟨l, q6i h1 hb, h2⟩⟩
    · simp only [Option.map_eq_some_iff] at hy
      obtain ⟨d, _, rfl⟩ := hy
      trivial
  | d c d => obtain rfl := Option.some.inj hy; trivial
  | fs c k r => obtain rfl := Option.some.inj hy; trivial
  | ptr b i j =>
    simp only [finC] at hy
    split at hy
    · obtain rfl := Option.some.inj hy; trivial
    · simp only [Option.map_eq_some_iff] at hy
      obtain ⟨d, _, rfl⟩ := hy
      trivial
  | bsx b i j =>
    simp only [finC] at hy
    split at hy
    · obtain rfl := Option.some.inj hy; trivial
    · simp only [Option.map_eq_some_iff] at hy
      obtain ⟨d, _, rfl⟩ := hy
      trivial
  | iface t u =>
    simp only [finC, Option.map_eq_some_iff] at hy
    obtain ⟨d, _, rfl⟩ := hy
    trivial
  | map b =>
    simp only [finC] at hy
    split at hy
    · obtain rfl := Option.some.inj hy; trivial
    · cases hy
  | _ => simp [finC] at hy
theorem z7f {z : Bool} {x y : V} (hy : finA z bs H x = some y) {v : Value} (hv : BufV σ v x) : BufV (outs bs σ) v y := by
  cases x with
  | agg cs =>
    simp only [finA, Option.map_eq_some_iff] at hy
    obtain ⟨d, _, rfl⟩ := hy
    trivial
  | fn f cs =>
    simp only [finA, Option.map_eq_some_iff] at hy
    obtain ⟨d, _, rfl⟩ := hy
    trivial
  | _ => exact z7e (by simpa only [finA] using hy) hv

theorem q7G (h : HeapRel w F X base σ nx H) (hy : z2L X base bs σ) (v : Value) (x r : V) (hr : finC z bs H x = some r) (hR : RepV w F base σ v x) : RepV w (FZ F bs σ) base (outs bs σ) v r := by
  have hsub : ∀ b, F b → FZ F bs σ b ∧ w.heap[b]? = w.heap[b]? := fun b hb => ⟨.inl hb, rfl⟩
  have frozen : ∀ (x : V), x.newR = true → (∃ y, (q0d viewDepth (restH bs H) x) = some y ∧ r = .d (z && hNew (restH bs H)) y) → RepV w F base (wo bs σ) v x → RepV w (FZ F bs σ) base (outs bs σ) v r := by
    rintro x hx ⟨y, hyy, rfl⟩ hR
    have hH := q8Z (bs := bs) h
    cases hn : z && hNew (restH bs H) with
    | false => exact .d _ _ _ (q1u hH _ _ _ _ hyy hR)
    | true =>
      simp only [Bool.and_eq_true] at hn
      refine .d _ _ _ ((q1u (hH.newF hn.2) _ _ _ _ hyy (hR.newF hx)).mono fun b hb => ⟨?_, rfl⟩)
      rcases hb with hb | ⟨i, l, hl, rfl⟩
      · exact ⟨.inl hb.1, hb.2⟩
      · exact ⟨.inr ⟨i, l, hl, rfl⟩, hy i l hl⟩
  have hFF : ∀ b, F b → F b ∧ w.heap[b]? = w.heap[b]? := fun b hb => ⟨hb, rfl⟩
  cases x with
  | d c y =>
    simp only [finC, Option.some.injEq] at hr
    subst hr
    cases hR with
    | d _ _ _ hd => exact .d _ _ _ (hd.mono (q3G hsub c))
  | fs c k rows =>
    simp only [finC, Option.some.injEq] at hr
    subst hr
    cases hR with
    | fs _ _ _ _ _ hd => exact .fs _ _ _ _ _ (hd.mono (q3G hsub c))
  | ptr b i j =>
    simp only [finC] at hr
    split at hr
    · rename_i hb
      obtain rfl := Option.some.inj hr
      cases hR with
      | ptr _ _ _ l hl => exact .ptr _ _ _ l (q6i hl hb)
    · rename_i hb
      simp only [Option.map_eq_some_iff] at hr
      obtain ⟨y, hy, rfl⟩ := hr
      exact frozen (.ptr b i j) rfl ⟨y, hy, rfl⟩ (hR.keep0 hFF z1V (by simpa [V.ref0] using hb))
  | bsl b i n =>
    simp only [finC] at hr
    split at hr
    · rename_i hb
      obtain rfl := Option.some.inj hr
      cases hR with
      | bsl0 => exact .bsl0 _ _ _
      | bsl _ _ _ cap l hl h1 h2 => exact .bsl _ _ _ cap l (q6i hl hb) h1 h2
    · rename_i hb
      simp only [Option.map_eq_some_iff] at hr
      obtain ⟨y, hy, rfl⟩ := hr
      exact frozen (.bsl b i n) rfl ⟨y, hy, rfl⟩ (hR.keep0 hFF z1V (by simpa [V.ref0] using hb))
  | bsx b i n =>
    simp only [finC] at hr
    split at hr
    · rename_i hb
      obtain rfl := Option.some.inj hr
      cases hR with
      | bsx _ _ _ cap l a hl h1 h2 h3 => exact .bsx _ _ _ cap l a (q6i hl hb) h1 h2 h3
    · rename_i hb
      simp only [Option.map_eq_some_iff] at hr
      obtain ⟨y, hy, rfl⟩ := hr
      exact frozen (.bsx b i n) rfl ⟨y, hy, rfl⟩ (hR.keep0 hFF z1V (by simpa [V.ref0] using hb))
  | iface t u =>
    simp only [finC, Option.map_eq_some_iff] at hr
    obtain ⟨y, hy, rfl⟩ := hr
    exact .d _ _ _ (q1u (q8Z (bs := bs) h) _ _ _ _ hy (hR.drop1 hFF z1V))
  | map b =>
    simp only [finC] at hr
    split at hr
    · rename_i hb
      obtain rfl := Option.some.inj hr
      cases hR with
      | map _ l hl => exact .map _ l (q6i hl hb)
    · cases hr
  | _ => simp [finC] at hr

theorem q7W {f : V → Option V} {R R' : Value → V → Prop} (hf : ∀ v x r, f x = some r → R v x → R' v r) {cs : Array Value} {xs rs : List V} (hm : mapO f xs = some rs) (hsz : cs.size = xs.length) (h : ∀ (j : Nat) (v : Value) (x : V), cs[j]? = some v → xs[j]? = some x → R v x) :
    cs.size = rs.length ∧ ∀ (j : Nat) (v : Value) (x : V), cs[j]? = some v → rs[j]? = some x → R' v x := by
  obtain ⟨m1, m2⟩ := q0i hm
  refine ⟨by omega, fun j v x hv hx => ?_⟩
  have hj : j < xs.length := by rw [← m1]; exact (List.getElem?_eq_some_iff.1 hx).1
  obtain ⟨y, hy, hvd⟩ := m2 j _ (List.getElem?_eq_getElem hj)
  rw [hx] at hy
  obtain rfl := Option.some.inj hy
  exact hf v _ x hvd (h j v _ hv (List.getElem?_eq_getElem hj))

theorem q48 (h : HeapRel w F X base σ nx H) (hy : z2L X base bs σ) (v : Value) (x r : V) (hr : finA z bs H x = some r) (hR : RepV w F base σ v x) : RepV w (FZ F bs σ) base (outs bs σ) v r := by
  have one : ∀ v x r, finC z bs H x = some r → RepV w F base σ v x → RepV w (FZ F bs σ) base (outs bs σ) v r := fun v x r h1 h2 => q7G h hy v x r h1 h2
  cases x with
  | agg xs =>
    simp only [finA, Option.map_eq_some_iff] at hr
    obtain ⟨rs, hm, rfl⟩ := hr
    cases hR with
    | agg cs _ h1 h2 h3 =>
      obtain ⟨g1, g2⟩ := q7W one hm h1 h2
      exact .agg cs rs g1 g2 h3
  | fn f xs =>
    simp only [finA, Option.map_eq_some_iff] at hr
    obtain ⟨rs, hm, rfl⟩ := hr
    cases hR with
    | fn _ cs _ h1 h2 =>
      obtain ⟨g1, g2⟩ := q7W one hm h1 h2
      exact .fn f cs rs g1 g2
  | _ => simp only [finA] at hr; exact one v _ r hr hR

theorem q7F (h : HeapRel w F X base σ nx H) (hy : z2L X base bs σ) {v : Value} {x r : V} (hr : finV z bs H x = some r) (hR : RepV w F base σ v x) : RepV w (FZ F bs σ) base (outs bs σ) v r := by
  cases x with
  | tup xs =>
    simp only [finV, Option.map_eq_some_iff] at hr
    obtain ⟨rs, hm, rfl⟩ := hr
    cases hR with
    | tup cs _ h1 h2 =>
      obtain ⟨g1, g2⟩ := q7W (q48 h hy) hm h1 h2
      exact .tup cs rs g1 g2
  | _ => simp only [finV] at hr; exact q48 h hy v _ r hr hR

theorem q6h {i : Nat} {l : Loc} (hi : outs bs σ i = some l) : ∃ b, bs[i]? = some b ∧ σ b = some l := by
  unfold outs at hi
  split at hi
  · rename_i b hb; exact ⟨b, hb, hi⟩
  · cases hi

theorem q9p (h : HeapRel w F X base σ nx H) (hy : z2L X base bs σ) (hbs : bs.Nodup) (hX : ∀ b k, X b k → bs[b]? = some b) {news : List Blk} (hm : mapO (finB z bs H) bs = some news) : HeapRel w (FZ F bs σ) X base (outs bs σ) news.length (indexed news) := by
  obtain ⟨m1, m2⟩ := q0i hm
  have hsub : ∀ b, F b → FZ F bs σ b ∧ w.heap[b]? = w.heap[b]? := fun b hb => ⟨.inl hb, rfl⟩
  refine ⟨fun i blk hi => ?_, fun i j l l' h1 h2 he => ?_, fun i l hi => ?_, fun b hb => ?_⟩
  · rw [q0Y] at hi
    have hil : i < bs.length := by rw [← m1]; exact (List.getElem?_eq_some_iff.1 hi).1
    obtain ⟨y, hyy, hb⟩ := m2 i _ (List.getElem?_eq_getElem hil)
    rw [hi] at hyy
    obtain rfl := Option.some.inj hyy
    have hout : outs bs σ i = σ bs[i] := by unfold outs; rw [List.getElem?_eq_getElem hil]
    unfold finB at hb
    split at hb
    · rename_i c k rows hlk
      obtain rfl := Option.some.inj hb
      rcases h.blk _ _ hlk with ⟨g1, g2⟩ | ⟨_, _, _, _, hbad, _⟩ | ⟨l, cs, T, g1, g2, g3, g4, g5, g6, g7⟩
      · exact .inl ⟨g1, by rw [hout]; exact g2⟩
      · cases hbad
      · refine .inr <| .inr ⟨l, cs, T, by rw [hout]; exact g1, g2, g3, g4, g5, fun i row hrow => ⟨(g6 i row hrow).1, fun j x hx => ?_⟩, g7⟩
        obtain ⟨v, e1, e2, e3⟩ := (g6 i row hrow).2 j x hx
        refine ⟨v, e1, e2, ?_⟩
        simp only [Blk.row?, Option.map_eq_some_iff] at hrow
        obtain ⟨r, _, rfl⟩ := hrow
        simp only [List.getElem?_map, Option.map_eq_some_iff] at hx
        obtain ⟨d, _, rfl⟩ := hx
        refine e3.keep0 (p := fun _ => true) hsub (fun _ _ _ h => by cases h) ?_
        unfold mkd
        split <;> rfl
    · rename_i k rows hlk
      simp only [Option.map_eq_some_iff] at hb
      obtain ⟨rows', hrows, rfl⟩ := hb
      obtain ⟨p1, p2⟩ := q0i hrows
      rcases h.blk _ _ hlk with ⟨g1, g2⟩ | ⟨_, _, _, _, hbad, _⟩ | ⟨l, cs, T, g1, g2, g3, g4, g5, g6, g7⟩
      · exact .inl ⟨by simp only [Blk.n] at g1 ⊢; omega, by rw [hout]; exact g2⟩
      · cases hbad
      · refine .inr <| .inr ⟨l, cs, T, by rw [hout]; exact g1, g2, g3, by simp only [Blk.n] at g4 ⊢; omega, g5, fun i row hrow => ?_, rfl⟩
        simp only [Blk.row?] at hrow
        have hi' : i < rows.length := by rw [← p1]; exact (List.getElem?_eq_some_iff.1 hrow).1
        obtain ⟨row', hrow', hm'⟩ := p2 i _ (List.getElem?_eq_getElem hi')
        rw [hrow] at hrow'
        obtain rfl := Option.some.inj hrow'
        obtain ⟨q1, q2⟩ := q0i hm'
        obtain ⟨r1, r2⟩ := g6 i rows[i] (by simp [Blk.row?, hi'])
        refine ⟨by simp only [Blk.k] at r1 ⊢; omega, fun j x hx => ?_⟩
        have hj : j < rows[i].length := by rw [← q1]; exact (List.getElem?_eq_some_iff.1 hx).1
        obtain ⟨x', hx', hfx⟩ := q2 j _ (List.getElem?_eq_getElem hj)
        rw [hx] at hx'
        obtain rfl := Option.some.inj hx'
        obtain ⟨v, e1, e2, e3⟩ := r2 j _ (List.getElem?_eq_getElem hj)
        exact ⟨v, e1, e2, q7G h hy v _ x hfx e3⟩
    · rename_i es hlk
      simp only [Option.map_eq_some_iff] at hb
      obtain ⟨es', hes, rfl⟩ := hb
      obtain ⟨p1, p2⟩ := q0i hes
      rcases h.blk _ _ hlk with ⟨g1, _⟩ | ⟨l, xs, ck, ds, hds, g1, g2, g3, g4, g5⟩ | ⟨_, _, _, _, _, _, _, _, _, hbad⟩
      · refine .inl ⟨?_, by rw [hout]; assumption⟩
        have hk := q6B hes
        simp only [Blk.n, q7w, hk] at g1 ⊢
        exact g1
      · obtain rfl : es = ds := by injection hds
        refine .inr (.inl ⟨l, xs, ck, es', rfl, by rw [hout]; exact g1, g2.ofO rfl hes (fun q hq y hy v hv => z7f hy hv), g3, g4, by rw [g5.1, p1], fun j e p he hp => ?_⟩)
        have hj : j < es.length := by rw [← p1]; exact (List.getElem?_eq_some_iff.1 hp).1
        obtain ⟨y, hy', hfy⟩ := p2 j _ (List.getElem?_eq_getElem hj)
        rw [hp] at hy'
        obtain rfl := Option.some.inj hy'
        simp only [Option.map_eq_some_iff] at hfy
        obtain ⟨u, hu, rfl⟩ := hfy
        obtain ⟨q1, q2, q3⟩ := g5.2 j e _ he (List.getElem?_eq_getElem hj)
        exact ⟨q1, q2.flat q1, q48 h hy _ _ u hu q3⟩
      · simp [Blk.entries] at hbad
    · cases hb
  · obtain ⟨b, hb, h3⟩ := q6h h1
    obtain ⟨b', hb', h4⟩ := q6h h2
    obtain rfl := h.inj b b' l l' h3 h4 he
    have hi := (List.getElem?_eq_some_iff.1 hb).1
    exact (List.getElem?_inj hi hbs).1 (hb.trans hb'.symm)
  · obtain ⟨b, hb, h3⟩ := q6h hi
    obtain ⟨o1, o2, o3, o4⟩ := h.own b l h3
    refine ⟨by rw [m1]; exact (List.getElem?_eq_some_iff.1 hb).1, ?_, o3.imp id (fun hx => ?_), o4⟩
    · rintro (hF | ⟨b', l', hl', he⟩)
      · exact o2 hF
      · obtain ⟨h5, h6⟩ := q3Q hl'
        obtain rfl := h.inj b' b l' l h6 h3 he
        have : b' ∈ bs := List.mem_of_getElem? hb
        simp [this] at h5
    · have := (List.getElem?_inj (List.getElem?_eq_some_iff.1 hb).1 hbs).1 (hb.trans (hX b _ hx).symm)
      rw [this]
      exact hx
  · rcases hb with hb | ⟨i, l, hl, rfl⟩
    · exact h.fro b hb
    · exact (h.own i l (q3Q hl).2).2.2.2

def z6B (tmps : Array Value) (rv : ResultVar) : Sem Value := match rv with
  | .tmp t => pure (tmps.getD t undef)
  | .cell b t => do loadVar t (← asAddr (tmps.getD b undef))

theorem z16 (fn : Func) (tmps : Array Value) : results fn tmps = (do
    let vs ← fn.results.mapM (z6B tmps)
    pure (if h : vs.size = 1 then vs[0] else .tuple vs)) := by
  unfold results
  congr 1

theorem q4j {K : Cx} {n m0 : Nat} {σ0 : Nat → Option Loc} {w0 : World} {F0 : Nat → Prop} {s : S} {a : Act} (h : StRel K X base w0 F0 m0 σ0 n s a w F σ) {fn : Func} {es : List E} {vs : List V} (he : mapO (resE P) fn.results.toList = some es) (hv : mapO (ev K s) es = some vs) :
    ∃ v, (results fn a.tmps).run P w = .ok v w ∧ RepV w F base σ v (q0b vs) := by
  have one : ∀ (rv : ResultVar) (e : E) (x : V), resE P rv = some e → ev K s e = some x → ∃ v, (z6B a.tmps rv).run P w = .ok v w ∧ RepV w F base σ v x := by
    intro rv e x he hx
    cases rv with
    | tmp t =>
      simp only [resE, Option.some.injEq] at he
      subst he
      simp only [ev] at hx
      exact ⟨_, rfl, h.rho t x hx⟩
    | cell b t =>
      simp only [resE] at he
      cases hi : P.info? t with
      | none => simp [hi] at he
      | some i =>
        cases hd : P.underlying t with
        | none => simp [hi, hd] at he
        | some d =>
          simp only [hi, hd, Option.some.injEq] at he
          subst he
          simp only [ev] at hx
          cases hp : look s.rho b with
          | none => simp [hp] at hx
          | some p =>
            simp only [hp] at hx
            rw [z5n] at hx
            cases hc : q3b s.heap p with
            | none => simp [hc] at hx
            | some xs =>
              simp only [hc, Option.bind_some] at hx
              obtain ⟨ba, of, hva, hcell⟩ := q4I h.heap hc (h.rho b p hp)
              obtain ⟨v, h1, h2⟩ := q4s (P := P) hd hi hcell hx
              exact ⟨v, by simp [z6B, hva, asAddr, h1], h2⟩
  have many : ∀ (l : List ResultVar) (es : List E) (vs : List V), mapO (resE P) l = some es → mapO (ev K s) es = some vs → ∃ us : List Value, (l.mapM (z6B a.tmps)).run P w = .ok us w ∧ us.length = vs.length ∧ ∀ (j : Nat) (v : Value) (x : V), us[j]? = some v → vs[j]? = some x → RepV w F base σ v x := by
    intro l
    induction l with
    | nil =>
      intro es vs he hv
      simp only [mapO, Option.some.injEq] at he
      subst he
      simp only [mapO, Option.some.injEq] at hv
      subst hv
      exact ⟨[], by simp, rfl, fun j v x h => by simp at h⟩
    | cons rv l ih =>
      intro es vs he hv
      simp only [mapO] at he
      cases hr : resE P rv with
      | none => simp [hr] at he
      | some e =>
        cases hl : mapO (resE P) l with
        | none => simp [hr, hl] at he
        | some es' =>
          simp only [hr, hl, Option.some.injEq] at he
          subst he
          simp only [mapO] at hv
          cases hx : ev K s e with
          | none => simp [hx] at hv
          | some x =>
            cases hxs : mapO (ev K s) es' with
            | none => simp [hx, hxs] at hv
            | some xs =>
              simp only [hx, hxs, Option.some.injEq] at hv
              subst hv
              obtain ⟨v, h1, h2⟩ := one rv e x hr hx
              obtain ⟨us, h3, h4, h5⟩ := ih es' xs hl hxs
              refine ⟨v :: us, ?_, by simp [h4], fun j u y hu hy => ?_⟩
              · rw [List.mapM_cons, Sem.run_bind, h1]
                show Sem.run P (do let a ← List.mapM _ l; pure (v :: a)) w = _
                rw [Sem.run_bind, h3]
                rfl
              · cases j with
                | zero => simp only [List.getElem?_cons_zero, Option.some.injEq] at hu hy; subst hu; subst hy; exact h2
                | succ j => exact h5 j u y (by simpa using hu) (by simpa using hy)
  obtain ⟨us, h1, h2, h3⟩ := many _ es vs he hv
  refine ⟨if h : us.length = 1 then us[0] else .tuple us.toArray, ?_, ?_⟩
  · rw [z16, Sem.run_bind]
    rw [Array.mapM_eq_mapM_toList, ← bind_pure_comp, Sem.run_bind, h1]
    show Sem.run P (pure (if h : us.toArray.size = 1 then us.toArray[0] else .tuple us.toArray)) w = _
    by_cases hu : us.length = 1
    · rw [dif_pos hu, dif_pos (by simpa using hu)]; rfl
    · rw [dif_neg hu, dif_neg (by simpa using hu)]; rfl
  · match us, vs, h2, h3 with
    | [], [], _, h3 => exact .tup _ _ rfl fun j v x hv hx => h3 j v x (by simp at hv) hx
    | [u], [x], _, h3 => exact h3 0 u x rfl rfl
    | u1 :: u2 :: us, x1 :: x2 :: xs, h2, h3 =>
      simp only [List.length_cons, Nat.reduceEqDiff, q0b]
      rw [dif_neg (by simp)]
      exact .tup _ _ (by simpa using h2) fun j v x hv hx => h3 j v x (by simpa using hv) hx

theorem q9d (l : List V) : ∀ (k t : Nat) (v : V), look ((l.zipIdx k).map fun (v, i) => (i, v)) t = some v → k ≤ t ∧ l[t - k]? = some v := by
  induction l with
  | nil => intro k t v h; simp [look] at h
  | cons x l ih =>
    intro k t v h
    simp only [List.zipIdx_cons, List.map_cons, look] at h
    split at h
    · rename_i he
      subst he
      exact ⟨Nat.le_refl _, by simpa using h⟩
    · obtain ⟨h1, h2⟩ := ih (k + 1) t v h
      refine ⟨by omega, ?_⟩
      have : t - k = (t - (k + 1)) + 1 := by omega
      rw [this, List.getElem?_cons_succ]
      exact h2

theorem q8X (hm : P.follows .mixedOrders = true) {K : Cx} (hd0 : K.dfr = []) (hK : K.Sound P) {f : FuncId} {g : Fun} {args : List V} {blks : List Blk} {r : V} {news : List Blk} {mv : List Nat} (hok : q0J P f blks.length args.length g = true) (hr : q0o K g args blks = some (r, news, mv))
    {w : World} {F : Nat → Prop} {σ : Nat → Option Loc} {vals : Array Value} (hG : GlobRel w F K.glob) (hH : HeapRel w F (OwnB σ) w.heap.size σ blks.length (indexed blks)) (hargs : Reps w F w.heap.size σ vals args) :
    q0p P f = true ∧ Calls P f vals w fun e w' => ∃ v F' σ', e = .returned v ∧ Frame (OwnB σ) w.heap.size w w' ∧ (∀ b, F b → F' b) ∧ (∀ b, F' b → F b ∨ w.heap.size ≤ b) ∧
      RepV w' F' w.heap.size σ' v r ∧ HeapRel w' F' (OwnB σ) w.heap.size σ' news.length (indexed news) ∧ ∀ i l, i < blks.length → σ i = some l → i ∉ mv → σ' i = some l := by
  unfold q0J at hok
  cases hf : P.funcs[f]? with
  | none => simp [hf] at hok
  | some fn =>
    cases hb : fn.body with
    | none => simp [hf, hb] at hok
    | some code =>
      simp only [hf, hb, Bool.and_eq_true, decide_eq_true_eq] at hok
      obtain ⟨⟨⟨hc, hres⟩, hn⟩, hname⟩ := hok
      refine ⟨by simp [q0p, hf, hb, hname], ?_⟩
      refine calls_of_wp hf hb ?_
      have hst : StRel K (OwnB σ) w.heap.size w F blks.length σ fn.ntmps (startS args blks) { tmps := vals ++ Array.replicate (fn.ntmps - vals.size) undef, defers := [] } w F σ := by
        refine ⟨hH, hG, Nat.le_refl _, .refl _ _ _, fun b hb => .inl hb, ?_, hd0.symm, fun t v hv => ?_, fun b blk h => ?_, fun _ _ _ h _ => h, Nat.le_refl _, fun b k hx => ?_, fun _ h => h⟩
        · have := hargs.1
          simp; omega
        · obtain ⟨_, hv'⟩ := q9d args 0 t v hv
          rw [Nat.sub_zero] at hv'
          have ht : t < vals.size := by rw [hargs.1]; exact (List.getElem?_eq_some_iff.1 hv').1
          have hget : (vals ++ Array.replicate (fn.ntmps - vals.size) undef).getD t undef = vals[t] := by
            rw [Array.getD_eq_getD_getElem?, Array.getElem?_append_left ht]
            simp [ht]
          show RepV w F w.heap.size σ ((vals ++ Array.replicate (fn.ntmps - vals.size) undef).getD t undef) v
          rw [hget]
          exact hargs.2 t _ v (by simp [ht]) hv'
        · have : (indexed blks).length = blks.length := by simp [indexed]
          simp only [startS] at h ⊢
          rw [q0Y] at h
          exact (List.getElem?_eq_some_iff.1 h).1
        · obtain ⟨l, hl, _⟩ := hx
          exact (hH.own b l hl).1
      have fin : ∀ (s : S) (a : Act) (w' : World) (F' : Nat → Prop) (σ' : Nat → Option Loc) (vs : List V), StRel K (OwnB σ) w.heap.size w F blks.length σ fn.ntmps s a w' F' σ' → mapO (ev K s) g.res = some vs → finish blks.length g.own s (q0b vs) = some (r, news, mv) →
          a.defers = [] ∧ ∃ v, (results fn a.tmps).run P w' = .ok v w' ∧ ∃ v' F' σ', Ending.returned v = .returned v' ∧ Frame (OwnB σ) w.heap.size w w' ∧ (∀ b, F b → F' b) ∧ (∀ b, F' b → F b ∨ w.heap.size ≤ b) ∧
            RepV w' F' w.heap.size σ' v' r ∧ HeapRel w' F' (OwnB σ) w.heap.size σ' news.length (indexed news) ∧ ∀ i l, i < blks.length → σ i = some l → i ∉ mv → σ' i = some l := by
        intro s a w' F' σ' vs hs hvs hfin
        obtain ⟨v, h1, h2⟩ := q4j hs hres hvs
        unfold finish at hfin
        simp only at hfin
        generalize (if g.own = true then q0N s.heap (refN s.heap + 64) [] (List.range blks.length ++ (q0b vs).refs) else List.range blks.length) = bs at hfin
        split at hfin
        case isFalse => cases hfin
        rename_i hc2
        simp only [Bool.and_eq_true, decide_eq_true_eq] at hc2
        obtain ⟨hnd, hpre⟩ := hc2
        cases h3 : finV (blks.length == 0) bs s.heap (q0b vs) with
        | none => simp [h3] at hfin
        | some r' =>
          cases h4 : mapO (finB (blks.length == 0) bs s.heap) bs with
          | none => simp [h3, h4] at hfin
          | some news' =>
            simp only [h3, h4, Option.some.injEq, Prod.mk.injEq] at hfin
            obtain ⟨rfl, rfl, rfl⟩ := hfin
            have hpin : ∀ b, b < blks.length → bs[b]? = some b := fun b hb' => by
              have : (bs.take blks.length)[b]? = some b := by rw [hpre]; simp [hb']
              simpa [List.getElem?_take, hb'] using this
            have hX : ∀ b k, OwnB σ b k → bs[b]? = some b := fun b k hx => hpin b (hs.xm b k hx)
            have hy : z2L (OwnB σ) w.heap.size bs σ' := by
              intro i l hl
              obtain ⟨hni, hl'⟩ := q3Q hl
              rcases (hs.heap.own i l hl').2.2.1 with h | h
              · exact h
              · have := List.mem_of_getElem? (hX i _ h)
                simp [this] at hni
            refine ⟨hs.dfr.trans hd0, v, h1, v, FZ F' bs σ', outs bs σ', rfl, hs.frame, fun b hb' => .inl (hs.sub b hb'), fun b hb' => ?_, q7F hs.heap hy h3 h2, q9p hs.heap hy hnd hX h4, fun i l hi hl hm' => ?_⟩
            · rcases hb' with hb' | ⟨i, l, hl, rfl⟩
              · exact hs.frz b hb'
              · exact .inr (hy i l hl)
            · unfold outs
              rw [hpin i hi]
              exact hs.stab i l hi hl (fun hc => hm' (List.mem_filter.2 ⟨List.mem_range.2 hi, by simpa [List.contains_eq_mem] using hc⟩))
      unfold q0o at hr
      cases hex : exec K g.body (startS args blks) with
      | none => simp [hex] at hr
      | some p =>
        obtain ⟨ex, s⟩ := p
        refine wp_mono (q10 hm hK g.body code _ _ _ _ _ _ hc hex hst) fun e a w' hp => ?_
        obtain ⟨rfl, F', σ', hs⟩ := hp
        cases ex with
        | nrm =>
          simp only [hex] at hr
          cases hvs : mapO (ev K s) g.res with
          | none => simp [hvs] at hr
          | some vs =>
            simp only [hvs] at hr
            exact fin s a w' F' σ' vs hs hvs hr
        | ret =>
          simp only [hex] at hr
          cases hvs : mapO (ev K s) g.res with
          | none => simp [hvs] at hr
          | some vs =>
            simp only [hvs] at hr
            exact fin s a w' F' σ' vs hs hvs hr
        | exit id => simp [hex] at hr
        | goto l => simp [hex] at hr

theorem q3B (hm : P.follows .mixedOrders = true) {K : Cx} (hK : K.Sound P) {f : FuncId} {g : Fun} {args : List V} {r : V} {news : List Blk} {mv : List Nat} (hok : q0J P f 0 args.length g = true) (hr : q0o K g args [] = some (r, news, mv)) (hd0 : K.dfr = [] := by rfl) :
    q0p P f = true ∧ q1f P K.glob f args r news := by
  have hcal : q0p P f = true := by
    unfold q0J at hok
    cases hf : P.funcs[f]? with
    | none => simp [hf] at hok
    | some fn =>
      cases hb : fn.body with
      | none => simp [hf, hb] at hok
      | some code =>
        simp only [hf, hb, Bool.and_eq_true] at hok
        simp [q0p, hf, hb, hok.2]
  refine ⟨hcal, fun w F vals hF hG hargs => ?_⟩
  have hX : ∀ b k, ¬ OwnB (fun _ => none) b k := by rintro b k ⟨l, h, _⟩; cases h
  have hH : HeapRel w F (OwnB fun _ => none) w.heap.size (fun _ => none) ([] : List Blk).length (indexed []) := ⟨fun b blk h => by simp [indexed, look] at h, fun b b' l l' h => (by cases h), fun b l h => (by cases h), hF⟩
  obtain ⟨_, h⟩ := q8X hm hd0 hK hok hr hG hH hargs
  refine h.mono fun e w' ⟨v, F', σ', he, hfr, _, hF', hR, hHr, _⟩ => ⟨v, F', σ', he, ⟨hfr.os, hfr.tape, hfr.output, hfr.size, fun k hk => hfr.block k hk (fun b => hX b k)⟩, hF', hR, ⟨hHr.blk, hHr.inj, fun b l hb => ?_, hHr.fro⟩⟩
  obtain ⟨o1, o2, o3, o4⟩ := hHr.own b l hb
  exact ⟨o1, o2, o3.imp id (fun hx => hX b _ hx), o4⟩

theorem q9y (hm : P.follows .mixedOrders = true) {K : Cx} (hK : K.Sound P) {f : FuncId} {g : Fun} {args : List V} {blks : List Blk} {r : V} {news : List Blk} {mv : List Nat} (hok : q0J P f blks.length args.length g = true) (hr : q0o K g args blks = some (r, news, mv)) (hd0 : K.dfr = [] := by rfl) :
    q0p P f = true ∧ q37 P K.glob f args blks r news mv := by
  have hcal : q0p P f = true := by
    unfold q0J at hok
    cases hf : P.funcs[f]? with
    | none => simp [hf] at hok
    | some fn =>
      cases hb : fn.body with
      | none => simp [hf, hb] at hok
      | some code =>
        simp only [hf, hb, Bool.and_eq_true] at hok
        simp [q0p, hf, hb, hok.2]
  exact ⟨hcal, fun w F σ vals hG hH hargs => (q8X hm hd0 hK hok hr hG hH hargs).2⟩

end Go.Vm
end

section
namespace Go.Vm
theorem q6E{f:S→Option (Ex×S)}:∀ {n:Nat}{s:S}{r:Ex×S},iter f n s=some r→∀ m,n≤m→iter f m s=some r
 |0,s,r,h,m,_=>by simp [iter] at h
 |n+1,s,r,h,0,hm=>by omega
 |n+1,s,r,h,m+1,hm=>by
  simp only[iter] at h ⊢
  cases hf:f s with
  |none=>simp [hf] at h
  |some p=>
   obtain⟨e,s'⟩:=p
   cases e with
   |nrm=>simp only[hf] at h⊢;exact q6E h m (by omega)
   |exit id=>simpa [hf] using h
   |goto l=>simpa [hf] using h
   |ret=>simpa [hf] using h
theorem q3C{f:S→Option (Ex×S)}{n:Nat}{s:S}{r:Ex×S}(h:iter f n s=some r):q3J f s=some r:=by
 have hex:∃ n,(iter f n s).isSome:=⟨n,by rw[h];rfl⟩
 unfold q3J
 rw[dif_pos hex]
 have hc:=hex.choose_spec
 obtain⟨r',hr'⟩:=Option.isSome_iff_exists.1 hc
 have h1:=q6E h (n+hex.choose) (by omega)
 have h2:=q6E hr' (n+hex.choose) (by omega)
 rw[hr',←h2,h1]
theorem q44{f:Nat→Option (S→Option (Ex×S))}:∀ {n:Nat}{q:Option (Ex×S)}{r:Ex×S},q2o f n q=some r→∀ m,n≤m→q2o f m q=some r
 |0,q,r,h,m,_=>by simp [q2o] at h
 |n+1,q,r,h,0,hm=>by omega
 |n+1,q,r,h,m+1,hm=>by
  simp only[q2o] at h ⊢
  cases q with
  |none=>simp at h
  |some p=>
   obtain⟨e,s'⟩:=p
   cases e with
   |goto l=>
    simp only at h ⊢
    cases hl:f l with
    |none=>simp [hl] at h
    |some g=>simp only[hl] at h⊢;exact q44 h m (by omega)
   |nrm=>simpa using h
   |exit id=>simpa using h
   |ret=>simpa using h
theorem z3Q{f:Nat→Option (S→Option (Ex×S))}{n:Nat}{q:Option (Ex×S)}{r:Ex×S}(h:q2o f n q=some r):z0S f q=some r:=by
 have hex:∃ n,(q2o f n q).isSome:=⟨n,by rw[h];rfl⟩
 unfold z0S
 rw[dif_pos hex]
 have hc:=hex.choose_spec
 obtain⟨r',hr'⟩:=Option.isSome_iff_exists.1 hc
 have h1:=q44 h (n+hex.choose) (by omega)
 have h2:=q44 hr' (n+hex.choose) (by omega)
 rw[hr',←h2,h1]
end Go.Vm
end

section
namespace Go.Vm
mutual
def D.eqb:D→D→Bool
 |.int k n,.int k' n'=>decide (k=k')&&decide (n=n')
 |.bool b,.bool b'=>b==b'
 |.str s,.str s'=>decide (s=s')
 |.sl k rows,.sl k' rows'=>decide (k=k')&&q9B rows rows'
 |.ptr cs,.ptr cs'=>dRow cs cs'
 |.nilp,.nilp=>true
 |.nilif,.nilif=>true
 |.nilfn,.nilfn=>true
 |.nilm,.nilm=>true
 |.nils k,.nils k'=>decide (k=k')
 |.emps k,.emps k'=>decide (k=k')
 |.iface t cs,.iface t' cs'=>decide (t=t')&&dRow cs cs'
 |_,_=>false
def dRow:List D→List D→Bool
 |[],[]=>true
 |a :: r,b :: s=>a.eqb b&&dRow r s
 |_,_=>false
def q9B:List (List D)→List (List D)→Bool
 |[],[]=>true
 |a :: r,b :: s=>dRow a b&&q9B r s
 |_,_=>false
end
mutual
theorem D.eqb_ok:∀ {x y:D},x.eqb y=true→x=y:=by
 intro x y h
 cases x <;> cases y <;> simp only[D.eqb,Bool.and_eq_true,decide_eq_true_eq,beq_iff_eq,reduceCtorEq,Bool.false_eq_true] at h <;> try rfl
 ·obtain⟨rfl,rfl⟩:=h;rfl
 ·subst h;rfl
 ·subst h;rfl
 ·obtain⟨rfl,h⟩:=h;rw[q5P h]
 ·rw[q8p h]
 ·obtain⟨rfl,h⟩:=h;rw[q8p h]
 ·subst h;rfl
 ·subst h;rfl
theorem q8p:∀ {x y:List D},dRow x y=true→x=y:=by
 intro x y h
 cases x with
 |nil=>cases y with
  |nil=>rfl
  |cons b s=>simp [dRow] at h
 |cons a r=>cases y with
  |nil=>simp [dRow] at h
  |cons b s=>
   simp only[dRow,Bool.and_eq_true] at h
   rw[D.eqb_ok h.1,q8p h.2]
theorem q5P:∀ {x y:List (List D)},q9B x y=true→x=y:=by
 intro x y h
 cases x with
 |nil=>cases y with
  |nil=>rfl
  |cons b s=>simp [q9B] at h
 |cons a r=>cases y with
  |nil=>simp [q9B] at h
  |cons b s=>
   simp only[q9B,Bool.and_eq_true] at h
   rw[q8p h.1,q5P h.2]
end
def V.eqb1:V→V→Bool
 |.d c x,.d c' x'=>c==c'&&x.eqb x'
 |.fs c k r,.fs c' k' r'=>c==c'&&decide (k=k')&&q9B r r'
 |_,_=>false
def vRow:List V→List V→Bool
 |[],[]=>true
 |a :: r,b :: s=>a.eqb1 b&&vRow r s
 |_,_=>false
def V.eqb:V→V→Bool
 |.agg cs,.agg cs'=>vRow cs cs'
 |v,u=>v.eqb1 u
theorem V.eqb1_ok{v u:V}(h:v.eqb1 u=true):v=u∧v.own1=false:=by
 cases v <;> cases u <;> simp only[V.eqb1,Bool.and_eq_true,decide_eq_true_eq,beq_iff_eq,Bool.false_eq_true] at h
 ·obtain⟨rfl,h⟩:=h;rw[D.eqb_ok h];exact⟨rfl,rfl⟩
 ·obtain⟨⟨rfl,rfl⟩,h⟩:=h;rw[q5P h];exact⟨rfl,rfl⟩
theorem z8z:∀ {x y:List V},vRow x y=true→x=y∧x.any V.own1=false:=by
 intro x
 induction x with
 |nil=>intro y h;cases y with
  |nil=>exact⟨rfl,rfl⟩
  |cons b s=>simp [vRow] at h
 |cons a r ih=>intro y h;cases y with
  |nil=>simp [vRow] at h
  |cons b s=>
   simp only[vRow,Bool.and_eq_true] at h
   obtain⟨h1,h2⟩:=V.eqb1_ok h.1
   obtain⟨h3,h4⟩:=ih h.2
   rw[←h1,←h3]
   exact⟨rfl,by simp [h2,h4]⟩
theorem V.eqb_ok{v u:V}(h:v.eqb u=true):v=u∧v.own=false:=by
 cases v with
 |agg cs=>cases u with
  |agg cs'=>
   simp only[V.eqb] at h
   obtain⟨h1,h2⟩:=z8z h
   exact⟨by rw[h1],h2⟩
  |_=>simp [V.eqb,V.eqb1] at h
 |d c x=>exact V.eqb1_ok (v:=.d c x) (by cases u <;> exact h)
 |fs c k r=>exact V.eqb1_ok (v:=.fs c k r) (by cases u <;> exact h)
 |_=>cases u <;> simp [V.eqb,V.eqb1] at h
def z65(mv:List Nat):V→V→Bool
 |.ptr b i j,.ptr b' i' j'=>b==b'&&i==i'&&j==j'&&!mv.contains b
 |.bsl b i j,.bsl b' i' j'=>b==b'&&i==i'&&j==j'&&!mv.contains b
 |.map b,.map b'=>b==b'&&!mv.contains b
 |v,u=>v.eqb u
theorem z07{mv:List Nat}{v u:V}(h:z65 mv v u=true):v=u∧q3Y mv v:=by
 have other:v.eqb u=true→v=u∧q3Y mv v:=fun h=>by
  obtain⟨h1,h2⟩:=V.eqb_ok h
  refine⟨h1,?_⟩
  cases v with
  |ptr b i j=>simp [V.own,V.own1] at h2
  |bsl b i j=>simp [V.own,V.own1] at h2
  |bsx b i j=>simp [V.own,V.own1] at h2
  |map b=>simp [V.own,V.own1] at h2
  |_=>exact h2
 unfold z65 at h
 split at h
 ·simp only[Bool.and_eq_true,beq_iff_eq,Bool.not_eq_true'] at h
  obtain⟨⟨⟨rfl,rfl⟩,rfl⟩,h⟩:=h
  exact⟨rfl,h⟩
 ·simp only[Bool.and_eq_true,beq_iff_eq,Bool.not_eq_true'] at h
  obtain⟨⟨⟨rfl,rfl⟩,rfl⟩,h⟩:=h
  exact⟨rfl,h⟩
 ·simp only[Bool.and_eq_true,beq_iff_eq,Bool.not_eq_true'] at h
  obtain⟨rfl,h⟩:=h
  exact⟨rfl,h⟩
 ·exact other h
def z64(X:Cx)(s:S)(mv:List Nat)(H1:List (Nat×Blk))(g:Seg):Bool:=g.late.isEmpty||match q2z X s g.mks with
 |none=>true
 |some (s1,_)=>g.late.all fun e=>match ev X (q33 mv (q4u X s g mv H1) s1) e,ev X s1 e with
  |some v,some u=>z65 mv v u
  |_,_=>false
theorem z63{X:Cx}{s:S}{mv:List Nat}{H1:List (Nat×Blk)}{g:Seg}(h:z64 X s mv H1 g=true):z06 X s mv H1 g:=by
 intro e he s1 news hm
 unfold z64 at h
 rw[hm] at h
 simp only[Bool.or_eq_true,List.isEmpty_iff,List.all_eq_true] at h
 rcases h with h|h
 ·rw[h] at he;simp at he
 ·have:=h e he
  cases h1:ev X (q33 mv (q4u X s g mv H1) s1) e with
  |none=>rw[h1] at this;simp at this
  |some v=>cases h2:ev X s1 e with
   |none=>rw[h1,h2] at this;simp at this
   |some u=>
    rw[h1,h2] at this
    obtain⟨rfl,h3⟩:=z07 this
    exact⟨v,rfl,rfl,h3⟩
def q5s(X:Cx)(s:S)(g:Seg):Option S:=match q7K X s g with
 |some s'=>if z64 X s (q08 s s') s'.heap g then some s' else none
 |none=>none
theorem q4z{X:Cx}{g:Seg}{s s':S}(h:q5s X s g=some s'):q28 X s g=some s':=by
 unfold q5s at h
 unfold q28
 cases h0:q7K X s g with
 |none=>rw[h0] at h;cases h
 |some s1=>
  rw[h0] at h
  simp only at h ⊢
  by_cases hl:z64 X s (q08 s s1) s1.heap g=true
  ·rw[if_pos hl] at h
   rw[if_pos (z63 hl)]
   exact h
  ·rw[if_neg hl] at h;cases h
def q6V(X:Cx)(s:S):List Seg→Option S
 |[]=>some s
 |g :: r=>match q5s X s g with
  |some s'=>q6V X s' r
  |none=>none
theorem z2z{X:Cx}:∀ {l:List Seg}{s s':S},q6V X s l=some s'→q1N X s l=some s':=by
 intro l
 induction l with
 |nil=>intro s s' h;exact h
 |cons g l ih=>
  intro s s' h
  simp only[q6V] at h
  simp only[q1N]
  cases h0:q5s X s g with
  |none=>rw[h0] at h;cases h
  |some s1=>rw[h0] at h;rw[q4z h0];exact ih h
def q8h(C:Cx)(s:S)(p:Pre)(g:Seg):Option S:=match p.sg with
 |none=>q5s C s g
 |some (t,b)=>match look s.rho t with
  |some (.d _ (.bool x))=>if x=b then q5s C s g else some (q8Q s (z0j g))
  |_=>none
theorem z2A{X:Cx}{p:Pre}{g:Seg}{s s':S}(h:q8h X s p g=some s'):q6W X s p g=some s':=by
 unfold q8h at h
 unfold q6W
 split at h
 ·rename_i e;rw[e];exact q4z h
 ·rename_i t b e
  rw[e]
  simp only
  split at h
  ·rename_i c x hl
   rw[hl]
   simp only
   split at h
   ·rename_i hx;rw[if_pos hx];exact q4z h
   ·rename_i hx;rw[if_neg hx];exact h
  ·cases h
def q4y(m:Nat)(C:Cx)(s:S):List (Pre×Seg)→Option S
 |[]=>some s
 |(p,g) :: r=>match q8h C (frzL m p.fz s) p g with
  |some s'=>q4y m C s' r
  |none=>none
theorem z0v{X:Cx}{m:Nat}:∀ {l:List (Pre×Seg)}{s s':S},q4y m X s l=some s'→q2i m X s l=some s':=by
 intro l
 induction l with
 |nil=>intro s s' h;exact h
 |cons q l ih=>
  intro s s' h
  obtain⟨p,g⟩:=q
  simp only[q4y] at h
  simp only[q2i]
  cases h0:q8h X (frzL m p.fz s) p g with
  |none=>rw[h0] at h;cases h
  |some s1=>rw[h0] at h;rw[z2A h0];exact ih h
def z8Q(X:Cx)(s s2:S)(g:Seg):Bool:=g.late.isEmpty||match q2z X s g.mks with
 |some (s1,_)=>g.late.all fun e=>match ev X s2 e,ev X s1 e with
  |some v,some u=>z65 [] v u
  |_,_=>false
 |none=>true
theorem z6A{X:Cx}{s s2:S}{g:Seg}(h:z8Q X s s2 g=true):z7X X s s2 g:=by
 intro e he s1 news hm
 unfold z8Q at h
 rw[hm] at h
 simp only[Bool.or_eq_true,List.isEmpty_iff,List.all_eq_true] at h
 rcases h with h|h
 ·rw[h] at he;simp at he
 ·have:=h e he
  cases h1:ev X s2 e with
  |none=>simp [h1] at this
  |some v=>
   cases h2:ev X s1 e with
   |none=>simp [h1,h2] at this
   |some u=>
    rw[h1,h2] at this
    rw[(z07 this).1]
def q26(C:Cx)(s:S):List Seg→Option S
 |[]=>some s
 |g :: r=>match q5s C s g with
  |some s'=>if r.isEmpty||z8Q C s s' g then q26 C s' r else none
  |none=>none
theorem q6U{X:Cx}:∀ {l:List Seg}{s s':S},q26 X s l=some s'→q1K X s l=some s':=by
 intro l
 induction l with
 |nil=>intro s s' h;exact h
 |cons g l ih=>
  intro s s' h
  simp only[q26] at h
  simp only[q1K]
  cases h0:q5s X s g with
  |none=>rw[h0] at h;cases h
  |some s1=>
   rw[h0] at h
   rw[q4z h0]
   simp only at h ⊢
   split at h
   ·rename_i hc
    rw[if_pos ?_]
    ·exact ih h
    ·simp only[Bool.or_eq_true,List.isEmpty_iff] at hc
     exact hc.imp id z6A
   ·cases h
def execC(N:Nat)(X:Cx):C→S→Option (Ex×S)
 |.skip,s=>some (.nrm,s)
 |.regg m l,s=>match q4y m X s l with
  |some s'=>some (.nrm,s')
  |none=>none
 |.regl l,s=>match q26 X s l with
  |some s'=>some (.nrm,s')
  |none=>none
 |.regp _ l,s=>match q26 X s l with
  |some s'=>some (.nrm,s')
  |none=>none
 |.ownc t j k,s=>some (.nrm,z6K t j k s)
 |.reg l,s=>match q6V X s l with
  |some s'=>some (.nrm,s')
  |none=>none
 |.seq a b,s=>match execC N X a s with
  |some (.nrm,s')=>execC N X b s'
  |r=>r
 |.cond e a b,s=>match ev X s e with
  |some (.d _ (.bool x))=>if x then execC N X a s else execC N X b s
  |_=>none
 |.block id c,s=>match execC N X c s with
  |some (.exit i,s')=>if i=id then some (.nrm,s') else some (.exit i,s')
  |r=>r
 |.loop c,s=>iter (execC N X c) N s
 |.exit id,s=>some (.exit id,s)
 |.scope c ls,s=>q2o (fun l=>labelled N X ls l) N (execC N X c s)
 |.lnil,_=>none
 |.lcons _ _ _,_=>none
 |.label _,s=>some (.nrm,s)
 |.goto l,s=>some (.goto l,s)
 |.ret,s=>some (.ret,s)
 |.tidy m slots,s=>match q5z m slots s with
  |some s'=>some (.nrm,s')
  |none=>none
 |.own t k,s=>match look s.rho t with
  |some (.fs _ k' [])=>if k'=k then some (.nrm,⟨put s.rho t (.bsl s.nx 0 0),(s.nx,.dat true k []) :: s.heap,s.nx+1,s.mv⟩) else some (.nrm,s)
  |_=>some (.nrm,s)
 |.frz m t j,s=>some (.nrm,frzS m t j s)
 |.keep sl,s=>some (.nrm,skipM s sl)
 |.stuck,_=>none
 where
 labelled (N:Nat) (X:Cx):C→Nat→Option (S→Option (Ex×S))
  |.lcons l c ls,l'=>if l=l' then some (execC N X c) else labelled N X ls l'
  |_,_=>none
theorem z9m{f g:S→Option (Ex×S)}(h:∀ s r,f s=some r→g s=some r):∀(n:Nat)(s:S)(r:Ex×S),iter f n s=some r→iter g n s=some r:=by
 intro n
 induction n with
 |zero=>intro s r h;cases h
 |succ n ih=>
  intro s r hr
  simp only[iter] at hr ⊢
  cases hf:f s with
  |none=>rw[hf] at hr;cases hr
  |some q=>
   rw[h s q hf]
   rw[hf] at hr
   obtain⟨e,s'⟩:=q
   cases e with
   |nrm=>exact ih s' r hr
   |_=>exact hr
theorem z68{f g:Nat→Option (S→Option (Ex×S))}(h:∀ l k,f l=some k→∃ k',g l=some k'∧∀ s r,k s=some r→k' s=some r):∀(n:Nat)(q q':Option (Ex×S))(r:Ex×S),(∀ x,q=some x→q'=some x)→q2o f n q=some r→q2o g n q'=some r:=by
 intro n
 induction n with
 |zero=>intro q q' r _ h;cases h
 |succ n ih=>
  intro q q' r hq hr
  cases q with
  |none=>simp [q2o] at hr
  |some x=>
   rw[hq x rfl]
   obtain⟨e,s⟩:=x
   cases e with
   |goto l=>
    simp only[q2o] at hr ⊢
    cases hl:f l with
    |none=>rw[hl] at hr;cases hr
    |some k=>
     obtain⟨k',h1,h2⟩:=h l k hl
     rw[hl] at hr
     rw[h1]
     exact ih _ _ r (fun x hx=>h2 s x hx) hr
   |_=>exact hr
theorem q5N(N:Nat)(X:Cx):∀ c:C,(∀ s r,execC N X c s=some r→exec X c s=some r)∧∀ l k,execC.labelled N X c l=some k→∃ k',exec.labelled X c l=some k'∧∀ s r,k s=some r→k' s=some r:=by
 intro c
 induction c with
 |skip=>exact⟨fun s r h=>h,fun l k h=>by simp [execC.labelled] at h⟩
 |reg l=>
  refine⟨fun s r h=>?_,fun l k h=>by simp [execC.labelled] at h⟩
  simp only[execC] at h
  simp only[exec]
  cases hs:q6V X s l with
  |none=>rw[hs] at h;cases h
  |some s'=>rw[hs] at h;rw[z2z hs];exact h
 |seq a b iha ihb=>
  refine⟨fun s r h=>?_,fun l k h=>by simp [execC.labelled] at h⟩
  simp only[execC] at h
  simp only[exec]
  cases hs:execC N X a s with
  |none=>rw[hs] at h;cases h
  |some q=>
   rw[hs] at h
   rw[iha.1 s q hs]
   obtain⟨e,s'⟩:=q
   cases e with
   |nrm=>exact ihb.1 s' r h
   |_=>exact h
 |cond e a b iha ihb=>
  refine⟨fun s r h=>?_,fun l k h=>by simp [execC.labelled] at h⟩
  simp only[execC] at h
  simp only[exec]
  split at h
  ·rename_i x hx
   rw[hx]
   simp only
   cases x with
   |true=>exact iha.1 s r h
   |false=>exact ihb.1 s r h
  ·cases h
 |block id c ih=>
  refine⟨fun s r h=>?_,fun l k h=>by simp [execC.labelled] at h⟩
  simp only[execC] at h
  simp only[exec]
  cases hs:execC N X c s with
  |none=>rw[hs] at h;cases h
  |some q=>
   rw[hs] at h
   rw[ih.1 s q hs]
   exact h
 |loop c ih=>
  refine⟨fun s r h=>?_,fun l k h=>by simp [execC.labelled] at h⟩
  simp only[execC] at h
  simp only[exec]
  exact q3C (z9m ih.1 N s r h)
 |exit id=>exact⟨fun s r h=>h,fun l k h=>by simp [execC.labelled] at h⟩
 |scope c ls ihc ihl=>
  refine⟨fun s r h=>?_,fun l k h=>by simp [execC.labelled] at h⟩
  simp only[execC] at h
  simp only[exec]
  exact z3Q (z68 ihl.2 N _ _ r (fun x hx=>ihc.1 s x hx) h)
 |lnil=>exact⟨fun s r h=>by simp [execC] at h,fun l k h=>by simp [execC.labelled] at h⟩
 |lcons l c ls ihc ihl=>
  refine⟨fun s r h=>by simp [execC] at h,fun l' k h=>?_⟩
  simp only[execC.labelled] at h
  simp only[exec.labelled]
  by_cases e:l=l'
  ·rw[if_pos e] at h ⊢
   obtain rfl:=Option.some.inj h
   exact⟨_,rfl,ihc.1⟩
  ·rw[if_neg e] at h ⊢
   exact ihl.2 l' k h
 |label l=>exact⟨fun s r h=>h,fun l k h=>by simp [execC.labelled] at h⟩
 |goto l=>exact⟨fun s r h=>h,fun l k h=>by simp [execC.labelled] at h⟩
 |ret=>exact⟨fun s r h=>h,fun l k h=>by simp [execC.labelled] at h⟩
 |tidy m slots=>exact⟨fun s r h=>h,fun l k h=>by simp [execC.labelled] at h⟩
 |own t k=>exact⟨fun s r h=>h,fun l k h=>by simp [execC.labelled] at h⟩
 |stuck=>exact⟨fun s r h=>by simp [execC] at h,fun l k h=>by simp [execC.labelled] at h⟩
 |keep sl=>exact⟨fun s r h=>h,fun l k h=>by simp [execC.labelled] at h⟩
 |frz m t j=>exact⟨fun s r h=>h,fun l k h=>by simp [execC.labelled] at h⟩
 |ownc t j k=>exact⟨fun s r h=>h,fun l k h=>by simp [execC.labelled] at h⟩
 |regl l=>
  refine⟨fun s r h=>?_,fun l k h=>by simp [execC.labelled] at h⟩
  simp only[execC] at h
  simp only[exec]
  cases h0:q26 X s l with
  |none=>rw[h0] at h;cases h
  |some s1=>rw[h0] at h;rw[q6U h0];exact h
 |regp π l=>
  refine⟨fun s r h=>?_,fun l k h=>by simp [execC.labelled] at h⟩
  simp only[execC] at h
  simp only[exec]
  cases h0:q26 X s l with
  |none=>rw[h0] at h;cases h
  |some s1=>rw[h0] at h;rw[q6U h0];exact h
 |regg m l=>
  refine⟨fun s r h=>?_,fun l k h=>by simp [execC.labelled] at h⟩
  simp only[execC] at h
  simp only[exec]
  cases h0:q4y m X s l with
  |none=>rw[h0] at h;cases h
  |some s1=>rw[h0] at h;rw[z0v h0];exact h
def q6c(N:Nat)(K:Cx)(g:Fun)(args:List V)(blks:List Blk):Option (V×List Blk×List Nat):=
 match execC N K g.body (startS args blks) with
 |some (.nrm,s)=>match mapO (ev K s) g.res with
  |some vs=>finish blks.length g.own s (q0b vs)
  |none=>none
 |some (.ret,s)=>match mapO (ev K s) g.res with
  |some vs=>finish blks.length g.own s (q0b vs)
  |none=>none
 |_=>none
theorem q4V{N:Nat}{K:Cx}{g:Fun}{args:List V}{blks:List Blk}{r:V×List Blk×List Nat}(h:q6c N K g args blks=some r):q0o K g args blks=some r:=by
 unfold q6c at h
 unfold q0o
 cases hs:execC N K g.body (startS args blks) with
 |none=>rw[hs] at h;cases h
 |some q=>
  rw[hs] at h
  rw[(q5N N K g.body).1 _ _ hs]
  exact h
structure Row where
 f:FuncId
 m:Nat
 n:Nat
 g:Fun
variable {P:Program}
end Go.Vm
end

section
namespace Go.Vm
structure Sp where
 α:Type
 f:FuncId
 ok:α→Prop
 args:α→List V
 res:α→V×List Blk
 inj:∀ a b,ok a→ok b→args a=args b→res a=res b
structure Se where
 α:Type
 f:FuncId
 ok:α→Prop
 args:α→List V
 blks:α→List Blk
 res:α→V×List Blk×List Nat
 inj:∀ a b,ok a→ok b→args a=args b→blks a=blks b→res a=res b
open Classical in
noncomputable def q64:List Sp→FuncId→List V→Option (V×List Blk)
 |[],_,_=>none
 |s :: L,f,vs=>if s.f=f then(if h:∃ a,s.ok a∧s.args a=vs then some (s.res h.choose) else none) else q64 L f vs
open Classical in
noncomputable def z0x:List Se→FuncId→List V→List Blk→Option (V×List Blk×List Nat)
 |[],_,_,_=>none
 |s :: L,f,vs,bs=>if s.f=f then(if h:∃ a,s.ok a∧s.args a=vs∧s.blks a=bs then some (s.res h.choose) else none) else z0x L f vs bs
noncomputable def cx(G:Nat→Option (List D))(L:List Sp)(E:List Se):Cx:=⟨q64 L,z0x E,G,fun _=>false,[]⟩
def Has(L:List Sp)(s:Sp):Prop:=∀ a,s.ok a→q64 L s.f (s.args a)=some (s.res a)
def HasE(L:List Se)(s:Se):Prop:=∀ a,s.ok a→z0x L s.f (s.args a) (s.blks a)=some (s.res a)
theorem q0n(s:Sp)(L:List Sp):Has (s :: L) s:=by
 intro a ha
 have h:∃ b,s.ok b∧s.args b=s.args a:=⟨a,ha,rfl⟩
 simp only[q64,if_true]
 rw[dif_pos h]
 exact congrArg some (s.inj _ _ h.choose_spec.1 ha h.choose_spec.2)
theorem q0m{s t:Sp}{L:List Sp}(h:Has L s)(hne:t.f≠s.f):Has (t :: L) s:=by
 intro a ha
 simp only[q64]
 rw[if_neg hne]
 exact h a ha
theorem q6L(s:Se)(L:List Se):HasE (s :: L) s:=by
 intro a ha
 have h:∃ b,s.ok b∧s.args b=s.args a∧s.blks b=s.blks a:=⟨a,ha,rfl,rfl⟩
 simp only[z0x,if_true]
 rw[dif_pos h]
 exact congrArg some (s.inj _ _ h.choose_spec.1 ha h.choose_spec.2.1 h.choose_spec.2.2)
variable {P:Program}{G:Nat→Option (List D)}
def Sp.Holds(P:Program)(G:Nat→Option (List D))(s:Sp):Prop:=∀ a,s.ok a→q0p P s.f=true∧q1f P G s.f (s.args a) (s.res a).1 (s.res a).2
def Se.Holds(P:Program)(G:Nat→Option (List D))(s:Se):Prop:=∀ a,s.ok a→q0p P s.f=true∧q37 P G s.f (s.args a) (s.blks a) (s.res a).1 (s.res a).2.1 (s.res a).2.2
theorem q63:∀(L:List Sp)(f:FuncId)(vs:List V)(p:V×List Blk),q64 L f vs=some p→∃ s∈L,s.f=f∧∃ a,s.ok a∧s.args a=vs∧s.res a=p
 |[],f,vs,p,h=>by cases h
 |s :: L,f,vs,p,h=>by
  simp only[q64] at h
  split at h
  ·rename_i hf
   split at h
   ·rename_i hx
    obtain⟨h1,h2⟩:=hx.choose_spec
    exact⟨s,by simp,hf,_,h1,h2,Option.some.inj h⟩
   ·cases h
  ·obtain⟨t,ht,r⟩:=q63 L f vs p h
   exact⟨t,List.mem_cons_of_mem _ ht,r⟩
theorem q7M:∀(L:List Se)(f:FuncId)(vs:List V)(bs:List Blk)(p:V×List Blk×List Nat),z0x L f vs bs=some p→∃ s∈L,s.f=f∧∃ a,s.ok a∧s.args a=vs∧s.blks a=bs∧s.res a=p
 |[],f,vs,bs,p,h=>by cases h
 |s :: L,f,vs,bs,p,h=>by
  simp only[z0x] at h
  split at h
  ·rename_i hf
   split at h
   ·rename_i hx
    obtain⟨h1,h2,h3⟩:=hx.choose_spec
    exact⟨s,by simp,hf,_,h1,h2,h3,Option.some.inj h⟩
   ·cases h
  ·obtain⟨t,ht,r⟩:=q7M L f vs bs p h
   exact⟨t,List.mem_cons_of_mem _ ht,r⟩
theorem z7G{L:List Sp}{E:List Se}(h1:∀ s∈L,s.Holds P G)(h2:∀ s∈E,s.Holds P G):(cx G L E).Sound P:=by
 refine⟨fun f args r news h=>?_,fun f args r news hl _=>absurd hl (by simp [cx]),fun f args blks r blks' mv h=>?_⟩
 ·obtain⟨s,hs,rfl,a,ha,rfl,hr⟩:=q63 L f args (r,news) h
  have:=h1 s hs a ha
  rw[hr] at this
  exact this
 ·obtain⟨s,hs,rfl,a,ha,rfl,rfl,hr⟩:=q7M E f args blks (r,blks',mv) h
  have:=h2 s hs a ha
  rw[hr] at this
  exact this
theorem z7a{L:List Sp}{E:List Se}(hm:P.follows .mixedOrders=true)(hK:(cx G L E).Sound P){s:Sp}{g:Fun}(hok:∀ a,s.ok a→q0J P s.f 0 (s.args a).length g=true)
  (hev:∀ a,s.ok a→∃ mv,q0o (cx G L E) g (s.args a) []=some ((s.res a).1,(s.res a).2,mv)):s.Holds P G:=by
 intro a ha
 obtain⟨mv,h⟩:=hev a ha
 exact q3B hm hK (hok a ha) h
theorem z4K{L:List Sp}{E:List Se}(hm:P.follows .mixedOrders=true)(hK:(cx G L E).Sound P){s:Se}{g:Fun}(hok:∀ a,s.ok a→q0J P s.f (s.blks a).length (s.args a).length g=true)
  (hev:∀ a,s.ok a→q0o (cx G L E) g (s.args a) (s.blks a)=some (s.res a)):s.Holds P G:=by
 intro a ha
 exact q9y hm hK (hok a ha) (hev a ha)
structure Known(P:Program)(G:Nat→Option (List D))(L:List Sp)(E:List Se):Prop where
 one:∀ s∈L,s.Holds P G
 eff:∀ s∈E,s.Holds P G
theorem Known.sound{L:List Sp}{E:List Se}(h:Known P G L E):(cx G L E).Sound P:=z7G h.one h.eff
theorem Known.nil:Known P G [] []:=⟨fun s h=>by simp at h,fun s h=>by simp at h⟩
theorem Known.add{L:List Sp}{E:List Se}(h:Known P G L E)(hm:P.follows .mixedOrders=true){s:Sp}{g:Fun}(hok:∀ a,s.ok a→q0J P s.f 0 (s.args a).length g=true)
  (hev:∀ a,s.ok a→∃ mv,q0o (cx G L E) g (s.args a) []=some ((s.res a).1,(s.res a).2,mv)):Known P G (s :: L) E:=by
 refine⟨fun t ht=>?_,h.eff⟩
 rcases List.mem_cons.1 ht with rfl|ht
 ·exact z7a hm h.sound hok hev
 ·exact h.one t ht
theorem Known.addE{L:List Sp}{E:List Se}(h:Known P G L E)(hm:P.follows .mixedOrders=true){s:Se}{g:Fun}(hok:∀ a,s.ok a→q0J P s.f (s.blks a).length (s.args a).length g=true)
  (hev:∀ a,s.ok a→q0o (cx G L E) g (s.args a) (s.blks a)=some (s.res a)):Known P G L (s :: E):=by
 refine⟨h.one,fun t ht=>?_⟩
 rcases List.mem_cons.1 ht with rfl|ht
 ·exact z4K hm h.sound hok hev
 ·exact h.eff t ht
theorem Known.put{L:List Sp}{E:List Se}(h:Known P G L E){s:Sp}(hs:s.Holds P G):Known P G (s :: L) E:=by
 refine⟨fun t ht=>?_,h.eff⟩
 rcases List.mem_cons.1 ht with rfl|ht
 ·exact hs
 ·exact h.one t ht
theorem z4P{s t:Se}{L:List Se}(h:HasE L s)(hne:t.f≠s.f):HasE (t :: L) s:=by
 intro a ha
 simp only[z0x]
 rw[if_neg hne]
 exact h a ha
end Go.Vm
end

section
namespace Go.Vm
open Go.RowKit
section
variable {P:Program}{w:World}
def Same(w:World)(v v':Value):Prop:=v'.ownBlock=v.ownBlock∨∃ g,v'.ownBlock=some g∧w.heap.size≤g
theorem z0E(t ty e:TypeId)(i:TypeInfo)(ht:P.underlying t=some (.slice e))(hi:P.info? e=some i)(hz:i.zero=some (.int .u8 0))(hsize:i.size=1)(hby:i.bytes=1)
  (v:Value) (n:Nat) (xs:List Value) (hown:w.ownsRowF 0 e 1 v n xs)
  (a:Addr) (m c:Nat) (news:List Value) (hl:news.length=m) (hnews:∀ j u,news[j]? = some u→w.cell? (a.add j)=some u) (h1:∀ u∈news,u.oneCell'=true) (h63:n+m≤maxLen) (hbytes:n+m≤140737488355328) :
  ∃ v' w',(Builtin.append_ #[t,t] ty #[v,.slice (some a) m c]).run P w=.ok v' w'∧w'.ownsRowF 0 e 1 v' (n+m) (xs++news)∧w.grownBy w' v.ownBlock∧(v'=.slice none 0 0↔v=.slice none 0 0∧m=0)∧Same w v v':=by
 obtain⟨v',w',r1,r2,r3,r4⟩:=run_append_ownF (P:=P) w 0 t ty e i (.int .u8 0) 1 1 ht hi hz hsize hby rfl (by decide) v n xs hown a m c news (by omega) hnews h1 h63 (by omega) (Nat.zero_le _)
 refine⟨v',w',r1,r2,r3,r4,?_⟩
 rcases hown.2 with⟨rfl,rfl⟩|⟨g,cap,cur,fz,rfl,hbg,hg,hfz,hnc,hcm,hcs,htake⟩
 ·obtain⟨v2,w2,q1,q2,q3,q4⟩:=run_append_ownF (P:=P) w w.heap.size t ty e i (.int .u8 0) 1 1 ht hi hz hsize hby rfl (by decide) (.slice none 0 0) 0 xs ⟨hown.1,.inl ⟨rfl,rfl⟩⟩ a m c news (by omega) hnews h1 h63 (by omega) (Nat.le_refl _)
  rw[r1] at q1
  obtain⟨rfl,rfl⟩:v'=v2∧w'=w2:=by injection q1 with e1 e2;exact⟨e1,e2⟩
  cases ho:v'.ownBlock with
  |none=>exact .inl (by rw[ho];rfl)
  |some g=>exact .inr ⟨g,ho,(q2.lt g ho).1⟩
 ·by_cases hroom:n+m≤cap
  ·have hr:=run_append_roomF (P:=P) w t ty e i ht hi g n cap cur fz hg (by rw[hsize];exact hfz) a m c news (by rw[hsize];omega) hnews h1 hroom (by rw[hsize];omega)
   rw[r1] at hr
   obtain⟨rfl,_⟩:v'=.slice (some ⟨g,0,none⟩) (n+m) cap∧True:=by injection hr with e1 e2;exact⟨e1,trivial⟩
   exact .inl rfl
  ·have holds:∀ j u,xs[j]? = some u→w.cell? ((⟨g,0,none⟩:Addr).add j)=some u:=hown.cells (g:=g) rfl
   have hsmall:n+m≤9223372036854775807:=by simp only[maxLen] at h63;omega
   have hr:=run_append_grow (P:=P) w t ty e i (.int .u8 0) ht hi hz ⟨g,0,none⟩ n cap xs (by rw[hsize];exact hown.1) holds a m c news (by rw[hsize];omega) hnews (by omega) (by omega) (growslice_fits (by omega) (by rw[hby];omega))
   rw[r1] at hr
   obtain⟨rfl,_⟩:v'=.slice (some ⟨w.heap.size,0,none⟩) (n+m) (grownCap w (n+m) cap e)∧True:=by injection hr with e1 e2;exact⟨e1,trivial⟩
   exact .inr ⟨w.heap.size,rfl,Nat.le_refl _⟩
theorem q68(t u ty e:TypeId)(i:TypeInfo)(ht:P.underlying t=some (.slice e))(hu:P.underlying u=some .string)(hi:P.info? e=some i)(hz:i.zero=some (.int .u8 0))(hsize:i.size=1)(hby:i.bytes=1)
  (v:Value) (n:Nat) (xs:List Value) (hown:w.ownsRowF 0 e 1 v n xs) (s:ByteArray) (h63:n+s.size≤maxLen) (hbytes:n+s.size≤140737488355328) :
  ∃ v' w',(Builtin.append_ #[t,u] ty #[v,.string s]).run P w=.ok v' w'∧w'.ownsRowF 0 e 1 v' (n+s.size) (xs++Lib.strCells s)∧w.grownBy w' v.ownBlock∧(v'=.slice none 0 0↔v=.slice none 0 0∧s.size=0)∧Same w v v':=by
 obtain⟨v',w',r1,r2,r3,r4⟩:=Lib.run_append_own_stringF (P:=P) w 0 t u ty e i ht hu hi hz hsize hby v n xs hown s h63 hbytes (Nat.zero_le _)
 refine⟨v',w',r1,r2,r3,r4,?_⟩
 rcases hown.2 with⟨rfl,rfl⟩|⟨g,cap,cur,fz,rfl,hbg,hg,hfz,hnc,hcm,hcs,htake⟩
 ·obtain⟨v2,w2,q1,q2,q3,q4⟩:=Lib.run_append_own_stringF (P:=P) w w.heap.size t u ty e i ht hu hi hz hsize hby (.slice none 0 0) 0 xs ⟨hown.1,.inl ⟨rfl,rfl⟩⟩ s h63 hbytes (Nat.le_refl _)
  rw[r1] at q1
  obtain⟨rfl,rfl⟩:v'=v2∧w'=w2:=by injection q1 with e1 e2;exact⟨e1,e2⟩
  cases ho:v'.ownBlock with
  |none=>exact .inl (by rw[ho];rfl)
  |some g=>exact .inr ⟨g,ho,(q2.lt g ho).1⟩
 ·by_cases hroom:n+s.size≤cap
  ·have hr:=Lib.run_append_room_stringF (P:=P) w t u ty e i ht hu hi hsize g n cap cur fz hg (by omega) s hroom (by omega)
   rw[r1] at hr
   obtain⟨rfl,_⟩:v'=.slice (some ⟨g,0,none⟩) (n+s.size) cap∧True:=by injection hr with e1 e2;exact⟨e1,trivial⟩
   exact .inl rfl
  ·have holds:∀ j u,xs[j]? = some u→w.cell? ((⟨g,0,none⟩:Addr).add j)=some u:=hown.cells (g:=g) rfl
   have hsmall:n+s.size≤9223372036854775807:=by simp only[maxLen] at h63;omega
   have hr:=Lib.run_append_grow_string (P:=P) w t u ty e i (.int .u8 0) ht hu hi hz ⟨g,0,none⟩ n cap xs (by rw[hsize];exact hown.1) holds s (by omega) (by omega) (growslice_fits (by omega) (by rw[hby];omega))
   rw[r1] at hr
   obtain⟨rfl,_⟩:v'=.slice (some ⟨w.heap.size,0,none⟩) (n+s.size) (grownCap w (n+s.size) cap e)∧True:=by injection hr with e1 e2;exact⟨e1,trivial⟩
   exact .inr ⟨w.heap.size,rfl,Nat.le_refl _⟩
theorem q7c{ops:Array Oper}{rest:List Oper}{o:Oper}{a:Act}{Q:Exit→Act→World→Prop}(hgd:o.guard=none)(s x:Operand)(t:TypeId)
  (ho:o.op=.call { callee:=.builtin .append,args:=#[s,x],argTypes:=#[t,t] })
  (e:TypeId) (i:TypeInfo) (ht:P.underlying t=some (.slice e)) (hi:P.info? e=some i) (hz:i.zero=some (.int .u8 0)) (hsize:i.size=1) (hby:i.bytes=1)
  (v:Value) (n:Nat) (xs:List Value) (hs:a.eval s=v) (hown:w.ownsRowF 0 e 1 v n xs)
  (ad:Addr) (m c:Nat) (news:List Value) (hx:a.eval x=.slice (some ad) m c) (hl:news.length=m) (hnews:∀ j u,news[j]? = some u→w.cell? (ad.add j)=some u) (h1:∀ u∈news,u.oneCell'=true) (h63:n+m≤maxLen) (hbytes:n+m≤140737488355328)
  (h:∀ v' w',w'.ownsRowF 0 e 1 v' (n+m) (xs++news)→w.grownBy w' v.ownBlock→(v'=.slice none 0 0↔v=.slice none 0 0∧m=0)→Same w v v'→wpList P ops Q rest (a.put o.dst v') w'):wpList P ops Q (o :: rest) a w:=by
 refine wpList_plain hgd fun K hK=>?_
 obtain⟨v',w',hr,h2,h3,h4,h5⟩:=z0E (P:=P) (w:=w) t o.type e i ht hi hz hsize hby v n xs hown ad m c news hl hnews h1 h63 hbytes
 unfold Oper.wp execOp
 simp only[ho,resolve,invoke,builtin,Sem.run_bind,Sem.run_pure,Result.andThen_ok,List.map_toArray,List.map_cons,List.map_nil,hs,hx,hr]
 exact hK _ _ (h v' w' h2 h3 h4 h5)
theorem q38{ops:Array Oper}{rest:List Oper}{o:Oper}{a:Act}{Q:Exit→Act→World→Prop}(hgd:o.guard=none)(sl x:Operand)(t u:TypeId)
  (ho:o.op=.call { callee:=.builtin .append,args:=#[sl,x],argTypes:=#[t,u] })
  (e:TypeId) (i:TypeInfo) (ht:P.underlying t=some (.slice e)) (hu:P.underlying u=some .string) (hi:P.info? e=some i) (hz:i.zero=some (.int .u8 0)) (hsize:i.size=1) (hby:i.bytes=1)
  (v:Value) (n:Nat) (xs:List Value) (hs:a.eval sl=v) (hown:w.ownsRowF 0 e 1 v n xs) (s:ByteArray) (hx:a.eval x=.string s) (h63:n+s.size≤maxLen) (hbytes:n+s.size≤140737488355328)
  (h:∀ v' w',w'.ownsRowF 0 e 1 v' (n+s.size) (xs++Lib.strCells s)→w.grownBy w' v.ownBlock→(v'=.slice none 0 0↔v=.slice none 0 0∧s.size=0)→Same w v v'→wpList P ops Q rest (a.put o.dst v') w'):wpList P ops Q (o :: rest) a w:=by
 refine wpList_plain hgd fun K hK=>?_
 obtain⟨v',w',hr,h2,h3,h4,h5⟩:=q68 (P:=P) (w:=w) t u o.type e i ht hu hi hz hsize hby v n xs hown s h63 hbytes
 unfold Oper.wp execOp
 simp only[ho,resolve,invoke,builtin,Sem.run_bind,Sem.run_pure,Result.andThen_ok,List.map_toArray,List.map_cons,List.map_nil,hs,hx,hr]
 exact hK _ _ (h v' w' h2 h3 h4 h5)
end
end Go.Vm
end

section
set_option linter.unusedVariables false
namespace Go.Vm
open Go.RowKit Go.Shelf Go.Proofs
section
variable {P:Program}{ρ:Ren}
structure BAt(T e:TypeId)(w:World)(b:Nat)(p v:Value)(bs:List Value):Prop where
 hp:p=.pointer none∨p=.pointer (some ⟨b,0,none⟩)
 hb:w.heap[b]? = some (.cells #[p,v] T (0,0))
 own:w.ownsRowF 0 e 1 v bs.length bs
 ne:v.ownBlock≠some b
theorem BAt.isB{T e:TypeId}{w:World}{b:Nat}{p v:Value}{bs:List Value}(h:BAt T e w b p v bs):Lib.IsBuilderF T e 0 b bs w:=by
 rcases h.hp with rfl|rfl
 ·exact .inl ⟨Nat.zero_le _,v,h.hb,h.own,h.ne⟩
 ·exact .inr ⟨Nat.zero_le _,v,h.hb,h.own,h.ne⟩
theorem BAt.lt{T e:TypeId}{w:World}{b:Nat}{p v:Value}{bs:List Value}(h:BAt T e w b p v bs):b<w.heap.size:=by
 rcases Nat.lt_or_ge b w.heap.size with h'|h'
 ·exact h'
 ·have:=h.hb;simp [Array.getElem?_eq_none h'] at this
structure Kept(w w':World)(b:Nat)(v v':Value):Prop where
 os:w'.os=w.os
 tape:w'.tape=w.tape
 output:w'.output=w.output
 size:w.heap.size≤w'.heap.size
 blk:∀ k,k<w.heap.size→k≠b→some k≠v.ownBlock→w'.heap[k]? = w.heap[k]?
 same:Same w v v'
def SizeEq(w1 w:World):Prop:=w1.heap.size=w.heap.size
theorem SizeEq.eq{w1 w:World}(h:SizeEq w1 w):w1.heap.size=w.heap.size:=h
theorem z5B{T e:TypeId}{w w1 w2:World}{b:Nat}{v v':Value}{bs':List Value}(hTe:T≠e)(hsz:w1.heap.size=w.heap.size∨w1.heap.size=w.heap.size+1)(hos:w1.os=w.os∧w1.tape=w.tape∧w1.output=w.output)(hold:∀ k,k<w.heap.size→k≠b→w1.heap[k]? = w.heap[k]?)
  (hb2:w2.heap[b]? = some (.cells #[.pointer (some ⟨b,0,none⟩),v] T (0,0))) (hgrow:w1.grownBy w2 v.ownBlock) (hown:w2.ownsRowF 0 e 1 v' bs'.length bs') (hs:Same w1 v v') (hv:∀ g,v.ownBlock=some g→g<w.heap.size) :
  BAt T e (w2.setCell ⟨b,1,none⟩ v') b (.pointer (some ⟨b,0,none⟩)) v' bs'∧Kept w (w2.setCell ⟨b,1,none⟩ v') b v v':=by
 have hne:=Lib.ownBlock_neF hown hb2 hTe
 refine⟨⟨.inr rfl,?_,?_,hne⟩,⟨hgrow.os.trans hos.1,hgrow.tape.trans hos.2.1,hgrow.output.trans hos.2.2,by have:=hgrow.size;simp;omega,fun k hk h1 h2=>?_,?_⟩⟩
 ·simp [World.setCell,Array.getElem?_modify,hb2]
 ·exact hown.kept (row:=some b) ⟨rfl,rfl,rfl,by simp [World.setCell],fun k _ hk=>Below.heap_setCell _ _ _ _ (fun e=>hk (by simp [e]))⟩ (Or.inr hne)
 ·rw[Below.heap_setCell _ _ _ _ h1,hgrow.block k (by omega) h2,hold k hk h1]
 ·rcases hs with h|⟨g,h1,h2⟩
  ·exact .inl h
  ·exact .inr ⟨g,h1,by omega⟩
end
end Go.Vm
end

section
set_option linter.unusedVariables false
namespace Go.Vm
open Go.RowKit Go.Shelf Go.Proofs
section
variable {P:Program}{ρ:Ren}
theorem q4w(w:World)(a:Addr)(n k:Nat)(h:k≠a.block):(w.freeze a n).heap[k]? = w.heap[k]?:=by
 unfold World.freeze
 split
 ·rfl
 ·simp [Array.getElem?_modify,h.symm]
set_option maxHeartbeats 2000000 in
set_option maxRecDepth 100000 in
theorem q7i(L:Lays.n169 P ρ)(X:Builder.Extra P ρ){w:World}{b:Nat}{p:Value}(h:BAt (ρ.t 72) (ρ.t 5) w b p (.slice none 0 0) []) :
  Calls P (ρ.f 169) #[.pointer (some ⟨b,0,none⟩)] w fun e w'=>e=.returned (.string ⟨#[]⟩)∧w'=w.drew:=by
 have hUS:=Any.unsafeString_none L X
 have c1:w.drew.cell? ⟨b,1,none⟩=some (.slice none 0 0):=by
  have:w.drew.heap[b]? = some (.cells #[p,.slice none 0 0] (ρ.t 72) (0,0)):=h.hb
  rw[Lib.cell_of_heap this];rfl
 have hSD:(Builtin.unsafeSliceData_ #[(ρ.t 37)] (ρ.t 127) #[.slice none 0 0]).run P w.drew=.ok (.pointer none) w.drew:=rfl
 have mixed:=L.mixed
 have t72:=L.t72;have a72:=L.a72;have z72:=L.z72;have v72:=L.v72;have u72:=run_underlying L.t72
 have t70:=L.t70;have a70:=L.a70;have z70:=L.z70;have v70:=L.v70;have u70:=run_underlying L.t70
 have t37:=L.t37;have a37:=L.a37;have z37:=L.z37;have v37:=L.v37;have u37:=run_underlying L.t37
 have t127:=L.t127;have a127:=L.a127;have z127:=L.z127;have v127:=L.v127;have u127:=run_underlying L.t127
 have t3:=L.t3;have a3:=L.a3;have z3:=L.z3;have v3:=L.v3;have u3:=run_underlying L.t3
 have t9:=L.t9;have a9:=L.a9;have z9:=L.z9;have v9:=L.v9;have u9:=run_underlying L.t9
 have t5:=X.t5;have a5:=X.a5;have z5:=X.z5;have v5:=X.v5;have u5:=run_underlying X.t5
 go_enter L.f169,Body.n169_ntmps ρ
 go_wp2
 go_region_o
 all_goals(go_wp2;go_ret;exact⟨rfl,rfl⟩)
set_option maxHeartbeats 2000000 in
set_option maxRecDepth 100000 in
theorem q67(L:Lays.n169 P ρ)(X:Builder.Extra P ρ){w:World}{b g cap:Nat}{p:Value}{l:List UInt8}(h0:l≠[])(h:BAt (ρ.t 72) (ρ.t 5) w b p (.slice (some ⟨g,0,none⟩) l.length cap) (Lib.byteCells l)) :
  Calls P (ρ.f 169) #[.pointer (some ⟨b,0,none⟩)] w fun e w'=>e=.returned (.string ⟨l.toArray⟩)∧w'=w.drew.freeze ⟨g,0,none⟩ l.length:=by
 have hl0:l.length≠0:=by simpa using h0
 have hbk:=h.hb
 have hown:=h.own
 rw[Lib.byteCells_length] at hown
 obtain⟨cur,fz,hg,hfz,hnc,hcm,hcs,htake⟩:∃ cur fz,w.heap[g]? = some (.cells cur (ρ.t 5) fz)∧fz.2≤l.length*1∧l.length≤cap∧cap≤maxLen∧cur.size=cap*1∧cur.toList.take (l.length*1)=Lib.byteCells l:=by
  rcases hown.2 with⟨_,hz⟩|⟨g',cap',cur,fz,hv,hB,r⟩
  ·exact absurd hz hl0
  ·injection hv with e1 e2 e3
   injection e1 with e1
   injection e1 with e1 _
   subst e1;subst e3
   exact⟨cur,fz,r⟩
 have c1:w.drew.cell? ⟨b,1,none⟩=some (.slice (some ⟨g,0,none⟩) l.length cap):=by
  have:w.drew.heap[b]? = some (.cells #[p,.slice (some ⟨g,0,none⟩) l.length cap] (ρ.t 72) (0,0)):=hbk
  rw[Lib.cell_of_heap this];rfl
 have hSD:(Builtin.unsafeSliceData_ #[(ρ.t 37)] (ρ.t 127) #[.slice (some ⟨g,0,none⟩) l.length cap]).run P w.drew=.ok (.pointer (some ⟨g,0,none⟩)) w.drew:=
  Lib.run_unsafeSliceData_row _ _ _ _ _ _ (by omega)
 have hUS:(Builtin.unsafeString_ #[(ρ.t 127),(ρ.t 3)] (ρ.t 9) #[.pointer (some ⟨g,0,none⟩),.int .i64 l.length]).run P w.drew=.ok (.string ⟨l.toArray⟩) (w.drew.freeze ⟨g,0,none⟩ l.length):=by
  refine Lib.run_unsafeString_row w.drew (ρ.t 127) (ρ.t 3) (ρ.t 9) (ρ.t 5) L.t127 X.cellsByte g cur.size (by have hg':w.drew.heap[g]? = some (.cells cur (ρ.t 5) fz):=hg;simp [World.shape?,hg']) l h0 (by omega) (by unfold maxLen at hcm;omega) ?_
  intro j x hx
  have:=hown.cells (g:=g) rfl j (.int .u8 x.toNat) (by simp [Lib.byteCells,hx])
  exact this
 have mixed:=L.mixed
 have t72:=L.t72;have a72:=L.a72;have z72:=L.z72;have v72:=L.v72;have u72:=run_underlying L.t72
 have t70:=L.t70;have a70:=L.a70;have z70:=L.z70;have v70:=L.v70;have u70:=run_underlying L.t70
 have t37:=L.t37;have a37:=L.a37;have z37:=L.z37;have v37:=L.v37;have u37:=run_underlying L.t37
 have t127:=L.t127;have a127:=L.a127;have z127:=L.z127;have v127:=L.v127;have u127:=run_underlying L.t127
 have t3:=L.t3;have a3:=L.a3;have z3:=L.z3;have v3:=L.v3;have u3:=run_underlying L.t3
 have t9:=L.t9;have a9:=L.a9;have z9:=L.z9;have v9:=L.v9;have u9:=run_underlying L.t9
 have t5:=X.t5;have a5:=X.a5;have z5:=X.z5;have v5:=X.v5;have u5:=run_underlying X.t5
 go_enter L.f169,Body.n169_ntmps ρ
 go_wp2
 go_region_o
 all_goals(go_wp2;go_ret;exact⟨rfl,rfl⟩)
end
end Go.Vm
end

section
set_option linter.unusedVariables false
namespace Go.Vm
open Go.RowKit Go.Shelf Go.Proofs
@[reducible] def bldB (T b n:Nat):Blk:=.map [(.nils T,.bsl b 0 n)]
@[reducible] def bufB (e:Nat) (bytes:List UInt8):Blk:=.map [(.emps e,.d false .nilp),(.str bytes,.d false .nilp)]
section
variable {P:Program}{ρ:Ren}{w w':World}{F:Nat→Prop}{σ:Nat→Option Loc}
theorem q0A(l:List UInt8):(q1s l).length=l.length:=by simp [q1s]
theorem q5V{T e:Nat}{bytes:List UInt8}(hH:HeapRel w F (OwnB σ) w.heap.size σ 2 (indexed [bldB T 1 bytes.length,bufB e bytes])) :
  ∃ l0 p v,σ 0=some l0∧l0.k=0∧BAt T e w l0.blk p v (q1s bytes)∧(bytes=[]→v=.slice none 0 0)∧∀ g,v.ownBlock=some g→∃ l,σ 1=some l∧l.blk=g:=by
 have h0:=hH.blk 0 (bldB T 1 bytes.length) rfl
 have h1:=hH.blk 1 (bufB e bytes) rfl
 rcases h0 with⟨hn,_⟩|⟨l0,es,ck,ds,hds,hs0,hm,hk,_,_⟩|⟨_,_,_,_,_,_,_,_,_,he⟩
 ·simp [Blk.n,q7w,z4k] at hn
 ·obtain rfl:[(D.nils T,V.bsl 1 0 bytes.length)]=ds:=by injection hds
  rcases hm with⟨_,_,ht⟩|⟨T',p,v,x,hx,hw,hp,hv⟩|⟨T',cur,fz,bs,hx,_⟩
  ·simp [q02] at ht
  ·simp only[List.cons.injEq,Prod.mk.injEq,D.nils.injEq,and_true] at hx
   obtain⟨rfl,rfl⟩:=hx
   obtain⟨_,hv⟩:=hv
   refine⟨l0,p,v,hs0,hk,?_⟩
   rcases hv with⟨hb,rfl⟩|⟨l,hl,hpos,rfl⟩
   ·obtain rfl:bytes=[]:=List.eq_nil_of_length_eq_zero hb
    exact⟨⟨hp,hw,World.ownsRowF_nil _ _ _ _,by simp [Value.ownBlock]⟩,fun _=>rfl,fun g hg=>by simp [Value.ownBlock] at hg⟩
   ·rcases h1 with⟨_,hn⟩|⟨l1,es1,ck1,ds1,hds1,hs1,hm1,hk1,_,_⟩|⟨_,_,_,_,_,_,_,_,_,he⟩
    ·rw[hl] at hn;cases hn
    ·obtain rfl:[(D.emps e,V.d false .nilp),(.str bytes,.d false .nilp)]=ds1:=by injection hds1
     rw[hl] at hs1
     obtain rfl:=Option.some.inj hs1
     rcases hm1 with⟨_,_,ht⟩|⟨T',p',v',x',hx,_⟩|⟨T',cur,fz,bs,hx,hg,f1,f2,f3,f4,f5⟩
     ·simp [q02] at ht
     ·simp at hx
     ·simp only[List.map_cons,List.map_nil,List.cons.injEq,D.emps.injEq,D.str.injEq,and_true] at hx
      obtain⟨rfl,rfl⟩:=hx
      refine⟨⟨hp,hw,⟨by simp,.inr ⟨l.blk,l.ext,cur,fz,by rw[q0A],Nat.zero_le _,hg,by rw[q0A];omega,by rw[q0A];exact f2,f4,by omega,?_⟩⟩,?_⟩,fun h=>?_,fun g hg=>⟨l,hl,?_⟩⟩
      ·rw[q0A,Nat.mul_one];exact f5
      ·intro h
       simp only[Value.ownBlock,Option.some.injEq] at h
       have:=hH.inj 0 1 l0 l hs0 hl h.symm
       cases this
      ·rw[h] at hpos;simp at hpos
      ·simpa [Value.ownBlock] using hg
    ·simp [Blk.entries] at he
  ·simp at hx
 ·simp [Blk.entries] at he
theorem q4M{T e:Nat}{l0:Loc}{p' v v':Value}{bytes':List UInt8}{H:List (Nat×Blk)}(hH:HeapRel w F (OwnB σ) w.heap.size σ 2 H)(hs0:σ 0=some l0)(hk0:l0.k=0)(hv:∀ g,v.ownBlock=some g→∃ l,σ 1=some l∧l.blk=g)
  (hb:BAt T e w' l0.blk p' v' (q1s bytes')) (hK:Kept w w' l0.blk v v') (hnil:bytes'=[]→v'=.slice none 0 0) :
  ∃ σ',Frame (OwnB σ) w.heap.size w w'∧HeapRel w' F (OwnB σ) w.heap.size σ' 2 (indexed [bldB T 1 bytes'.length,bufB e bytes'])∧∀ i l,i<2→σ i=some l→i∉[1]→σ' i=some l:=by
 have hF:∀ b,F b→b<w'.heap.size:=fun b hf=>Nat.lt_of_lt_of_le (hH.fro b hf) hK.size
 have hframe:Frame (OwnB σ) w.heap.size w w':=⟨hK.os,hK.tape,hK.output,hK.size,fun k hk hX=>hK.blk k hk (fun h=>hX 0 ⟨l0,hs0,h.symm⟩) (fun h=>by
  obtain⟨l,h1,h2⟩:=hv k h.symm
  exact hX 1 ⟨l,h1,h2⟩)⟩
 obtain⟨o1,o2,o3,o4⟩:=hH.own 0 l0 hs0
 have hlt0:=hb.lt
 rcases hb.own.2 with⟨rfl,hz⟩|⟨g,cap,cur,fz,rfl,_,hg,f1,f2,f3,f4,f5⟩
 ·-- no buffer
  have hz':bytes'=[]:=by rw[q0A] at hz;exact List.eq_nil_of_length_eq_zero hz
  subst hz'
  refine⟨fun i=>if i=0 then some l0 else none,hframe,⟨fun i blk hi=>?_,fun i j l l' h1 h2 _=>?_,fun i l h=>?_,hF⟩,fun i l hi hl hm=>?_⟩
  ·have:(i=0∧blk=bldB T 1 0)∨(i=1∧blk=bufB e []):=by
    simp only[indexed,List.zipIdx_cons,List.zipIdx_nil,List.map_cons,List.map_nil,look,List.length_nil] at hi
    split at hi
    ·rename_i h;exact .inl ⟨h.symm,(Option.some.inj hi).symm⟩
    ·split at hi
     ·rename_i h;exact .inr ⟨by omega,(Option.some.inj hi).symm⟩
     ·cases hi
   rcases this with⟨rfl,rfl⟩|⟨rfl,rfl⟩
   ·exact .inr (.inl ⟨l0,#[⟨.slice none 0 0,.slice none 0 0,0⟩],0,_,rfl,rfl,.inr (.inl ⟨T,p',.slice none 0 0,_,rfl,hb.hb,hb.hp,rfl,.inl ⟨rfl,rfl⟩⟩),hk0,trivial,rfl,fun i e p he hp=>by
     match i,he,hp with
     |0,he,hp=>
      simp at he hp
      subst he;subst hp
      exact⟨rfl,.nils T,.bsl0 none 1 0⟩
     |i+1,he,hp=>simp at he⟩)
   ·exact .inl ⟨rfl,rfl⟩
  ·split at h1
   ·split at h2
    ·omega
    ·cases h2
   ·cases h1
  ·split at h
   ·rename_i h0
    subst h0
    obtain rfl:=Option.some.inj h
    exact⟨by omega,o2,o3,hlt0⟩
   ·cases h
  ·have:i=0:=by simp at hm;omega
   subst this
   show some l0=some l
   rw[←hs0];exact hl
 ·have hgne:g≠l0.blk:=fun h=>hb.ne (by simp [Value.ownBlock,h])
  have hpos:0<bytes'.length:=by
   rcases Nat.eq_zero_or_pos bytes'.length with h|h
   ·have:=hnil (List.eq_nil_of_length_eq_zero h)
    simp at this
   ·exact h
  have hgl:g<w'.heap.size:=by
   rcases Nat.lt_or_ge g w'.heap.size with h'|h'
   ·exact h'
   ·simp [Array.getElem?_eq_none h'] at hg
  rw[q0A,Nat.mul_one] at f1 f5
  rw[q0A] at f2
  -- where the buffer is
  have gown:¬ F g∧(w.heap.size≤g∨OwnB σ 1 g):=by
   rcases hK.same with h|⟨g',h1,h2⟩
   ·obtain⟨l,h1,h2⟩:=hv g (by rw[←h];rfl)
    obtain⟨q1,q2,q3,q4⟩:=hH.own 1 l h1
    rw[h2] at q2
    exact⟨q2,.inr ⟨l,h1,h2⟩⟩
   ·simp only[Value.ownBlock,Option.some.injEq] at h1
    subst h1
    exact⟨fun hf=>by have:=hH.fro _ hf;omega,.inl h2⟩
  let l1:Loc:=⟨g,0,cap⟩
  refine⟨fun i=>if i=0 then some l0 else if i=1 then some l1 else none,hframe,⟨fun i blk hi=>?_,fun i j l l' h1 h2 he=>?_,fun i l h=>?_,hF⟩,fun i l hi hl hm=>?_⟩
  ·have:(i=0∧blk=bldB T 1 bytes'.length)∨(i=1∧blk=bufB e bytes'):=by
    simp only[indexed,List.zipIdx_cons,List.zipIdx_nil,List.map_cons,List.map_nil,look] at hi
    split at hi
    ·rename_i h;exact .inl ⟨h.symm,(Option.some.inj hi).symm⟩
    ·split at hi
     ·rename_i h;exact .inr ⟨by omega,(Option.some.inj hi).symm⟩
     ·cases hi
   rcases this with⟨rfl,rfl⟩|⟨rfl,rfl⟩
   ·refine .inr (.inl ⟨l0,#[⟨.slice none 0 0,.slice (some ⟨g,0,none⟩) bytes'.length cap,0⟩],0,_,rfl,rfl,.inr (.inl ⟨T,p',_,_,rfl,hb.hb,hb.hp,rfl,.inr ⟨l1,rfl,hpos,by rw[q0A]⟩⟩),hk0,trivial,rfl,fun i e p he hp=>?_⟩)
    match i,he,hp with
    |0,he,hp=>
     simp at he hp
     subst he;subst hp
     exact⟨rfl,.nils T,by
      have:=RepV.bsl (w:=w') (F:=F) (base:=w.heap.size) (σ:=fun i=>if i=0 then some l0 else if i=1 then some l1 else none) 1 0 bytes'.length cap l1 rfl f2 (by simp [l1])
      simpa [l1] using this⟩
    |i+1,he,hp=>simp at he
   ·refine .inr (.inl ⟨l1,#[⟨.slice (some ⟨0,0,none⟩) 0 0,.pointer none,0⟩,⟨.string ⟨bytes'.toArray⟩,.pointer none,0⟩],0,_,rfl,rfl,.inr (.inr ⟨e,cur,fz,bytes',rfl,hg,f1,f2,by simpa using f4,f3,f5⟩),rfl,trivial,rfl,fun i e' p he hp=>?_⟩)
    match i,he,hp with
    |0,he,hp=>
     simp at he hp
     subst he;subst hp
     exact⟨rfl,.emps _ _ e,.d _ _ _ .nilp⟩
    |1,he,hp=>
     simp at he hp
     subst he;subst hp
     exact⟨rfl,.str ⟨bytes'.toArray⟩,.d _ _ _ .nilp⟩
    |i+2,he,hp=>simp at he
  ·have two:∀ {i:Nat} {l:Loc},(if i=0 then some l0 else if i=1 then some l1 else none)=some l→(i=0∧l=l0)∨(i=1∧l=l1):=by
    intro i l h
    split at h
    ·rename_i h0;exact .inl ⟨h0,(Option.some.inj h).symm⟩
    ·split at h
     ·rename_i h0;exact .inr ⟨h0,(Option.some.inj h).symm⟩
     ·cases h
   rcases two h1 with⟨rfl,rfl⟩|⟨rfl,rfl⟩ <;> rcases two h2 with⟨rfl,rfl⟩|⟨rfl,rfl⟩
   ·rfl
   ·exact absurd he.symm hgne
   ·exact absurd he hgne
   ·rfl
  ·split at h
   ·rename_i h0
    subst h0
    obtain rfl:=Option.some.inj h
    exact⟨by omega,o2,o3,hlt0⟩
   ·split at h
    ·rename_i h0
     subst h0
     obtain rfl:=Option.some.inj h
     exact⟨by omega,gown.1,gown.2,hgl⟩
    ·cases h
  ·have:i=0:=by simp at hm;omega
   subst this
   show some l0=some l
   rw[←hs0];exact hl
theorem q5G{base:Nat}{v:Value}{l0:Loc}(hs0:σ 0=some l0)(h:RepV w F base σ v (.ptr 0 0 0)):v=.pointer (some ⟨l0.blk,0,none⟩):=by
 cases h with
 |ptr _ _ _ l hl=>
  rw[hs0] at hl
  obtain rfl:=Option.some.inj hl
  simp
variable {G:Nat→Option (List D)}
def WbOk(P:Program)(f:FuncId)(T e:TypeId):Prop:=∀ {w:World}{b:Nat}{p v:Value}{bs:List Value},BAt T e w b p v bs→∀(c:Int),bs.length+1≤140737488355328→
  Calls P f #[.pointer (some ⟨b,0,none⟩),.int .u8 c] w fun x w'=>x=.returned .nilIface∧∃ v',BAt T e w' b (.pointer (some ⟨b,0,none⟩)) v' (bs++[.int .u8 c])∧Kept w w' b v v'
def WsOk(P:Program)(f:FuncId)(T e:TypeId):Prop:=∀ {w:World}{b:Nat}{p v:Value}{bs:List Value},BAt T e w b p v bs→∀(s:ByteArray),bs.length+s.size≤140737488355328→
  Calls P f #[.pointer (some ⟨b,0,none⟩),.string s] w fun x w'=>x=.returned (.tuple #[.int .i64 s.size,.nilIface])∧∃ v',BAt T e w' b (.pointer (some ⟨b,0,none⟩)) v' (bs++Lib.strCells s)∧Kept w w' b v v'∧(v=.slice none 0 0→s.size=0→v'=.slice none 0 0)
theorem q8i{f T e:Nat}(hW:WbOk P f T e)(bytes:List UInt8)(c:UInt8)(hlen:bytes.length+1≤140737488355328) :
  q37 P G f [.ptr 0 0 0,.d false (.int .u8 c.toNat)] [bldB T 1 bytes.length,bufB e bytes] (.d false .nilif) [bldB T 1 (bytes++[c]).length,bufB e (bytes++[c])] [1]:=by
 intro w F σ vals hG hH hR
 obtain⟨l0,p,v,hs0,hk0,hB,hn0,hv⟩:=q5V hH
 obtain⟨hsz,hval⟩:=hR
 obtain⟨l⟩:=vals
 match l,hsz,hval with
 |[v0,v1],hsz,hval=>
  have e0:=q5G hs0 (hval 0 v0 (.ptr 0 0 0) rfl rfl)
  have e1:=(hval 1 v1 (.d false (.int .u8 c.toNat)) rfl rfl).int_inv
  subst e0;subst e1
  refine(hW hB c.toNat (by rw[q0A];exact hlen)).mono ?_
  rintro x w' ⟨rfl,v',hB',hK⟩
  have hB'':BAt T e w' l0.blk (.pointer (some ⟨l0.blk,0,none⟩)) v' (q1s (bytes++[c])):=by
   have:q1s (bytes++[c])=q1s bytes++[.int .u8 c.toNat]:=by simp [q1s]
   rw[this];exact hB'
  obtain⟨σ',h1,h2,h3⟩:=q4M hH hs0 hk0 hv hB'' hK (fun h=>by simp at h)
  exact⟨.nilIface,F,σ',rfl,h1,fun _ h=>h,fun _ h=>.inl h,.d _ _ _ .nilif,h2,h3⟩
 |[],hsz,_=>simp at hsz
 |[_],hsz,_=>simp at hsz
 |_ :: _ :: _ :: _,hsz,_=>simp at hsz
theorem q6Y{f T e:Nat}(hW:WsOk P f T e)(bytes s:List UInt8)(hlen:bytes.length+s.length≤140737488355328) :
  q37 P G f [.ptr 0 0 0,.d false (.str s)] [bldB T 1 bytes.length,bufB e bytes] (.tup [.d false (.int .i64 s.length),.d false .nilif]) [bldB T 1 (bytes++s).length,bufB e (bytes++s)] [1]:=by
 intro w F σ vals hG hH hR
 obtain⟨l0,p,v,hs0,hk0,hB,hn0,hv⟩:=q5V hH
 obtain⟨hsz,hval⟩:=hR
 obtain⟨l⟩:=vals
 match l,hsz,hval with
 |[v0,v1],hsz,hval=>
  have e0:=q5G hs0 (hval 0 v0 (.ptr 0 0 0) rfl rfl)
  obtain⟨t,e1,e2⟩:=(hval 1 v1 (.d false (.str s)) rfl rfl).str_inv
  subst e0;subst e1;subst e2
  have hst:t.size=t.data.toList.length:=rfl
  refine(hW hB t (by rw[q0A,hst];exact hlen)).mono ?_
  rintro x w' ⟨rfl,v',hB',hK,hnil⟩
  have hB'':BAt T e w' l0.blk (.pointer (some ⟨l0.blk,0,none⟩)) v' (q1s (bytes++t.data.toList)):=by
   have:q1s (bytes++t.data.toList)=q1s bytes++Lib.strCells t:=by simp [q1s,Lib.strCells]
   rw[this];exact hB'
  obtain⟨σ',h1,h2,h3⟩:=q4M hH hs0 hk0 hv hB'' hK (fun h=>by
   rw[List.append_eq_nil_iff] at h
   exact hnil (hn0 h.1) (by rw[hst,h.2];rfl))
  refine⟨_,F,σ',rfl,h1,fun _ h=>h,fun _ h=>.inl h,.tup _ _ rfl (fun j u x hu hx=>?_),h2,h3⟩
  match j,hu,hx with
  |0,hu,hx=>simp at hu hx;subst hu;subst hx;rw[hst];exact .d _ _ _ (.int _ _)
  |1,hu,hx=>simp at hu hx;subst hu;subst hx;exact .d _ _ _ .nilif
  |j+2,hu,hx=>simp at hu
 |[],hsz,_=>simp at hsz
 |[_],hsz,_=>simp at hsz
 |_ :: _ :: _ :: _,hsz,_=>simp at hsz
theorem z9P(L:Lays.n170 P ρ)(bytes:List UInt8) :
  q37 P G (ρ.f 170) [.ptr 0 0 0] [bldB (ρ.t 72) 1 bytes.length,bufB (ρ.t 5) bytes] (.d false (.int .i64 bytes.length)) [bldB (ρ.t 72) 1 bytes.length,bufB (ρ.t 5) bytes] []:=by
 intro w F σ vals hG hH hR
 obtain⟨l0,p,v,hs0,hk0,hB,hn0,hv⟩:=q5V hH
 obtain⟨hsz,hval⟩:=hR
 obtain⟨l⟩:=vals
 match l,hsz,hval with
 |[v0],hsz,hval=>
  have e0:=q5G hs0 (hval 0 v0 (.ptr 0 0 0) rfl rfl)
  subst e0
  refine(Any.Builder_Len_f L 0 l0.blk (q1s bytes) w hB.isB).mono ?_
  rintro e w' ⟨rfl,rfl⟩
  exact⟨_,F,σ,rfl,.refl _ _ _,fun _ h=>h,fun _ h=>.inl h,by rw[q0A];exact .d _ _ _ (.int _ _),hH,fun _ _ _ h _=>h⟩
 |[],hsz,_=>simp at hsz
 |_ :: _ :: _,hsz,_=>simp at hsz
theorem z2B(L:Lays.n169 P ρ)(X:Builder.Extra P ρ)(bytes:List UInt8) :
  q37 P G (ρ.f 169) [.ptr 0 0 0] [bldB (ρ.t 72) 1 bytes.length,bufB (ρ.t 5) bytes] (.d false (.str bytes)) [bldB (ρ.t 72) 1 bytes.length,bufB (ρ.t 5) bytes] [1]:=by
 intro w F σ vals hG hH hR
 obtain⟨l0,p,v,hs0,hk0,hB,hn0,hv⟩:=q5V hH
 obtain⟨hsz,hval⟩:=hR
 obtain⟨l⟩:=vals
 match l,hsz,hval with
 |[v0],hsz,hval=>
  have e0:=q5G hs0 (hval 0 v0 (.ptr 0 0 0) rfl rfl)
  subst e0
  by_cases h0:bytes=[]
  ·subst h0
   have:=hn0 rfl
   subst this
   refine(q7i L X hB).mono ?_
   rintro e w' ⟨rfl,rfl⟩
   have hB':BAt (ρ.t 72) (ρ.t 5) w.drew l0.blk p (.slice none 0 0) (q1s []):=⟨hB.hp,hB.hb,hB.own,hB.ne⟩
   have hK:Kept w w.drew l0.blk (.slice none 0 0) (.slice none 0 0):=⟨rfl,rfl,rfl,Nat.le_refl _,fun _ _ _ _=>rfl,.inl rfl⟩
   obtain⟨σ',h1,h2,h3⟩:=q4M hH hs0 hk0 hv hB' hK (fun _=>rfl)
   exact⟨_,F,σ',rfl,h1,fun _ h=>h,fun _ h=>.inl h,.d _ _ _ (.str ⟨#[]⟩),h2,h3⟩
  ·obtain⟨g,cap,rfl⟩:∃ g cap,v=.slice (some ⟨g,0,none⟩) bytes.length cap:=by
    rcases hB.own.2 with⟨_,hz⟩|⟨g,cap,cur,fz,hv,_⟩
    ·rw[q0A] at hz;exact absurd (List.eq_nil_of_length_eq_zero hz) h0
    ·rw[q0A] at hv;exact⟨g,cap,hv⟩
   refine(q67 L X h0 hB).mono ?_
   rintro e w' ⟨rfl,rfl⟩
   have hlen:(q1s bytes).length=bytes.length:=q0A _
   have hA:Lib.BuilderAtF (ρ.t 72) (ρ.t 5) 0 l0.blk p (q1s bytes) w.drew:=⟨Nat.zero_le _,_,hB.hb,hB.own,hB.ne⟩
   have c1:w.drew.cell? ⟨l0.blk,1,none⟩=some (.slice (some ⟨g,0,none⟩) (q1s bytes).length cap):=by
    have:w.drew.heap[l0.blk]? = some (.cells #[p,.slice (some ⟨g,0,none⟩) bytes.length cap] (ρ.t 72) (0,0)):=hB.hb
    rw[Lib.cell_of_heap this,hlen];rfl
   have hne:g≠l0.blk:=fun h=>hB.ne (by simp [Value.ownBlock,h])
   have hF':=hA.froze (g:=g) (cap:=cap) c1
   rw[hlen] at hF'
   have hbk:(w.drew.freeze ⟨g,0,none⟩ bytes.length).heap[l0.blk]? = some (.cells #[p,.slice (some ⟨g,0,none⟩) bytes.length cap] (ρ.t 72) (0,0)):=by
    rw[q4w _ _ _ _ (fun h=>hne h.symm)];exact hB.hb
   have hB':BAt (ρ.t 72) (ρ.t 5) (w.drew.freeze ⟨g,0,none⟩ bytes.length) l0.blk p (.slice (some ⟨g,0,none⟩) bytes.length cap) (q1s bytes):=by
    obtain⟨_,v2,hb2,hown2,hne2⟩:=hF'
    rw[hbk] at hb2
    have:v2=.slice (some ⟨g,0,none⟩) bytes.length cap:=by
     injection hb2 with e1
     injection e1 with e2
     have e2':=congrArg Array.toList e2
     simp at e2'
     exact e2'.symm
    subst this
    exact⟨hB.hp,hbk,hown2,hne2⟩
   have hsz':(w.drew.freeze ⟨g,0,none⟩ bytes.length).heap.size=w.heap.size:=by
    unfold World.freeze
    split
    ·rfl
    ·show(w.heap.modify _ _).size=_
     simp only[Array.size_modify]
   have hos:(w.drew.freeze ⟨g,0,none⟩ bytes.length).os=w.os∧(w.drew.freeze ⟨g,0,none⟩ bytes.length).tape=w.tape∧(w.drew.freeze ⟨g,0,none⟩ bytes.length).output=w.output:=by
    unfold World.freeze
    split <;> exact⟨rfl,rfl,rfl⟩
   have hK:Kept w (w.drew.freeze ⟨g,0,none⟩ bytes.length) l0.blk (.slice (some ⟨g,0,none⟩) bytes.length cap) (.slice (some ⟨g,0,none⟩) bytes.length cap):=
    ⟨hos.1,hos.2.1,hos.2.2,by rw[hsz'];exact Nat.le_refl _,fun k _ _ hk=>by rw[q4w _ _ _ _ (fun h=>hk (by simp [Value.ownBlock,h]))];rfl,.inl rfl⟩
   obtain⟨σ',h1,h2,h3⟩:=q4M hH hs0 hk0 hv hB' hK (fun h=>absurd h h0)
   exact⟨_,F,σ',rfl,h1,fun _ h=>h,fun _ h=>.inl h,.d _ _ _ (.str ⟨bytes.toArray⟩),h2,h3⟩
 |[],hsz,_=>simp at hsz
 |_ :: _ :: _,hsz,_=>simp at hsz
end
end Go.Vm
end

section
namespace Go.Proofs
open Go.Shelf
def Tryz.lays170_ren:Go.Shelf.Ren:=⟨fun|170=>51|n=>n,fun|70=>76|3=>3|0=>0|72=>78|37=>40|5=>5|n=>n,fun|n=>n⟩
theorem Tryz.lays170:Go.Proofs.Lays.n170 Tryz.prog Tryz.lays170_ren:={
 mixed:=by kernel_rfl
 f170:=Tryz.func51.trans (congrArg some (by kernel_rfl))
 t0:=Tryz.underlying0
 a0:=Tryz.isAgg0
 z0:=Tryz.sizeOf0
 v0:=Tryz.zeroValue0
 t3:=Tryz.underlying3
 a3:=Tryz.isAgg3
 z3:=Tryz.sizeOf3
 v3:=Tryz.zeroValue3
 t37:=Tryz.underlying40
 a37:=Tryz.isAgg40
 z37:=Tryz.sizeOf40
 v37:=Tryz.zeroValue40
 t70:=Tryz.underlying76
 a70:=Tryz.isAgg76
 z70:=Tryz.sizeOf76
 v70:=Tryz.zeroValue76
 t72:=Tryz.underlying78
 a72:=Tryz.isAgg78
 z72:=Tryz.sizeOf78
 v72:=Tryz.zeroValue78 }
def Tryz.lays169_ren:Go.Shelf.Ren:=⟨fun|169=>52|n=>n,fun|70=>76|9=>9|0=>0|72=>78|37=>40|127=>131|3=>3|5=>5|n=>n,fun|n=>n⟩
theorem Tryz.lays169:Go.Proofs.Lays.n169 Tryz.prog Tryz.lays169_ren:={
 mixed:=by kernel_rfl
 f169:=Tryz.func52.trans (congrArg some (by kernel_rfl))
 t0:=Tryz.underlying0
 a0:=Tryz.isAgg0
 z0:=Tryz.sizeOf0
 v0:=Tryz.zeroValue0
 t3:=Tryz.underlying3
 a3:=Tryz.isAgg3
 z3:=Tryz.sizeOf3
 v3:=Tryz.zeroValue3
 t9:=Tryz.underlying9
 a9:=Tryz.isAgg9
 z9:=Tryz.sizeOf9
 v9:=Tryz.zeroValue9
 t37:=Tryz.underlying40
 a37:=Tryz.isAgg40
 z37:=Tryz.sizeOf40
 v37:=Tryz.zeroValue40
 t70:=Tryz.underlying76
 a70:=Tryz.isAgg76
 z70:=Tryz.sizeOf76
 v70:=Tryz.zeroValue76
 t72:=Tryz.underlying78
 a72:=Tryz.isAgg78
 z72:=Tryz.sizeOf78
 v72:=Tryz.zeroValue78
 t127:=Tryz.underlying131
 a127:=Tryz.isAgg131
 z127:=Tryz.sizeOf131
 v127:=Tryz.zeroValue131 }
theorem Tryz.Builder_Extra_169:Builder.Extra Tryz.prog Tryz.lays169_ren:={
 sizeBuilder:=by kernel_rfl
 liesBuilder:=by kernel_rfl
 t5:=Tryz.underlying5
 a5:=Tryz.isAgg5
 z5:=Tryz.sizeOf5
 v5:=Tryz.zeroValue5
 infoByte:=by kernel_rfl
 cellsByte:=by kernel_rfl
 sizeByte:=by kernel_rfl
 neB5:=by decide }
def Tryz.lays137_ren:Go.Shelf.Ren:=⟨fun|137=>123|217=>137|266=>149|n=>n,fun|9=>9|5=>5|3=>3|n=>n,fun|n=>n⟩
theorem Tryz.lays137:Go.Proofs.Lays.n137 Tryz.prog Tryz.lays137_ren:={
 mixed:=by kernel_rfl
 f137:=Tryz.func123.trans (congrArg some (by kernel_rfl))
 f217:=Tryz.func137.trans (congrArg some (by kernel_rfl))
 f266:=Tryz.func149.trans (congrArg some (by kernel_rfl))
 t3:=Tryz.underlying3
 a3:=Tryz.isAgg3
 z3:=Tryz.sizeOf3
 v3:=Tryz.zeroValue3
 t5:=Tryz.underlying5
 a5:=Tryz.isAgg5
 z5:=Tryz.sizeOf5
 v5:=Tryz.zeroValue5
 t9:=Tryz.underlying9
 a9:=Tryz.isAgg9
 z9:=Tryz.sizeOf9
 v9:=Tryz.zeroValue9 }
open Go.RowKit in
theorem Tryz.strings_IndexByte(s:ByteArray)(c:Int)(w:World) :
  Calls Tryz.prog 123 #[.string s,.int .u8 c] w fun e w'=>e=.returned (.int .i64 (Lib.indexByte s.data.toList c.toNat.toUInt8))∧w'=w:=Any.strings_IndexByte Tryz.lays137 s c w
def Tryz.lays172_ren:Go.Shelf.Ren:=⟨fun|172=>111|244=>124|245=>125|247=>138|279=>139|280=>140|281=>141|282=>142|287=>150|316=>151|171=>49|205=>152|321=>154|322=>155|243=>89|246=>107|283=>119|284=>120|285=>121|286=>122|129=>133|317=>132|318=>134|319=>135|320=>136|337=>147|338=>148|n=>n,fun|9=>9|3=>3|75=>80|76=>81|4=>4|5=>5|167=>171|37=>40|0=>0|85=>172|2=>2|168=>174|53=>105|175=>183|46=>109|210=>186|127=>131|145=>195|143=>193|21=>21|171=>156|173=>159|212=>167|51=>107|20=>20|213=>168|232=>190|233=>191|80=>84|n=>n,fun|15=>4|16=>5|17=>0|18=>6|19=>7|n=>n⟩
theorem Tryz.lays172:Go.Proofs.Lays.n172 Tryz.prog Tryz.lays172_ren:={
 mixed:=by kernel_rfl
 f129:=Tryz.func133.trans (congrArg some (by kernel_rfl))
 f171:=Tryz.func49.trans (congrArg some (by kernel_rfl))
 f172:=Tryz.func111.trans (congrArg some (by kernel_rfl))
 f205:=Tryz.func152.trans (congrArg some (by kernel_rfl))
 f243:=Tryz.func89.trans (congrArg some (by kernel_rfl))
 f244:=Tryz.func124.trans (congrArg some (by kernel_rfl))
 f245:=Tryz.func125.trans (congrArg some (by kernel_rfl))
 f246:=Tryz.func107.trans (congrArg some (by kernel_rfl))
 f247:=Tryz.func138.trans (congrArg some (by kernel_rfl))
 f279:=Tryz.func139.trans (congrArg some (by kernel_rfl))
 f280:=Tryz.func140.trans (congrArg some (by kernel_rfl))
 f281:=Tryz.func141.trans (congrArg some (by kernel_rfl))
 f282:=Tryz.func142.trans (congrArg some (by kernel_rfl))
 f283:=Tryz.func119.trans (congrArg some (by kernel_rfl))
 f284:=Tryz.func120.trans (congrArg some (by kernel_rfl))
 f285:=Tryz.func121.trans (congrArg some (by kernel_rfl))
 f286:=Tryz.func122.trans (congrArg some (by kernel_rfl))
 f287:=Tryz.func150.trans (congrArg some (by kernel_rfl))
 f316:=Tryz.func151.trans (congrArg some (by kernel_rfl))
 f317:=Tryz.func132.trans (congrArg some (by kernel_rfl))
 f318:=Tryz.func134.trans (congrArg some (by kernel_rfl))
 f319:=Tryz.func135.trans (congrArg some (by kernel_rfl))
 f320:=Tryz.func136.trans (congrArg some (by kernel_rfl))
 f321:=Tryz.func154.trans (congrArg some (by kernel_rfl))
 f322:=Tryz.func155.trans (congrArg some (by kernel_rfl))
 f337:=Tryz.func147.trans (congrArg some (by kernel_rfl))
 f338:=Tryz.func148.trans (congrArg some (by kernel_rfl))
 t0:=Tryz.underlying0
 a0:=Tryz.isAgg0
 z0:=Tryz.sizeOf0
 v0:=Tryz.zeroValue0
 t2:=Tryz.underlying2
 a2:=Tryz.isAgg2
 z2:=Tryz.sizeOf2
 v2:=Tryz.zeroValue2
 t3:=Tryz.underlying3
 a3:=Tryz.isAgg3
 z3:=Tryz.sizeOf3
 v3:=Tryz.zeroValue3
 t4:=Tryz.underlying4
 a4:=Tryz.isAgg4
 z4:=Tryz.sizeOf4
 v4:=Tryz.zeroValue4
 t5:=Tryz.underlying5
 a5:=Tryz.isAgg5
 z5:=Tryz.sizeOf5
 v5:=Tryz.zeroValue5
 t9:=Tryz.underlying9
 a9:=Tryz.isAgg9
 z9:=Tryz.sizeOf9
 v9:=Tryz.zeroValue9
 t20:=Tryz.underlying20
 a20:=Tryz.isAgg20
 z20:=Tryz.sizeOf20
 v20:=Tryz.zeroValue20
 t21:=Tryz.underlying21
 a21:=Tryz.isAgg21
 z21:=Tryz.sizeOf21
 v21:=Tryz.zeroValue21
 t37:=Tryz.underlying40
 a37:=Tryz.isAgg40
 z37:=Tryz.sizeOf40
 v37:=Tryz.zeroValue40
 t46:=Tryz.underlying109
 a46:=Tryz.isAgg109
 z46:=Tryz.sizeOf109
 v46:=Tryz.zeroValue109
 t51:=Tryz.underlying107
 a51:=Tryz.isAgg107
 z51:=Tryz.sizeOf107
 v51:=Tryz.zeroValue107
 t53:=Tryz.underlying105
 a53:=Tryz.isAgg105
 z53:=Tryz.sizeOf105
 v53:=Tryz.zeroValue105
 t75:=Tryz.underlying80
 a75:=Tryz.isAgg80
 z75:=Tryz.sizeOf80
 v75:=Tryz.zeroValue80
 t76:=Tryz.underlying81
 a76:=Tryz.isAgg81
 z76:=Tryz.sizeOf81
 v76:=Tryz.zeroValue81
 t85:=Tryz.underlying172
 a85:=Tryz.isAgg172
 z85:=Tryz.sizeOf172
 v85:=Tryz.zeroValue172
 t127:=Tryz.underlying131
 a127:=Tryz.isAgg131
 z127:=Tryz.sizeOf131
 v127:=Tryz.zeroValue131
 t143:=Tryz.underlying193
 a143:=Tryz.isAgg193
 z143:=Tryz.sizeOf193
 v143:=Tryz.zeroValue193
 t145:=Tryz.underlying195
 a145:=Tryz.isAgg195
 z145:=Tryz.sizeOf195
 v145:=Tryz.zeroValue195
 t167:=Tryz.underlying171
 a167:=Tryz.isAgg171
 z167:=Tryz.sizeOf171
 v167:=Tryz.zeroValue171
 t168:=Tryz.underlying174
 a168:=Tryz.isAgg174
 z168:=Tryz.sizeOf174
 v168:=Tryz.zeroValue174
 t171:=Tryz.underlying156
 a171:=Tryz.isAgg156
 z171:=Tryz.sizeOf156
 v171:=Tryz.zeroValue156
 t173:=Tryz.underlying159
 a173:=Tryz.isAgg159
 z173:=Tryz.sizeOf159
 v173:=Tryz.zeroValue159
 t175:=Tryz.underlying183
 a175:=Tryz.isAgg183
 z175:=Tryz.sizeOf183
 v175:=Tryz.zeroValue183
 t210:=Tryz.underlying186
 a210:=Tryz.isAgg186
 z210:=Tryz.sizeOf186
 v210:=Tryz.zeroValue186
 t212:=Tryz.underlying167
 a212:=Tryz.isAgg167
 z212:=Tryz.sizeOf167
 v212:=Tryz.zeroValue167
 t213:=Tryz.underlying168
 a213:=Tryz.isAgg168
 z213:=Tryz.sizeOf168
 t232:=Tryz.underlying190
 a232:=Tryz.isAgg190
 z232:=Tryz.sizeOf190
 v232:=Tryz.zeroValue190
 t233:=Tryz.underlying191
 a233:=Tryz.isAgg191
 z233:=Tryz.sizeOf191
 v233:=Tryz.zeroValue191
 g15:=by kernel_rfl
 g16:=by kernel_rfl
 g17:=by kernel_rfl
 g18:=by kernel_rfl
 g19:=by kernel_rfl }
open Go.RowKit in
theorem Tryz.strconv_Atoi(s:ByteArray)(n:Int)(hl:s.size≤18)(h:Lib.atoi s.data.toList=some n)(w:World) :
  Calls Tryz.prog 111 #[.string s] w fun e w'=>e=.returned (.tuple #[.int .i64 n,.nilIface])∧∃ t,w'=Lib.bytesWorld w 5 t:=Any.strconv_Atoi Tryz.lays172 s n hl h w
def Tryz.laysM171_ren:Go.Shelf.Ren:=⟨fun|171=>49|243=>89|246=>107|283=>119|284=>120|285=>121|286=>122|129=>133|317=>132|318=>134|319=>135|320=>136|337=>147|338=>148|n=>n,fun|3=>3|9=>9|2=>2|4=>4|171=>156|0=>0|53=>105|37=>40|5=>5|173=>159|212=>167|51=>107|20=>20|213=>168|46=>109|232=>190|233=>191|n=>n,fun|17=>0|18=>6|19=>7|n=>n⟩
theorem Tryz.laysM171:Go.Proofs.LaysM.n171 Tryz.prog Tryz.laysM171_ren:={
 mixed:=by kernel_rfl
 f129:=Tryz.func133.trans (congrArg some (by kernel_rfl))
 f171:=Tryz.func49.trans (congrArg some (by kernel_rfl))
 f243:=Tryz.func89.trans (congrArg some (by kernel_rfl))
 f246:=Tryz.func107.trans (congrArg some (by kernel_rfl))
 f283:=Tryz.func119.trans (congrArg some (by kernel_rfl))
 f284:=Tryz.func120.trans (congrArg some (by kernel_rfl))
 f285:=Tryz.func121.trans (congrArg some (by kernel_rfl))
 f286:=Tryz.func122.trans (congrArg some (by kernel_rfl))
 f317:=Tryz.func132.trans (congrArg some (by kernel_rfl))
 f318:=Tryz.func134.trans (congrArg some (by kernel_rfl))
 f319:=Tryz.func135.trans (congrArg some (by kernel_rfl))
 f320:=Tryz.func136.trans (congrArg some (by kernel_rfl))
 f337:=Tryz.func147.trans (congrArg some (by kernel_rfl))
 f338:=Tryz.func148.trans (congrArg some (by kernel_rfl))
 t0:=Tryz.underlying0
 a0:=Tryz.isAgg0
 z0:=Tryz.sizeOf0
 v0:=Tryz.zeroValue0
 t2:=Tryz.underlying2
 a2:=Tryz.isAgg2
 z2:=Tryz.sizeOf2
 v2:=Tryz.zeroValue2
 t3:=Tryz.underlying3
 a3:=Tryz.isAgg3
 z3:=Tryz.sizeOf3
 v3:=Tryz.zeroValue3
 t4:=Tryz.underlying4
 a4:=Tryz.isAgg4
 z4:=Tryz.sizeOf4
 v4:=Tryz.zeroValue4
 t5:=Tryz.underlying5
 a5:=Tryz.isAgg5
 z5:=Tryz.sizeOf5
 v5:=Tryz.zeroValue5
 t9:=Tryz.underlying9
 a9:=Tryz.isAgg9
 z9:=Tryz.sizeOf9
 v9:=Tryz.zeroValue9
 t20:=Tryz.underlying20
 a20:=Tryz.isAgg20
 z20:=Tryz.sizeOf20
 v20:=Tryz.zeroValue20
 t37:=Tryz.underlying40
 a37:=Tryz.isAgg40
 z37:=Tryz.sizeOf40
 v37:=Tryz.zeroValue40
 t46:=Tryz.underlying109
 a46:=Tryz.isAgg109
 z46:=Tryz.sizeOf109
 v46:=Tryz.zeroValue109
 t51:=Tryz.underlying107
 a51:=Tryz.isAgg107
 z51:=Tryz.sizeOf107
 v51:=Tryz.zeroValue107
 t53:=Tryz.underlying105
 a53:=Tryz.isAgg105
 z53:=Tryz.sizeOf105
 v53:=Tryz.zeroValue105
 t171:=Tryz.underlying156
 a171:=Tryz.isAgg156
 z171:=Tryz.sizeOf156
 v171:=Tryz.zeroValue156
 t173:=Tryz.underlying159
 a173:=Tryz.isAgg159
 z173:=Tryz.sizeOf159
 v173:=Tryz.zeroValue159
 t212:=Tryz.underlying167
 a212:=Tryz.isAgg167
 z212:=Tryz.sizeOf167
 v212:=Tryz.zeroValue167
 t213:=Tryz.underlying168
 a213:=Tryz.isAgg168
 z213:=Tryz.sizeOf168
 t232:=Tryz.underlying190
 a232:=Tryz.isAgg190
 z232:=Tryz.sizeOf190
 v232:=Tryz.zeroValue190
 t233:=Tryz.underlying191
 a233:=Tryz.isAgg191
 z233:=Tryz.sizeOf191
 v233:=Tryz.zeroValue191
 g17:=by kernel_rfl
 g18:=by kernel_rfl
 g19:=by kernel_rfl
 i0:=by kernel_rfl
 i2:=by kernel_rfl
 i3:=by kernel_rfl
 i4:=by kernel_rfl
 i5:=by kernel_rfl
 i9:=by kernel_rfl
 i20:=by kernel_rfl
 i37:=by kernel_rfl
 i46:=by kernel_rfl
 i51:=by kernel_rfl
 i53:=by kernel_rfl
 i171:=by kernel_rfl
 i173:=by kernel_rfl
 i212:=by kernel_rfl
 i232:=by kernel_rfl
 i233:=by kernel_rfl
 m17:=by kernel_rfl
 m18:=by kernel_rfl
 m19:=by kernel_rfl }
open Go.RowKit Go.Sort Go.Lib in
theorem Tryz.strconv_Itoa(n:Int)(h0 : -9223372036854775808≤n)(h1:n≤9223372036854775807)(w:World)(htab:Lib.TabIs Tryz.prog w "internal/strconv.uint64pow10" .u64 Lib.pow10Tab) :
  Calls Tryz.prog 49 #[.int .i64 n] w fun e w'=>e=.returned (.string ⟨(Lib.itoa n).toArray⟩)∧∃ k os,w'=grow (w.drewN k) os:=Any.strconv_Itoa Tryz.laysM171 n h0 h1 w htab
def Tryz.lays138_ren:Go.Shelf.Ren:=⟨fun|138=>115|195=>127|218=>128|143=>117|219=>130|217=>137|225=>144|224=>145|267=>146|266=>149|314=>153|n=>n,fun|9=>9|3=>3|4=>4|5=>5|0=>0|46=>109|146=>188|51=>107|n=>n,fun|1=>1|n=>n⟩
theorem Tryz.lays138:Go.Proofs.Lays.n138 Tryz.prog Tryz.lays138_ren:={
 mixed:=by kernel_rfl
 f138:=Tryz.func115.trans (congrArg some (by kernel_rfl))
 f143:=Tryz.func117.trans (congrArg some (by kernel_rfl))
 f195:=Tryz.func127.trans (congrArg some (by kernel_rfl))
 f217:=Tryz.func137.trans (congrArg some (by kernel_rfl))
 f218:=Tryz.func128.trans (congrArg some (by kernel_rfl))
 f219:=Tryz.func130.trans (congrArg some (by kernel_rfl))
 f224:=Tryz.func145.trans (congrArg some (by kernel_rfl))
 f225:=Tryz.func144.trans (congrArg some (by kernel_rfl))
 f266:=Tryz.func149.trans (congrArg some (by kernel_rfl))
 f267:=Tryz.func146.trans (congrArg some (by kernel_rfl))
 f314:=Tryz.func153.trans (congrArg some (by kernel_rfl))
 t0:=Tryz.underlying0
 a0:=Tryz.isAgg0
 z0:=Tryz.sizeOf0
 v0:=Tryz.zeroValue0
 t3:=Tryz.underlying3
 a3:=Tryz.isAgg3
 z3:=Tryz.sizeOf3
 v3:=Tryz.zeroValue3
 t4:=Tryz.underlying4
 a4:=Tryz.isAgg4
 z4:=Tryz.sizeOf4
 v4:=Tryz.zeroValue4
 t5:=Tryz.underlying5
 a5:=Tryz.isAgg5
 z5:=Tryz.sizeOf5
 v5:=Tryz.zeroValue5
 t9:=Tryz.underlying9
 a9:=Tryz.isAgg9
 z9:=Tryz.sizeOf9
 v9:=Tryz.zeroValue9
 t46:=Tryz.underlying109
 a46:=Tryz.isAgg109
 z46:=Tryz.sizeOf109
 v46:=Tryz.zeroValue109
 t51:=Tryz.underlying107
 a51:=Tryz.isAgg107
 z51:=Tryz.sizeOf107
 v51:=Tryz.zeroValue107
 t146:=Tryz.underlying188
 a146:=Tryz.isAgg188
 z146:=Tryz.sizeOf188
 v146:=Tryz.zeroValue188
 g1:=by kernel_rfl }
open Go.RowKit Go.Lib in
theorem Tryz.strings_Count_one(s:ByteArray)(c:UInt8)(w:World) :
  Calls Tryz.prog 115 #[.string s,.string ⟨#[c]⟩] w fun e w'=>e=.returned (.int .i64 (Lib.countByte s.data.toList c))∧w'=w:=Any.strings_Count_one Tryz.lays138 s c w
end Go.Proofs
end

section
set_option linter.unusedVariables false
namespace Go.Vm
open Go.RowKit Go.Shelf Go.Proofs
set_option maxHeartbeats 2000000 in
set_option maxRecDepth 100000 in
theorem z8K(b:Nat)(w:World)(h0:w.cell? ⟨b,0,none⟩=some (.pointer (some ⟨b,0,none⟩))) :
  Calls Tryz.prog 87 #[.pointer (some ⟨b,0,none⟩)] w fun e w'=>e=.returned (.tuple #[])∧w'=w:=by
 obtain⟨j,hj,_⟩:=Option.map_eq_some_iff.1 Tryz.Builder_Extra_169.sizeBuilder
 have mixed:Tryz.prog.follows .mixedOrders=true:=by kernel_rfl
 have t72:=Tryz.underlying78;have a72:=Tryz.isAgg78;have z72:=Tryz.sizeOf78;have v72:=Tryz.zeroValue78;have u72:=Tryz.runUnderlying78
 have t70:=Tryz.underlying76;have a70:=Tryz.isAgg76;have z70:=Tryz.sizeOf76;have v70:=Tryz.zeroValue76;have u70:=Tryz.runUnderlying76
 have t9:=Tryz.underlying9;have a9:=Tryz.isAgg9;have z9:=Tryz.sizeOf9;have v9:=Tryz.zeroValue9;have u9:=Tryz.runUnderlying9
 have t4:=Tryz.underlying4;have a4:=Tryz.isAgg4;have z4:=Tryz.sizeOf4;have v4:=Tryz.zeroValue4;have u4:=Tryz.runUnderlying4
 have t164:=Tryz.underlying145;have a164:=Tryz.isAgg145;have z164:=Tryz.sizeOf145;have v164:=Tryz.zeroValue145;have u164:=Tryz.runUnderlying145
 go_enter Tryz.func87,Tryz.ntmps87
 go_wp2
 rw[Lib.run_neq_ptr_same w _ Tryz.underlying76 hj]
 go_wp2
 go_end0
 exact⟨rfl,rfl⟩
set_option maxHeartbeats 2000000 in
set_option maxRecDepth 100000 in
theorem z6w(b:Nat)(w:World)(h0:w.cell? ⟨b,0,none⟩=some (.pointer none))(hsh:w.shape? b=some (78,2))(hfz:w.frozen? ⟨b,0,none⟩=false) :
  Calls Tryz.prog 87 #[.pointer (some ⟨b,0,none⟩)] w fun e w'=>e=.returned (.tuple #[])∧w'=w.setCell ⟨b,0,none⟩ (.pointer (some ⟨b,0,none⟩)):=by
 obtain⟨j,hj,hjs⟩:=Option.map_eq_some_iff.1 Tryz.Builder_Extra_169.sizeBuilder
 have mixed:Tryz.prog.follows .mixedOrders=true:=by kernel_rfl
 have t72:=Tryz.underlying78;have a72:=Tryz.isAgg78;have z72:=Tryz.sizeOf78;have v72:=Tryz.zeroValue78;have u72:=Tryz.runUnderlying78
 have t70:=Tryz.underlying76;have a70:=Tryz.isAgg76;have z70:=Tryz.sizeOf76;have v70:=Tryz.zeroValue76;have u70:=Tryz.runUnderlying76
 have t9:=Tryz.underlying9;have a9:=Tryz.isAgg9;have z9:=Tryz.sizeOf9;have v9:=Tryz.zeroValue9;have u9:=Tryz.runUnderlying9
 have t4:=Tryz.underlying4;have a4:=Tryz.isAgg4;have z4:=Tryz.sizeOf4;have v4:=Tryz.zeroValue4;have u4:=Tryz.runUnderlying4
 have t164:=Tryz.underlying145;have a164:=Tryz.isAgg145;have z164:=Tryz.sizeOf145;have v164:=Tryz.zeroValue145;have u164:=Tryz.runUnderlying145
 go_enter Tryz.func87,Tryz.ntmps87
 go_wp2
 rw[Lib.run_to_unsafe w ⟨b,0,none⟩ Tryz.underlying76 Tryz.underlying145 hj (by rw[hjs];decide) hsh (Nat.zero_lt_succ 1)]
 simp only[Result.andThen]
 rw[Oper.upon_value]
 go_wp2
 rw[run_callFunc_extern Tryz.func105 (by kernel_rfl) (by kernel_rfl) (by kernel_rfl) (e:=Extern.AbiNoEscape.same) (by kernel_rfl)]
 rw[Lib.run_noEscape]
 simp only[Result.andThen]
 rw[Oper.upon_value]
 go_wp2
 rw[Lib.run_from_unsafe w ⟨b,0,none⟩ Tryz.underlying145 Tryz.underlying76 hj hsh Tryz.Builder_Extra_169.liesBuilder]
 simp only[Result.andThen]
 rw[Oper.upon_value]
 go_wp2
 go_end0
 exact⟨rfl,rfl⟩
theorem q5g{w:World}{b:Nat}{p v:Value}{bs:List Value}(h:BAt 78 5 w b p v bs) :
  Calls Tryz.prog 87 #[.pointer (some ⟨b,0,none⟩)] w fun e w'=>e=.returned (.tuple #[])∧BAt 78 5 w' b (.pointer (some ⟨b,0,none⟩)) v bs∧w'.os=w.os∧w'.tape=w.tape∧w'.output=w.output∧SizeEq w' w∧∀ k,k≠b→w'.heap[k]? = w.heap[k]?:=by
 rcases h.hp with rfl|rfl
 ·have hA:Lib.BuilderAtF 78 5 0 b (.pointer none) bs w:=⟨Nat.zero_le _,v,h.hb,h.own,h.ne⟩
  refine(z6w b w hA.cell0 hA.shape hA.frozen0).mono ?_
  rintro e w' ⟨rfl,rfl⟩
  refine⟨rfl,⟨.inr rfl,?_,?_,h.ne⟩,rfl,rfl,rfl,by simp [SizeEq],fun k hk=>Below.heap_setCell _ _ _ _ hk⟩
  ·have:=h.hb
   simp [World.setCell,Array.getElem?_modify,this]
  ·exact h.own.kept (row:=some b) ⟨rfl,rfl,rfl,by simp [World.setCell],fun k _ hk=>Below.heap_setCell _ _ _ _ (fun e=>hk (by simp [e]))⟩ (Or.inr h.ne)
 ·have hA:Lib.BuilderAtF 78 5 0 b (.pointer (some ⟨b,0,none⟩)) bs w:=⟨Nat.zero_le _,v,h.hb,h.own,h.ne⟩
  refine(z8K b w hA.cell0).mono ?_
  rintro e w' ⟨rfl,rfl⟩
  exact⟨rfl,h,rfl,rfl,rfl,rfl,fun _ _=>rfl⟩
set_option maxHeartbeats 2000000 in
set_option maxRecDepth 100000 in
theorem q8J{w:World}{b:Nat}{p v:Value}{bs:List Value}(h:BAt 78 5 w b p v bs)(c:Int)(hlen:bs.length+1≤140737488355328) :
  Calls Tryz.prog 110 #[.pointer (some ⟨b,0,none⟩),.int .u8 c] w fun e w'=>e=.returned .nilIface∧∃ v',BAt 78 5 w' b (.pointer (some ⟨b,0,none⟩)) v' (bs++[.int .u8 c])∧Kept w w' b v v':=by
 obtain⟨i0,hi,hz0,hz1,hz2⟩:=info_parts (show(Tryz.prog.info? 5).map (fun i=>(i.zero,i.size,i.bytes))=some (some (.int .u8 0),1,1) from Tryz.Builder_Extra_169.infoByte)
 have mixed:Tryz.prog.follows .mixedOrders=true:=by kernel_rfl
 have t72:=Tryz.underlying78;have a72:=Tryz.isAgg78;have z72:=Tryz.sizeOf78;have v72:=Tryz.zeroValue78;have u72:=Tryz.runUnderlying78
 have t70:=Tryz.underlying76;have a70:=Tryz.isAgg76;have z70:=Tryz.sizeOf76;have v70:=Tryz.zeroValue76;have u70:=Tryz.runUnderlying76
 have t5:=Tryz.underlying5;have a5:=Tryz.isAgg5;have z5:=Tryz.sizeOf5;have v5:=Tryz.zeroValue5;have u5:=Tryz.runUnderlying5
 have t37:=Tryz.underlying40;have a37:=Tryz.isAgg40;have z37:=Tryz.sizeOf40;have v37:=Tryz.zeroValue40;have u37:=Tryz.runUnderlying40
 have t9:=Tryz.underlying9;have a9:=Tryz.isAgg9;have z9:=Tryz.sizeOf9;have v9:=Tryz.zeroValue9;have u9:=Tryz.runUnderlying9
 have t4:=Tryz.underlying4;have a4:=Tryz.isAgg4;have z4:=Tryz.sizeOf4;have v4:=Tryz.zeroValue4;have u4:=Tryz.runUnderlying4
 have t164:=Tryz.underlying145;have a164:=Tryz.isAgg145;have z164:=Tryz.sizeOf145;have v164:=Tryz.zeroValue145;have u164:=Tryz.runUnderlying145
 have e240:∀ args w,(callFunc 87 args).run Tryz.prog w=.ok (.enter 87 args) w:=enters_of Tryz.func87 (by kernel_rfl) rfl
 go_enter Tryz.func110,Tryz.ntmps110
 go_wp2_with (go_at_fn 87;refine(q5g h).mono ?_)
 rintro e w1 ⟨rfl,h1,o1,o2,o3,hsz1,hold1⟩
 obtain⟨_,hbk,hown,hne⟩:=h1
 have c0:w1.cell? ⟨b,0,none⟩=some (.pointer (some ⟨b,0,none⟩)):=by rw[Lib.cell_of_heap hbk];rfl
 have c1:w1.cell? ⟨b,1,none⟩=some v:=by rw[Lib.cell_of_heap hbk];rfl
 go_wp2_with (at_builtin;refine q7c rfl _ _ 40 rfl 5 i0 Tryz.underlying40 hi hz0 hz1 hz2 _ _ _ rfl (hown.alloc _) ⟨w1.heap.size,0,none⟩ 1 1 [.int .u8 c] rfl rfl ?c1 ?c2 ?c3 ?c4 ?_)
 case c1=>
  intro j u hj
  match j,hj with
  |0,hj=>simp at hj;subst hj;simp [Addr.add]
 case c2=>intro u hu;simp at hu;subst hu;rfl
 case c3=>unfold maxLen;omega
 case c4=>omega
 intro v' w2 hown' hgrow _ hsame
 have hlt:b<w1.heap.size:=by
  rcases Nat.lt_or_ge b w1.heap.size with h'|h'
  ·exact h'
  ·simp [Array.getElem?_eq_none h'] at hbk
 have hb2:w2.heap[b]? = some (.cells #[.pointer (some ⟨b,0,none⟩),v] 78 (0,0)):=by
  rw[hgrow.block b (by simp;omega) (fun e=>hne e.symm),Lib.alloc_old w1 _ b hlt]
  exact hbk
 have d0:w2.cell? ⟨b,0,none⟩=some (.pointer (some ⟨b,0,none⟩)):=by rw[Lib.cell_of_heap hb2];rfl
 have d1:w2.cell? ⟨b,1,none⟩=some v:=by rw[Lib.cell_of_heap hb2];rfl
 have f1:w2.frozen? ⟨b,1,none⟩=false:=Lib.frozen_of_heap hb2 1
 obtain⟨g,cap,rfl⟩:∃ g cap,v'=.slice (some ⟨g,0,none⟩) (bs.length+1) cap:=by
  rcases hown'.2 with⟨_,h0⟩|⟨g,cap,cur,fz,hv,_⟩
  ·omega
  ·exact⟨g,cap,hv⟩
 go_wp2
 go_ret
 refine⟨rfl,_,z5B (by decide:(78:TypeId)≠5) (w:=w) (w1:=w1.alloc (.cells #[.int .u8 c] 5)) (.inr (by simp [hsz1.eq])) ⟨o1,o2,o3⟩ (fun k hk hkb=>by rw[Lib.alloc_old w1 _ k (by rw[hsz1.eq];exact hk)];exact hold1 k hkb) hb2 hgrow (by simpa using hown') hsame (fun g hg=>(h.own.lt g hg).2)⟩
set_option maxHeartbeats 2000000 in
set_option maxRecDepth 100000 in
theorem q7f{w:World}{b:Nat}{p v:Value}{bs:List Value}(h:BAt 78 5 w b p v bs)(s:ByteArray)(hlen:bs.length+s.size≤140737488355328) :
  Calls Tryz.prog 47 #[.pointer (some ⟨b,0,none⟩),.string s] w fun e w'=>e=.returned (.tuple #[.int .i64 s.size,.nilIface])∧∃ v',BAt 78 5 w' b (.pointer (some ⟨b,0,none⟩)) v' (bs++Lib.strCells s)∧Kept w w' b v v'∧(v=.slice none 0 0→s.size=0→v'=.slice none 0 0):=by
 obtain⟨i0,hi,hz0,hz1,hz2⟩:=info_parts (show(Tryz.prog.info? 5).map (fun i=>(i.zero,i.size,i.bytes))=some (some (.int .u8 0),1,1) from Tryz.Builder_Extra_169.infoByte)
 have mixed:Tryz.prog.follows .mixedOrders=true:=by kernel_rfl
 have t72:=Tryz.underlying78;have a72:=Tryz.isAgg78;have z72:=Tryz.sizeOf78;have v72:=Tryz.zeroValue78;have u72:=Tryz.runUnderlying78
 have t70:=Tryz.underlying76;have a70:=Tryz.isAgg76;have z70:=Tryz.sizeOf76;have v70:=Tryz.zeroValue76;have u70:=Tryz.runUnderlying76
 have t37:=Tryz.underlying40;have a37:=Tryz.isAgg40;have z37:=Tryz.sizeOf40;have v37:=Tryz.zeroValue40;have u37:=Tryz.runUnderlying40
 have t3:=Tryz.underlying3;have a3:=Tryz.isAgg3;have z3:=Tryz.sizeOf3;have v3:=Tryz.zeroValue3;have u3:=Tryz.runUnderlying3
 have t9:=Tryz.underlying9;have a9:=Tryz.isAgg9;have z9:=Tryz.sizeOf9;have v9:=Tryz.zeroValue9;have u9:=Tryz.runUnderlying9
 have t4:=Tryz.underlying4;have a4:=Tryz.isAgg4;have z4:=Tryz.sizeOf4;have v4:=Tryz.zeroValue4;have u4:=Tryz.runUnderlying4
 have t164:=Tryz.underlying145;have a164:=Tryz.isAgg145;have z164:=Tryz.sizeOf145;have v164:=Tryz.zeroValue145;have u164:=Tryz.runUnderlying145
 have t5:=Tryz.underlying5;have a5:=Tryz.isAgg5;have z5:=Tryz.sizeOf5;have v5:=Tryz.zeroValue5;have u5:=Tryz.runUnderlying5
 have e240:∀ args w,(callFunc 87 args).run Tryz.prog w=.ok (.enter 87 args) w:=enters_of Tryz.func87 (by kernel_rfl) rfl
 go_enter Tryz.func47,Tryz.ntmps47
 go_wp2_with (go_at_fn 87;refine(q5g h).mono ?_)
 rintro e w1 ⟨rfl,h1,o1,o2,o3,hsz1,hold1⟩
 obtain⟨_,hbk,hown,hne⟩:=h1
 have c0:w1.cell? ⟨b,0,none⟩=some (.pointer (some ⟨b,0,none⟩)):=by rw[Lib.cell_of_heap hbk];rfl
 have c1:w1.cell? ⟨b,1,none⟩=some v:=by rw[Lib.cell_of_heap hbk];rfl
 go_wp2_with (at_builtin;refine q38 rfl _ _ 40 9 rfl 5 i0 Tryz.underlying40 Tryz.underlying9 hi hz0 hz1 hz2 _ _ _ rfl hown s rfl ?c3 ?c4 ?_)
 case c3=>unfold maxLen;omega
 case c4=>omega
 intro v' w2 hown' hgrow hnil hsame
 have hlt:b<w1.heap.size:=by
  rcases Nat.lt_or_ge b w1.heap.size with h'|h'
  ·exact h'
  ·simp [Array.getElem?_eq_none h'] at hbk
 have hb2:w2.heap[b]? = some (.cells #[.pointer (some ⟨b,0,none⟩),v] 78 (0,0)):=by
  rw[hgrow.block b hlt (fun e=>hne e.symm)]
  exact hbk
 have d0:w2.cell? ⟨b,0,none⟩=some (.pointer (some ⟨b,0,none⟩)):=by rw[Lib.cell_of_heap hb2];rfl
 have d1:w2.cell? ⟨b,1,none⟩=some v:=by rw[Lib.cell_of_heap hb2];rfl
 have f1:w2.frozen? ⟨b,1,none⟩=false:=Lib.frozen_of_heap hb2 1
 obtain⟨ao,n',cap,rfl⟩:∃ ao n' cap,v'=.slice ao n' cap:=by
  rcases hown'.2 with⟨hv,_⟩|⟨g,cap,cur,fz,hv,_⟩
  ·exact⟨_,_,_,hv⟩
  ·exact⟨_,_,_,hv⟩
 go_wp2
 go_ret2
 have hp:=z5B (bs':=bs++Lib.strCells s) (by decide:(78:TypeId)≠5) (w:=w) (.inl hsz1.eq) ⟨o1,o2,o3⟩ (fun k hk hkb=>hold1 k hkb) hb2 hgrow (by simpa [Lib.strCells_length] using hown') hsame (fun g hg=>(h.own.lt g hg).2)
 exact⟨rfl,_,hp.1,hp.2,fun h1 h2=>hnil.2 ⟨h1,by
  obtain⟨⟨l⟩⟩:=s
  cases l with
  |nil=>rfl
  |cons a r=>simp [ByteArray.size] at h2⟩⟩
theorem tB_wb:WbOk Tryz.prog 110 78 5:=fun h c hl=>q8J h c hl
theorem tB_ws:WsOk Tryz.prog 47 78 5:=fun h s hl=>q7f h s hl
end Go.Vm
end

section
namespace Go.Vm
open Go.RowKit Go.Shelf Go.Proofs Go.Sort
def GT:Nat→Option (List D)
 |0=>some (Lib.pow10Tab.map fun z=>.int .u64 z)
 |_=>none
theorem gP10:Tryz.prog.globalNamed "internal/strconv.uint64pow10" = some 0:=by kernel_rfl
theorem z6E{w:World}{F:Nat→Prop}{v:Value}{k:IntKind}{n:Int}(h:RepD w F v (.int k n)):v=.int k n:=by
 cases h with|int k n=>rfl
theorem q9Y{w:World}{F:Nat→Prop}(h:GlobRel w F GT):Lib.TabIs Tryz.prog w "internal/strconv.uint64pow10" .u64 Lib.pow10Tab:=by
 have hx:=h 0 _ rfl
 rw[if_neg (show ¬ q5M (Lib.pow10Tab.map fun z=>D.int .u64 z)=true from fun e=>Bool.noConfusion (show false=true from e))] at hx
 obtain⟨h1,cs,t,fz,h2,h3⟩:=hx
 unfold Lib.TabIs World.var?
 rw[gP10]
 show(match w.heap[0]? with|some (.cells cs _ _)=>some cs|_=>none)=_
 rw[h2]
 show some cs=_
 congr 1
 apply Array.ext
 ·rw[h3];simp
 ·intro j hj1 hj2
  cases h1 with
  |ptr b o cells g hf hc hr=>
   have hj:j<Lib.pow10Tab.length:=by simpa using hj2
   have e:(Lib.pow10Tab.map fun z=>D.int .u64 z)[j]? = some (.int .u64 Lib.pow10Tab[j]):=by simp [hj]
   have hv:=hr j _ e
   have hg:=z6E hv
   have hcell:=hc j _ e
   rw[hg,Nat.zero_add] at hcell
   have:w.cell? ⟨0,j,none⟩=some cs[j]:=by
    rw[Lib.cell_of_heap h2]
    simp [hj1]
   rw[this] at hcell
   simpa using Option.some.inj hcell
theorem q2Y{w:World}{F:Nat→Prop}{base:Nat}(hF:∀ b,F b→b<w.heap.size):HeapRel w F (fun _ _=>False) base (fun _=>none) 0 (indexed []):=
 ⟨fun b blk h=>absurd (show look [] b=some blk from h) (by simp [look]),fun b b' l l' h=>(by cases h),fun b l h=>(by cases h),hF⟩
theorem q0C:Tryz.prog.follows .mixedOrders=true:=by kernel_rfl
theorem z17(s:List UInt8)(c:UInt8)(a b:Bool):q1f Tryz.prog GT 123 [.d a (.str s),.d b (.int .u8 c.toNat)] (.d false (.int .i64 (Lib.indexByte s c))) []:=by
 intro w F vals hF hG hR
 obtain⟨hsz,hval⟩:=hR
 obtain⟨l⟩:=vals
 match l,hsz,hval with
 |[v0,v1],hsz,hval=>
  obtain⟨t,e0,e0'⟩:=(hval 0 v0 (.d a (.str s)) rfl rfl).str_inv
  have e1:=(hval 1 v1 (.d b (.int .u8 c.toNat)) rfl rfl).int_inv
  subst e0;subst e1
  refine(Tryz.strings_IndexByte t c.toNat w).mono ?_
  rintro e w' ⟨rfl,rfl⟩
  refine⟨_,F,fun _=>none,rfl,.refl _ _,fun b h=>.inl h,?_,q2Y hF⟩
  have:(c.toNat:Int).toNat.toUInt8=c:=by simp
  rw[←e0',this]
  exact .d _ _ _ (.int _ _)
 |[],hsz,_=>simp at hsz
 |[_],hsz,_=>simp at hsz
 |_ :: _ :: _ :: _,hsz,_=>simp at hsz
theorem z18(s:List UInt8)(c:UInt8)(a b:Bool):q1f Tryz.prog GT 115 [.d a (.str s),.d b (.str [c])] (.d false (.int .i64 (s.count c))) []:=by
 intro w F vals hF hG hR
 obtain⟨hsz,hval⟩:=hR
 obtain⟨l⟩:=vals
 match l,hsz,hval with
 |[v0,v1],hsz,hval=>
  obtain⟨t,e0,e0'⟩:=(hval 0 v0 (.d a (.str s)) rfl rfl).str_inv
  obtain⟨u,e1,e1'⟩:=(hval 1 v1 (.d b (.str [c])) rfl rfl).str_inv
  subst e0;subst e1
  have hu:u=⟨#[c]⟩:=by
   obtain⟨u⟩:=u
   obtain⟨u⟩:=u
   simp only at e1'
   rw[←e1']
  subst hu
  refine(Tryz.strings_Count_one t c w).mono ?_
  rintro e w' ⟨rfl,rfl⟩
  refine⟨_,F,fun _=>none,rfl,.refl _ _,fun b h=>.inl h,?_,q2Y hF⟩
  rw[e0']
  exact .d _ _ _ (.int _ _)
 |[],hsz,_=>simp at hsz
 |[_],hsz,_=>simp at hsz
 |_ :: _ :: _ :: _,hsz,_=>simp at hsz
theorem z3Y(n:Int)(a:Bool)(h0 : -9223372036854775808≤n)(h1:n≤9223372036854775807):q1f Tryz.prog GT 49 [.d a (.int .i64 n)] (.d false (.str (Lib.itoa n))) []:=by
 intro w F vals hF hG hR
 obtain⟨hsz,hval⟩:=hR
 obtain⟨l⟩:=vals
 match l,hsz,hval with
 |[v0],hsz,hval=>
  have e0:=(hval 0 v0 (.d a (.int .i64 n)) rfl rfl).int_inv
  subst e0
  refine(Tryz.strconv_Itoa n h0 h1 w (q9Y hG)).mono ?_
  rintro e w' ⟨rfl,k,os,rfl⟩
  have hsz:(grow (w.drewN k) os).heap.size=w.heap.size+os.size:=by
   show((w.drewN k).heap++os).size=_
   simp
  refine⟨_,F,fun _=>none,rfl,⟨rfl,rfl,rfl,by rw[hsz];omega,fun j hj=>?_⟩,fun b h=>.inl h,?_,q2Y (fun b h=>by rw[hsz];have:=hF b h;omega)⟩
  ·show((w.drewN k).heap++os)[j]? = _
   rw[Array.getElem?_append_left (by simpa using hj)]
   simp
  ·exact .d _ _ _ (.str ⟨(Lib.itoa n).toArray⟩)
 |[],hsz,_=>simp at hsz
 |_ :: _ :: _,hsz,_=>simp at hsz
theorem z3Z(s:List UInt8)(a:Bool)(n:Int)(hl:s.length≤18)(h:Lib.atoi s=some n):q1f Tryz.prog GT 111 [.d a (.str s)] (.tup [.d false (.int .i64 n),.d false .nilif]) []:=by
 intro w F vals hF hG hR
 obtain⟨hsz,hval⟩:=hR
 obtain⟨l⟩:=vals
 match l,hsz,hval with
 |[v0],hsz,hval=>
  obtain⟨t,e0,e0'⟩:=(hval 0 v0 (.d a (.str s)) rfl rfl).str_inv
  subst e0
  have hsz':t.size≤18:=by
   have:t.size=t.data.toList.length:=by simp
   rw[this,←e0'];exact hl
  refine(Tryz.strconv_Atoi t n hsz' (by rw[←e0'];exact h) w).mono ?_
  rintro e w' ⟨rfl,b,rfl⟩
  have hs:=Lib.bytesWorld_size w 5 b
  refine⟨_,F,fun _=>none,rfl,Go.Joins.below_bytesWorld _ w 5 b (Nat.le_refl _),fun b h=>.inl h,?_,q2Y (fun x hx=>by rw[hs];have:=hF x hx;omega)⟩
  refine .tup _ _ rfl fun j v x hv hx=>?_
  match j with
  |0=>simp at hv hx;subst hv;subst hx;exact .d _ _ _ (.int _ _)
  |1=>simp at hv hx;subst hv;subst hx;exact .d _ _ _ .nilif
  |j+2=>simp at hv
 |[],hsz,_=>simp at hsz
 |_ :: _ :: _,hsz,_=>simp at hsz
end Go.Vm
end

section
namespace Go.Vm
open Go.RowKit
variable {P:Program}
def Cx.later(K:Cx)(ds:List Deferred):Cx:=⟨K.call,K.eff,K.glob,K.loc,ds⟩
theorem Cx.later_sound{K:Cx}(h:K.Sound P)(ds:List Deferred):(K.later ds).Sound P:=⟨h.1,h.2,h.3⟩
theorem z7i(K:Cx)(ds:List Deferred)(s:S):∀ e,ev (K.later ds) s e=ev K s e:=by
 intro e
 induction e <;> simp only[ev, *] <;> rfl
theorem StRel.later{K:Cx}{X:Nat→Nat→Prop}{base:Nat}{w0:World}{F0:Nat→Prop}{m:Nat}{σ0:Nat→Option Loc}{n:Nat}{s:S}{a a':Act}{w:World}{F:Nat→Prop}{σ:Nat→Option Loc}
  (h:StRel K X base w0 F0 m σ0 n s a w F σ) {ds:List Deferred} (hs:a'.tmps.size=n) (hd:a'.defers=ds) (ht:∀ t v,look s.rho t=some v→a'.tmps.getD t undef=a.tmps.getD t undef):StRel (K.later ds) X base w0 F0 m σ0 n s a' w F σ:=
 ⟨h.heap,h.glob,h.le,h.frame,h.frz,hs,hd,fun t v hv=>by rw[ht t v hv];exact h.rho t v hv,h.dom,h.stab,h.nxm,h.xm,h.sub⟩
theorem z4X{K:Cx}{fn:Func}{own:Bool}{res:List E}{m:Nat}{w w':World}{F F':Nat→Prop}{σ σ':Nat→Option Loc}{s:S}{a:Act}{vs:List V}{r:V}{news:List Blk}{mv:List Nat}
  (hres:mapO (resE P) fn.results.toList=some res) (hs:StRel K (OwnB σ) w.heap.size w F m σ fn.ntmps s a w' F' σ') (hvs:mapO (ev K s) res=some vs) (hfin:finish m own s (q0b vs)=some (r,news,mv)) :
  ∃ v,(results fn a.tmps).run P w'=.ok v w'∧∃ v' F' σ',Ending.returned v=.returned v'∧Frame (OwnB σ) w.heap.size w w'∧(∀ b,F b→F' b)∧(∀ b,F' b→F b∨w.heap.size≤b)∧
   RepV w' F' w.heap.size σ' v' r∧HeapRel w' F' (OwnB σ) w.heap.size σ' news.length (indexed news)∧∀ i l,i<m→σ i=some l→i∉mv→σ' i=some l:=by
 obtain⟨v,h1,h2⟩:=q4j hs hres hvs
 unfold finish at hfin
 simp only at hfin
 generalize (if own=true then q0N s.heap (refN s.heap+64) [] (List.range m++(q0b vs).refs) else List.range m)=bs at hfin
 split at hfin
 case isFalse=>cases hfin
 rename_i hc2
 simp only[Bool.and_eq_true,decide_eq_true_eq] at hc2
 obtain⟨hnd,hpre⟩:=hc2
 cases h3:finV (m==0) bs s.heap (q0b vs) with
 |none=>simp [h3] at hfin
 |some r'=>
  cases h4:mapO (finB (m==0) bs s.heap) bs with
  |none=>simp [h3,h4] at hfin
  |some news'=>
   simp only[h3,h4,Option.some.injEq,Prod.mk.injEq] at hfin
   obtain⟨rfl,rfl,rfl⟩:=hfin
   have hpin:∀ b,b<m→bs[b]? = some b:=fun b hb'=>by
    have:(bs.take m)[b]? = some b:=by rw[hpre];simp [hb']
    simpa [List.getElem?_take,hb'] using this
   have hX:∀ b k,OwnB σ b k→bs[b]? = some b:=fun b k hx=>hpin b (hs.xm b k hx)
   have hy:z2L (OwnB σ) w.heap.size bs σ':=by
    intro i l hl
    obtain⟨hni,hl'⟩:=q3Q hl
    rcases(hs.heap.own i l hl').2.2.1 with h|h
    ·exact h
    ·have:=List.mem_of_getElem? (hX i _ h)
     simp [this] at hni
   refine⟨v,h1,v,FZ F' bs σ',outs bs σ',rfl,hs.frame,fun b hb'=>.inl (hs.sub b hb'),fun b hb'=>?_,q7F hs.heap hy h3 h2,q9p hs.heap hy hnd hX h4,fun i l hi hl hm'=>?_⟩
   ·rcases hb' with hb'|⟨i,l,hl,rfl⟩
    ·exact hs.frz b hb'
    ·exact .inr (hy i l hl)
   ·unfold outs
    rw[hpin i hi]
    exact hs.stab i l hi hl (fun hc=>hm' (List.mem_filter.2 ⟨List.mem_range.2 hi,by simpa [List.contains_eq_mem] using hc⟩))
def z62(k G:Nat)(cap:List Nat):Code→Bool
 |.region _ ops draw=>!draw&&match ops.toList with
  |[o,p]=>o.dst==some k&&o.guard.isNone&&p.dst==none&&p.guard.isNone &&
   (match o.op with|.makeFunc (.func g) f c=>g==G&&f.toList.isEmpty&&decide (c.toList.map (fun x=>match x with|.tmp t=>some t|_=>none)=cap.map some)|_=>false) &&
   (match p.op with|.defer c=>c.args.toList.isEmpty&&(match c.callee with|.value (.tmp t)=>t==k|_=>false)|_=>false)
  |_=>false
 |_=>false
theorem z8F{l:List Operand}{cap:List Nat}(h:l.map (fun x=>match x with|.tmp t=>some t|_=>none)=cap.map some):l=cap.map Operand.tmp:=by
 induction l generalizing cap with
 |nil=>cases cap <;> simp_all
 |cons x l ih=>
  cases cap with
  |nil=>simp at h
  |cons t cap=>
   simp only[List.map_cons,List.cons.injEq] at h
   rw[ih h.2]
   cases x <;> simp_all
theorem j0s{k G:Nat}{cap:List Nat}{code:Code}(h:z62 k G cap code=true){Q:Exit→Act→World→Prop}{a:Act}{w:World}(hk:k<a.tmps.size)
  (hQ:Q .normal { tmps:=a.tmps.setIfInBounds k (.func (.func G) #[] (cap.map fun t=>a.tmps.getD t undef).toArray),defers:={ target:=.fn (.func G) (cap.map fun t=>a.tmps.getD t undef).toArray,args:=#[] } :: a.defers } w):code.wp P Q a w:=by
 cases code with
 |region id ops draw=>
  simp only[z62,Bool.and_eq_true,Bool.not_eq_true'] at h
  obtain⟨rfl,h⟩:=h
  split at h
  ·rename_i o p hops
   simp only[Bool.and_eq_true,beq_iff_eq,Option.isNone_iff_eq_none] at h
   obtain⟨⟨⟨⟨⟨h1,h2⟩,h3⟩,h4⟩,h5⟩,h6⟩:=h
   obtain⟨od,oo,ot,op,oa,og⟩:=o
   obtain⟨pd,po,pt,pp,pa,pg⟩:=p
   simp only at h1 h2 h3 h4 h5 h6
   subst h1;subst h2;subst h3;subst h4
   split at h5
   case h_2=>cases h5
   rename_i g f c
   simp only[Bool.and_eq_true,beq_iff_eq,List.isEmpty_iff,decide_eq_true_eq] at h5
   obtain⟨⟨rfl,hf⟩,hc⟩:=h5
   have hc:=z8F hc
   obtain⟨c⟩:=c
   obtain⟨f⟩:=f
   simp only at hf hc
   subst hf;subst hc
   split at h6
   case h_2=>cases h6
   rename_i d
   obtain⟨dc,da,dt⟩:=d
   simp only[Bool.and_eq_true,List.isEmpty_iff] at h6
   obtain⟨h7,h8⟩:=h6
   split at h8
   case h_2=>cases h8
   rename_i t
   simp only[beq_iff_eq] at h8
   subst h8
   obtain⟨da⟩:=da
   simp only at h7
   subst h7
   obtain⟨ops⟩:=ops
   simp only at hops
   subst hops
   refine wp_region ?_
   have hmf:∀(fn:Fn) (first cap:Array Value) (w:World),(Instr.makeFunc fn first cap).run P w=.ok (.func fn first cap) w:=fun _ _ _ _=>rfl
   have e:a.eval ∘ Operand.tmp=fun t=>a.tmps.getD t undef:=rfl
   simp only[List.size_toArray,List.length_cons,List.length_nil,List.range_succ,List.range_zero,List.nil_append,List.cons_append]
   simp [wpOps,Region.wanted,Oper.wp,Oper.upon,execOp,Act.put,Act.eval,resolve,Deferred.ofValue,go_sem,hmf,hk,e]
   left
   left
   simpa using hQ
  ·cases h
 |_=>simp [z62] at h
structure DfrF where
 c0:C
 ca:C
 cb:C
 res:List E
 k:Nat
 G:Nat
 cap:List Nat
def z7D(P:Program)(f:FuncId)(n:Nat)(g:DfrF):Bool:=match P.funcs[f]? with
 |some fn=>match fn.body with
  |some (.seq c0 (.seq ca (.seq r cb)))=>chk P 0 fn.ntmps g.c0 c0&&chk P 0 fn.ntmps g.ca ca&&z62 g.k g.G g.cap r&&decide (g.k<fn.ntmps)&&chk P 0 fn.ntmps g.cb cb &&
    decide (mapO (resE P) fn.results.toList=some g.res)&&decide (n≤fn.ntmps)&&(fn.name != "runtime.NumGoroutine")&&q0p P g.G
  |_=>false
 |none=>false
inductive DfrRun(K:Cx)(g:DfrF)(args:List V)(r:V)(news:List Blk):Prop where
 |early (s0 s1:S) (vs:List V) (mv:List Nat) (h0:exec K g.c0 (startS args [])=some (.nrm,s0)) (h1:exec K g.ca s0=some (.ret,s1)) (hv:mapO (ev K s1) g.res=some vs) (hf:finish 0 false s1 (q0b vs)=some (r,news,mv))
 |late (s0 s1:S) (h0:exec K g.c0 (startS args [])=some (.nrm,s0)) (h1:exec K g.ca s0=some (.nrm,s1)) (hk:look s1.rho g.k=none) (h2:∀ ds,∃ s2 vs mv,exec (K.later ds) g.cb s1=some (.ret,s2)∧mapO (ev (K.later ds) s2) g.res=some vs∧finish 0 false s2 (q0b vs)=some (r,news,mv))
def z90(P:Program)(G n:Nat):Prop:=∀(cap:Array Value)(w:World),cap.size=n→CallsD P G cap .returning w fun e u' w'=>u'=.returning∧e=.returned (.tuple #[])∧w'=w
theorem q6Z(hm:P.follows .mixedOrders=true){K:Cx}(hK:K.Sound P){f:FuncId}{g:DfrF}{args:List V}{r:V}{news:List Blk}(hok:z7D P f args.length g=true)(hq:z90 P g.G g.cap.length)(hr:DfrRun K g args r news)(hd0:K.dfr=[]:=by rfl) :
  q0p P f=true∧q1f P K.glob f args r news:=by
 unfold z7D at hok
 cases hf:P.funcs[f]? with
 |none=>simp [hf] at hok
 |some fn=>
  simp only[hf] at hok
  split at hok
  case h_2=>cases hok
  rename_i c0 ca rg cb hb
  simp only[Bool.and_eq_true,decide_eq_true_eq] at hok
  obtain⟨⟨⟨⟨⟨⟨⟨⟨k0,ka⟩,kr⟩,kk⟩,kb⟩,hres⟩,hn⟩,hname⟩,hG⟩:=hok
  refine⟨by simp [q0p,hf,hb,hname],fun w F vals hF hGl hargs=>?_⟩
  have hX:∀ b k,¬ OwnB (fun _=>none) b k:=by rintro b k ⟨l,h,_⟩;cases h
  have hH:HeapRel w F (OwnB fun _=>none) w.heap.size (fun _=>none) ([]:List Blk).length (indexed []):=⟨fun b blk h=>by simp [indexed,look] at h,fun b b' l l' h=>(by cases h),fun b l h=>(by cases h),hF⟩
  refine calls_of_wp_defers hf hb ?_
  have hst:StRel K (OwnB fun _=>none) w.heap.size w F 0 (fun _=>none) fn.ntmps (startS args []) { tmps:=vals++Array.replicate (fn.ntmps - vals.size) undef,defers:=[] } w F (fun _=>none):=by
   refine⟨hH,hGl,Nat.le_refl _,.refl _ _ _,fun b hb=>.inl hb,?_,hd0.symm,fun t v hv=>?_,fun b blk h=>?_,fun _ _ _ h _=>h,Nat.le_refl _,fun b k hx=>?_,fun _ h=>h⟩
   ·have:=hargs.1
    simp;omega
   ·obtain⟨_,hv'⟩:=q9d args 0 t v hv
    rw[Nat.sub_zero] at hv'
    have ht:t<vals.size:=by rw[hargs.1];exact(List.getElem?_eq_some_iff.1 hv').1
    have hget:(vals++Array.replicate (fn.ntmps - vals.size) undef).getD t undef=vals[t]:=by
     rw[Array.getD_eq_getD_getElem?,Array.getElem?_append_left ht]
     simp [ht]
    show RepV w F w.heap.size _ ((vals++Array.replicate (fn.ntmps - vals.size) undef).getD t undef) v
    rw[hget]
    exact hargs.2 t _ v (by simp [ht]) hv'
   ·simp [startS,indexed,look] at h
   ·exact absurd hx (hX b k)
  have shut:∀(s:S) (a:Act) (w':World) (F':Nat→Prop) (σ':Nat→Option Loc) (vs:List V) (mv:List Nat) (K1:Cx),StRel K1 (OwnB fun _=>none) w.heap.size w F 0 (fun _=>none) fn.ntmps s a w' F' σ'→mapO (ev K1 s) g.res=some vs→finish 0 false s (q0b vs)=some (r,news,mv)→
    ∃ v,(results fn a.tmps).run P w'=.ok v w'∧(∃ v' F' σ',Ending.returned v=.returned v'∧Below w.heap.size w w'∧(∀ b,F' b→F b∨w.heap.size≤b)∧
     RepV w' F' w.heap.size σ' v' r∧HeapRel w' F' (fun _ _=>False) w.heap.size σ' news.length (indexed news)):=by
   intro s a w' F' σ' vs mv K1 hs hvs hfin
   obtain⟨v,h1,v',F'',σ'',he,hfr,_,hF',hR,hHr,_⟩:=z4X hres hs hvs hfin
   refine⟨v,h1,v',F'',σ'',he,⟨hfr.os,hfr.tape,hfr.output,hfr.size,fun k hk=>hfr.block k hk (fun b=>hX b k)⟩,hF',hR,⟨hHr.blk,hHr.inj,fun b l hb=>?_,hHr.fro⟩⟩
   obtain⟨o1,o2,o3,o4⟩:=hHr.own b l hb
   exact⟨o1,o2,o3.imp id (fun hx=>hX b _ hx),o4⟩
  have hev:∀ ds (s:S),mapO (ev (K.later ds) s) g.res=mapO (ev K s) g.res:=fun ds s=>by
   have:ev (K.later ds) s=ev K s:=funext fun e=>z7i K ds s e
   rw[this]
  cases hr with
  |early s0 s1 vs mv h0 h1 hv hfn=>
   refine wp_seq (wp_mono (q10 hm hK g.c0 c0 _ _ _ _ _ _ k0 h0 hst) fun e a w1 hp=>?_)
   obtain⟨rfl,F1,σ1,hs1⟩:=hp
   refine wp_seq (wp_mono (q10 hm hK g.ca ca _ _ _ _ _ _ ka h1 hs1) fun e a w2 hp=>?_)
   obtain⟨rfl,F2,σ2,hs2⟩:=hp
   obtain⟨v,q1,q2⟩:=shut s1 a w2 F2 σ2 vs mv K hs2 hv hfn
   show Leaves P fn a.tmps _ a.defers .returning w2
   rw[hs2.dfr,hd0]
   exact⟨v,q1,q2⟩
  |late s0 s1 h0 h1 hk h2=>
   refine wp_seq (wp_mono (q10 hm hK g.c0 c0 _ _ _ _ _ _ k0 h0 hst) fun e a w1 hp=>?_)
   obtain⟨rfl,F1,σ1,hs1⟩:=hp
   refine wp_seq (wp_mono (q10 hm hK g.ca ca _ _ _ _ _ _ ka h1 hs1) fun e a w2 hp=>?_)
   obtain⟨rfl,F2,σ2,hs2⟩:=hp
   refine wp_seq (j0s kr (by rw[hs2.size];exact kk) ?_)
   have hdf:a.defers=[]:=hs2.dfr.trans hd0
   rw[hdf]
   generalize hcap:(g.cap.map fun t=>a.tmps.getD t undef).toArray=cap
   have hcs:cap.size=g.cap.length:=by rw[←hcap];simp
   have hs3:StRel (K.later [{ target:=.fn (.func g.G) cap,args:=#[] }]) (OwnB fun _=>none) w.heap.size w F 0 (fun _=>none) fn.ntmps s1 { tmps:=a.tmps.setIfInBounds g.k (.func (.func g.G) #[] cap),defers:=[{ target:=.fn (.func g.G) cap,args:=#[] }] } w2 F2 σ2:=
    hs2.later (by simp [hs2.size]) rfl fun t v ht=>by
     have hne:t≠g.k:=by rintro rfl;rw[hk] at ht;cases ht
     simp only[Array.getD_eq_getD_getElem?]
     rw[Array.getElem?_setIfInBounds_ne (by omega)]
   obtain⟨s2,vs,mv,h2,hv,hfn⟩:=h2 [{ target:=.fn (.func g.G) cap,args:=#[] }]
   refine wp_mono (q10 hm (Cx.later_sound hK _) g.cb cb _ _ _ _ _ _ kb h2 hs3) fun e a3 w3 hp=>?_
   obtain⟨rfl,F3,σ3,hs4⟩:=hp
   obtain⟨v,q1,q2⟩:=shut s2 a3 w3 F3 σ3 vs mv _ hs4 hv hfn
   show Leaves P fn a3.tmps _ a3.defers .returning w3
   rw[hs4.dfr]
   refine leaves_cons (f:=g.G) (args:=cap) (by simp) ?_ ((hq cap w3 hcs).mono ?_)
   ·have:=q5k (w:=w3) hG cap
    simpa [invoke] using this
   ·rintro e u' w4 ⟨rfl,rfl,rfl⟩
    exact⟨v,q1,q2⟩
end Go.Vm
end

section
namespace Go.Vm
open Go.RowKit
variable {P:Program}
def z4V:List Row→FuncId→Nat→Option Row
 |[],_,_=>none
 |r :: l,f,m=>if r.f=f∧r.m=m then some r else z4V l f m
theorem q6N{T:List Row}{f:FuncId}{m:Nat}{r:Row}(h:z4V T f m=some r):r∈T∧r.f=f:=by
 induction T with
 |nil=>cases h
 |cons q T ih=>
  simp only[z4V] at h
  split at h
  ·rename_i he
   obtain rfl:=Option.some.inj h
   exact⟨by simp,he.1⟩
  ·exact⟨List.mem_cons_of_mem _ (ih h).1,(ih h).2⟩
def cxM(K0:Cx)(N:Nat)(T:List Row):Nat→Cx
 |0=>K0
 |n+1=>⟨fun f vs=>match z4V T f 0 with
   |some r=>if r.m=0∧r.n=vs.length then match q6c N (cxM K0 N T n) r.g vs [] with
    |some (v,blks,_)=>some (v,blks)
    |none=>none
    else none
   |none=>K0.call f vs,
  fun f vs bs=>match z4V T f bs.length with
   |some r=>if r.m=bs.length∧r.n=vs.length then q6c N (cxM K0 N T n) r.g vs bs else none
   |none=>K0.eff f vs bs,K0.glob,K0.loc,[]⟩
theorem z0z{K0:Cx}(h:K0.dfr=[])(N:Nat)(T:List Row)(n:Nat):(cxM K0 N T n).dfr=[]:=by cases n;exact h;rfl
theorem q5Q(K0:Cx)(N:Nat)(T:List Row)(n:Nat):(cxM K0 N T n).glob=K0.glob:=by cases n <;> rfl
theorem z5x(hm:P.follows .mixedOrders=true){K0:Cx}(h0:K0.Sound P){N:Nat}{T:List Row}(hT:∀ r∈T,q0J P r.f r.m r.n r.g=true)(hl:∀ r∈T,K0.loc r.f=true→K0.glob=fun _=>none)(hd0:K0.dfr=[]:=by rfl):∀ n,(cxM K0 N T n).Sound P:=by
 intro n
 induction n with
 |zero=>exact h0
 |succ n ih=>
  have call:∀ f args r news,(cxM K0 N T (n+1)).call f args=some (r,news)→q0p P f=true∧q1f P K0.glob f args r news:=by
   intro f args r news h
   simp only[cxM] at h
   split at h
   ·rename_i q hq
    obtain⟨h1,rfl⟩:=q6N hq
    split at h
    ·rename_i hc
     split at h
     ·rename_i v blks mv hr
      simp only[Option.some.injEq,Prod.mk.injEq] at h
      obtain⟨rfl,rfl⟩:=h
      have ok:=hT q h1
      rw[hc.1,hc.2] at ok
      have:=q3B hm ih ok (q4V hr) (z0z hd0 ..)
      rw[q5Q] at this
      exact this
     ·cases h
    ·cases h
   ·exact h0.pure f args r news h
  refine⟨fun f args r news h=>?_,fun f args r news hl' h=>?_,fun f args blks r blks' mv h=>?_⟩
  ·have:=call f args r news h
   rw[←q5Q K0 N T (n+1)] at this
   exact this
  ·have hl2:K0.loc f=true:=hl'
   have h2:=h
   simp only[cxM] at h2
   split at h2
   ·rename_i q hq
    obtain⟨h1,rfl⟩:=q6N hq
    have e:=hl q h1 hl2
    have:=(call q.f args r news h).2
    rw[e] at this
    exact this
   ·exact h0.loc f args r news hl2 h2
  ·have h2:=h
   simp only[cxM] at h2
   split at h2
   ·rename_i q hq
    obtain⟨h1,rfl⟩:=q6N hq
    split at h2
    ·rename_i hc
     have ok:=hT q h1
     rw[hc.1,hc.2] at ok
     have:=q9y hm ih ok (q4V h2) (z0z hd0 ..)
     rw[q5Q] at this
     exact this
    ·cases h2
   ·exact h0.eff f args blks r blks' mv h2
def z95(N:Nat)(K:Cx)(g:DfrF)(s1:S):Option (V×List Blk):=match execC N K g.cb s1 with
 |some (.ret,s2)=>match mapO (ev K s2) g.res with
  |some vs=>match finish 0 false s2 (q0b vs) with
   |some (r,news,_)=>some (r,news)
   |none=>none
  |none=>none
 |_=>none
theorem z5u{N:Nat}{K:Cx}{g:DfrF}{args:List V}{s0 s1:S}{r:V}{news:List Blk}(h0:execC N K g.c0 (startS args [])=some (.nrm,s0))(h1:execC N K g.ca s0=some (.nrm,s1))(hk:look s1.rho g.k=none)
  (h2:∀ ds,z95 N (K.later ds) g s1=some (r,news)):DfrRun K g args r news:=by
 refine .late s0 s1 ((q5N N K g.c0).1 _ _ h0) ((q5N N K g.ca).1 _ _ h1) hk fun ds=>?_
 have h:=h2 ds
 unfold z95 at h
 split at h
 case h_2=>cases h
 rename_i s2 he
 split at h
 case h_2=>cases h
 rename_i vs hv
 split at h
 case h_2=>cases h
 rename_i r' news' mv hf
 simp only[Option.some.injEq,Prod.mk.injEq] at h
 obtain⟨rfl,rfl⟩:=h
 exact⟨s2,vs,mv,(q5N N _ g.cb).1 _ _ he,hv,hf⟩
end Go.Vm
end

section
namespace Go.Vm
open Go.Proofs
theorem z8V:z90 Tryz.prog 59 2:=by
 intro cap w hcap
 obtain⟨l⟩:=cap
 match l,hcap with
 |[p,q],_=>
  refine(callsD_of_wpS (R:=fun e u' w'=>u'=.returning∧e=.returned (.tuple #[])∧w'=w) Tryz.func59 rfl fun c₀ cs hu=>?_)
  apply wpS_seq
  apply wpS_region
  simp [wpOpsS,go_sem,recoverD,hu,Tryz.ntmps59,Exit.thenS]
  apply wpS_seq
  apply wpS_region
  simp [wpOpsS,go_sem,recoverD,hu,Tryz.ntmps59,Exit.thenS]
  refine wpS_cond (t:=false) (by simp [Act.eval,Array.replicate]) ?_
  simp only[Bool.false_eq_true,if_false]
  refine wpS_of_wp (wp_skip ?_)
  cases c₀
  simp_all [bodyPostS,results,Tryz.results59]
theorem z3V:z90 Tryz.prog 76 2:=by
 intro cap w hcap
 obtain⟨l⟩:=cap
 match l,hcap with
 |[p,q],_=>
  refine(callsD_of_wpS (R:=fun e u' w'=>u'=.returning∧e=.returned (.tuple #[])∧w'=w) Tryz.func76 rfl fun c₀ cs hu=>?_)
  apply wpS_seq
  apply wpS_region
  simp [wpOpsS,go_sem,recoverD,hu,Tryz.ntmps76,Exit.thenS]
  apply wpS_seq
  apply wpS_region
  simp [wpOpsS,go_sem,recoverD,hu,Tryz.ntmps76,Exit.thenS]
  refine wpS_cond (t:=false) (by simp [Act.eval,Array.replicate]) ?_
  simp only[Bool.false_eq_true,if_false]
  refine wpS_of_wp (wp_skip ?_)
  cases c₀
  simp_all [bodyPostS,results,Tryz.results76]
end Go.Vm
end

section
namespace Go.Vm
set_option maxRecDepth 100000
/- 'sloth/code.Check' -/
def f13_L0:C:= (.seq (.reg [⟨[],[(20,(.bin .lss (.sl 19) (.sl 18)))],[],none,[1,3,17,18,19],1,[],[],[]⟩]) (.seq (.cond (.sl 20) .skip (.seq (.tidy 0 [1,3]) (.exit 0))) (.seq (.block 1 (.seq (.reg [⟨[(5,.box (.agg (.cons (.str []) (.cons (.int .i64 0) .nil))))],[],[],some (none,.store 2 (.sl 5) (.ld 2 true (.ia 2 (.sl 17) (.sl 19)))),[1,3,5,17,18,19],4,[],[],[]⟩]) (.seq (.seq (.reg [⟨[],[(43,(.or (.or (.or (.un .not (.call 35 (.cons (.ld 1 false (.fa 0 (.sl 5))) .nil))) (.bin .gtr (.lkp false 2 (.int .i64 0) (.sl 3) (.ld 1 false (.fa 0 (.sl 5)))) (.int .i64 0))) (.bin .lss (.ld 1 false (.fa 1 (.sl 5))) (.int .i64 0))) (.bin .gtr (.ld 1 false (.fa 1 (.sl 5))) (.int .i64 8))))],[],none,[1,3,5,17,18,19],21,[],[],[]⟩]) (.cond (.sl 43) (.seq (.reg [⟨[],[(2,(.int .i64 172))],[],none,[],1,[],[],[]⟩]) (.seq (.tidy 0 [2]) .ret)) .skip)) (.reg [⟨[],[],[],some (none,.mset 2 (.sl 3) (.ld 1 false (.fa 0 (.sl 5))) (.int .i64 1)),[1,3,17,18,19],4,[],[],[]⟩])))) (.reg [⟨[],[(19,(.bin .add (.sl 19) (.int .i64 1)))],[],none,[1,3,17,18],2,[],[],[]⟩]))))
def f13_L1:C:= (.seq (.reg [⟨[],[(51,(.bin .lss (.sl 50) (.sl 49)))],[],none,[1,3,48,49,50],1,[],[],[]⟩]) (.seq (.cond (.sl 51) .skip (.seq (.tidy 0 [1,3]) (.exit 2))) (.seq (.block 3 (.seq (.reg [⟨[(7,.box (.agg (.cons (.str []) (.cons (.int .i64 0) .nil))))],[(6,(.sl 50))],[],some (none,.store 2 (.sl 7) (.ld 2 true (.ia 2 (.sl 48) (.sl 50)))),[1,3,7,48,49,50],6,[],[],[]⟩]) (.seq (.reg [⟨[],[(68,(.or (.bin .geq (.sl 6) (.len false (.ld 1 false (.fa 0 (.sl 1))))) (.eqs true true [2,0] (.ld 2 true (.ia 2 (.ld 1 false (.fa 0 (.sl 1))) (.sl 6))) (.ld 2 true (.sl 7)))))],[],none,[1,3,48,49,50],14,[[],[],[1],[1,2],[2,1,3,0],[0,3,1,2,4],[4,2,1,3,0,5],[5,0,3,1,2,4,6],[4,2,1,3,0,5],[8,6,4,2,1,3,0,5,7],[7,5,0,3,1,2,4,6,8,9],[4,2,1,3,0,5],[11,9,8,6,4,2,1,3,0,5,7,10],[10,7,6,8,9,11,12,4,2,1,3,0,5]],[],[]⟩]) (.cond (.sl 68) (.seq (.reg [⟨[],[(2,(.int .i64 172))],[],none,[],1,[],[],[]⟩]) (.seq (.tidy 0 [2]) .ret)) .skip)))) (.reg [⟨[],[(50,(.bin .add (.sl 50) (.int .i64 1)))],[],none,[1,3,48,49],2,[],[],[]⟩]))))
def f13_L2:C:= (.seq (.reg [⟨[],[(75,(.bin .lss (.sl 74) (.sl 73)))],[],none,[1,3,72,73,74],1,[],[],[]⟩]) (.seq (.cond (.sl 75) .skip (.seq (.tidy 0 [1]) (.exit 4))) (.seq (.block 5 (.seq (.reg [⟨[(9,.box (.agg (.cons (.str []) (.cons (.int .i64 0) (.cons (.nilsl 3) .nil)))))],[],[],some (none,.store 3 (.sl 9) (.ld 3 true (.ia 3 (.sl 72) (.sl 74)))),[1,3,9,72,73,74],4,[],[],[]⟩]) (.seq (.seq (.reg [⟨[],[(98,(.or (.or (.or (.un .not (.call 35 (.cons (.ld 1 false (.fa 0 (.sl 9))) .nil))) (.bin .gtr (.lkp false 2 (.int .i64 0) (.sl 3) (.ld 1 false (.fa 0 (.sl 9)))) (.int .i64 0))) (.bin .lss (.ld 1 false (.fa 1 (.sl 9))) (.int .i64 0))) (.bin .gtr (.ld 1 false (.fa 1 (.sl 9))) (.int .i64 24))))],[],none,[1,3,9,72,73,74],21,[],[],[]⟩]) (.cond (.sl 98) (.seq (.reg [⟨[],[(2,(.int .i64 172))],[],none,[],1,[],[],[]⟩]) (.seq (.tidy 0 [2]) .ret)) .skip)) (.reg [⟨[],[],[],some (none,.mset 2 (.sl 3) (.ld 1 false (.fa 0 (.sl 9))) (.int .i64 1)),[1,3,72,73,74],4,[],[],[]⟩])))) (.reg [⟨[],[(74,(.bin .add (.sl 74) (.int .i64 1)))],[],none,[1,3,72,73],2,[],[],[]⟩]))))
def f13_L3:C:= (.seq (.reg [⟨[],[(107,(.bin .lss (.sl 106) (.sl 105)))],[],none,[1,104,105,106],1,[],[],[]⟩]) (.seq (.cond (.sl 107) .skip (.seq (.tidy 0 []) (.exit 6))) (.seq (.block 7 (.seq (.reg [⟨[(11,.box (.agg (.cons (.str []) (.cons (.int .i64 0) (.cons (.nilsl 3) .nil)))))],[],[],some (none,.store 3 (.sl 11) (.ld 3 true (.ia 3 (.sl 104) (.sl 106)))),[1,11,104,105,106],4,[],[],[]⟩]) (.seq (.reg [⟨[],[(12,(.call 37 (.cons (.ld 2 true (.sl 1)) (.cons (.ld 3 true (.sl 11)) .nil))))],[],none,[1,104,105,106],4,[],[],[]⟩]) (.seq (.reg [⟨[],[(114,(.bin .neq (.sl 12) (.int .i64 0)))],[],none,[1,12,104,105,106],2,[],[],[]⟩]) (.cond (.sl 114) (.seq (.reg [⟨[],[(2,(.sl 12))],[],none,[],2,[],[],[]⟩]) (.seq (.tidy 0 [2]) .ret)) .skip))))) (.reg [⟨[],[(106,(.bin .add (.sl 106) (.int .i64 1)))],[],none,[1,104,105],2,[],[],[]⟩]))))
def f13:Fun:=⟨ (.seq (.reg [⟨[(1,.box (.sl 0))],[],[(.int .i64 0)],none,[1],2,[],[],[]⟩]) (.seq (.seq (.reg [⟨[],[(14,(.call 34 (.cons (.ld 2 true (.sl 1)) .nil)))],[],none,[1],2,[],[],[]⟩]) (.cond (.sl 14) (.seq (.reg [⟨[],[(2,(.int .i64 4))],[],none,[],1,[],[],[]⟩]) (.seq (.tidy 0 [2]) .ret)) .skip)) (.seq (.reg [⟨[(15,.mkm)],[(3,(.sl 15))],[],none,[1],2,[],[],[]⟩]) (.seq (.seq (.reg [⟨[],[(17,(.ld 1 false (.fa 0 (.sl 1)))),(18,(.len false (.ld 1 false (.fa 0 (.sl 1))))),(19,(.int .i64 0))],[],none,[1,3],4,[],[],[]⟩]) (.block 0 (.seq (.tidy 0 [1,3,17,18,19]) (.loop (.seq (.tidy 0 [1,3,17,18,19]) f13_L0))))) (.seq (.seq (.reg [⟨[(48,.callo 36 .nil)],[(49,(.len false (.sl 48))),(50,(.int .i64 0))],[],none,[1,3,48],3,[],[],[]⟩]) (.block 2 (.seq (.tidy 0 [1,3,48,49,50]) (.loop (.seq (.tidy 0 [1,3,48,49,50]) f13_L1))))) (.seq (.reg [⟨[],[],[],some (none,.mclr (.sl 3)),[1,3],2,[],[],[]⟩]) (.seq (.seq (.reg [⟨[],[(72,(.ld 1 false (.fa 1 (.sl 1)))),(73,(.len false (.ld 1 false (.fa 1 (.sl 1))))),(74,(.int .i64 0))],[],none,[1,3],4,[],[],[]⟩]) (.block 4 (.seq (.tidy 0 [1,3,72,73,74]) (.loop (.seq (.tidy 0 [1,3,72,73,74]) f13_L2))))) (.seq (.seq (.reg [⟨[],[(104,(.ld 1 false (.fa 1 (.sl 1)))),(105,(.len false (.ld 1 false (.fa 1 (.sl 1))))),(106,(.int .i64 0))],[],none,[1],4,[],[],[]⟩]) (.block 6 (.seq (.tidy 0 [1,104,105,106]) (.loop (.seq (.tidy 0 [1,104,105,106]) f13_L3))))) (.seq (.reg [⟨[],[(2,(.int .i64 0))],[],none,[],1,[],[],[]⟩]) (.seq (.tidy 0 [2]) .ret)))))))))), [(.sl 2)],false⟩
theorem j1G:q0J Go.Proofs.Tryz.prog 13 0 1 f13=true:=by kernel_rfl
/- 'sloth/code.great' -/
def f34_L0:C:= (.seq (.reg [⟨[],[(10,(.bin .lss (.sl 9) (.sl 8)))],[],none,[1,3,7,8,9],1,[],[],[]⟩]) (.seq (.cond (.sl 10) .skip (.seq (.tidy 0 [1,3]) (.exit 0))) (.seq (.block 1 (.seq (.reg [⟨[(5,.box (.agg (.cons (.str []) (.cons (.int .i64 0) (.cons (.nilsl 3) .nil)))))],[],[],some (none,.store 3 (.sl 5) (.ld 3 true (.ia 3 (.sl 7) (.sl 9)))),[1,3,5,7,8,9],4,[],[],[]⟩]) (.seq (.reg [⟨[],[(3,(.bin .add (.sl 3) (.len false (.ld 1 false (.fa 2 (.sl 5))))))],[],none,[1,5,7,8,9],6,[],[],[]⟩]) (.seq (.reg [⟨[],[(21,(.bin .gtr (.len false (.ld 1 false (.fa 2 (.sl 5)))) (.int .i64 8000)))],[],none,[1,3,7,8,9],4,[],[],[]⟩]) (.cond (.sl 21) (.seq (.reg [⟨[],[(2,(.bool true))],[],none,[],1,[],[],[]⟩]) (.seq (.tidy 0 [2]) .ret)) .skip))))) (.reg [⟨[],[(9,(.bin .add (.sl 9) (.int .i64 1)))],[],none,[1,3,7,8],2,[],[],[]⟩]))))
def f34:Fun:=⟨ (.seq (.reg [⟨[(1,.box (.sl 0))],[],[(.bool false)],none,[1],2,[],[],[]⟩]) (.seq (.reg [⟨[],[(3,(.int .i64 0))],[],none,[1],1,[],[],[]⟩]) (.seq (.seq (.reg [⟨[],[(7,(.ld 1 false (.fa 1 (.sl 1)))),(8,(.len false (.ld 1 false (.fa 1 (.sl 1))))),(9,(.int .i64 0))],[],none,[1,3],4,[],[],[]⟩]) (.block 0 (.seq (.tidy 0 [1,3,7,8,9]) (.loop (.seq (.tidy 0 [1,3,7,8,9]) f34_L0))))) (.seq (.reg [⟨[],[(2,(.or (.or (.bin .gtr (.len false (.ld 1 false (.fa 0 (.sl 1)))) (.int .i64 2000)) (.bin .gtr (.len false (.ld 1 false (.fa 1 (.sl 1)))) (.int .i64 2000))) (.bin .gtr (.sl 3) (.int .i64 200000))))],[],none,[],15,[],[],[]⟩]) (.seq (.tidy 0 [2]) .ret))))), [(.sl 2)],false⟩
theorem j1s:q0J Go.Proofs.Tryz.prog 34 0 1 f34=true:=by kernel_rfl
/- 'sloth/code.isName' -/
def f35_L0:C:= (.seq (.reg [⟨[],[(7,(.bin .lss (.sl 6) (.sl 5)))],[],none,[0,5,6],1,[],[],[]⟩]) (.seq (.cond (.sl 7) .skip (.seq (.tidy 0 [0]) (.exit 0))) (.seq (.block 1 (.seq (.reg [⟨[],[(3,(.sl 6))],[],none,[0,5,6],2,[],[],[]⟩]) (.seq (.reg [⟨[],[(18,(.or (.bin .lss (.ix (.sl 0) (.sl 3)) (.int .u8 32)) (.bin .gtr (.ix (.sl 0) (.sl 3)) (.int .u8 126))))],[],none,[0,5,6],10,[],[],[]⟩]) (.cond (.sl 18) (.seq (.reg [⟨[],[(2,(.bool false))],[],none,[],1,[],[],[]⟩]) (.seq (.tidy 0 [2]) .ret)) .skip)))) (.reg [⟨[],[(6,(.bin .add (.sl 6) (.int .i64 1)))],[],none,[0,5],2,[],[],[]⟩]))))
def f35:Fun:=⟨ (.seq (.reg [⟨[],[],[(.bool false)],none,[0],1,[],[],[]⟩]) (.seq (.seq (.reg [⟨[],[(5,(.len true (.sl 0))),(6,(.int .i64 0))],[],none,[0],3,[],[],[]⟩]) (.block 0 (.seq (.tidy 0 [0,5,6]) (.loop (.seq (.tidy 0 [0,5,6]) f35_L0))))) (.seq (.reg [⟨[],[(2,(.and (.bin .geq (.len true (.sl 0)) (.int .i64 1)) (.bin .leq (.len true (.sl 0)) (.int .i64 4096))))],[],none,[],9,[],[],[]⟩]) (.seq (.tidy 0 [2]) .ret)))), [(.sl 2)],false⟩
theorem j1r:q0J Go.Proofs.Tryz.prog 35 0 1 f35=true:=by kernel_rfl
/- 'sloth/code.given' -/
def f36:Fun:=⟨ (.seq (.reg [⟨[],[],[(.nilsl 2)],none,[],1,[],[],[]⟩]) (.seq (.reg [⟨[(8,.lits 2 (.cons (.set 0 1 (.str [70,97,108,115,101]) (.agg (.cons (.str []) (.cons (.int .i64 0) .nil)))) (.cons (.set 0 1 (.str [84,114,117,101]) (.agg (.cons (.str []) (.cons (.int .i64 0) .nil)))) (.cons (.set 0 1 (.str [85,110,105,116]) (.agg (.cons (.str []) (.cons (.int .i64 0) .nil)))) (.cons (.set 0 1 (.str [78,105,108]) (.agg (.cons (.str []) (.cons (.int .i64 0) .nil)))) (.cons (.set 1 1 (.int .i64 2) (.set 0 1 (.str [67,111,110,115]) (.agg (.cons (.str []) (.cons (.int .i64 0) .nil))))) (.cons (.set 1 1 (.int .i64 2) (.set 0 1 (.str [80,97,105,114]) (.agg (.cons (.str []) (.cons (.int .i64 0) .nil))))) (.cons (.set 1 1 (.int .i64 3) (.set 0 1 (.str [84,114,105,112,108,101]) (.agg (.cons (.str []) (.cons (.int .i64 0) .nil))))) .nil))))))))],[(0,(.sl 8))],[],none,[],9,[],[],[]⟩]) (.seq (.tidy 0 [0]) .ret))), [(.sl 0)],true⟩
theorem j1q:q0J Go.Proofs.Tryz.prog 36 0 0 f36=true:=by kernel_rfl
/- 'sloth/code.checkCode' -/
def f37_L0:C:= (.seq (.reg [⟨[],[(23,(.bin .lss (.sl 22) (.sl 21)))],[],none,[2,3,20,21,22],1,[],[],[]⟩]) (.seq (.cond (.sl 23) .skip (.seq (.tidy 0 [2,3]) (.exit 0))) (.seq (.block 1 (.seq (.reg [⟨[(6,.box (.agg (.cons (.int .i64 0) (.cons (.int .i64 0) (.cons (.int .i64 0) .nil)))))],[(5,(.sl 22))],[],some (none,.store 3 (.sl 6) (.ld 3 true (.ia 3 (.sl 20) (.sl 22)))),[2,3,6,20,21,22],6,[],[],[]⟩]) (.seq (.reg [⟨[(7,.box (.agg (.cons (.str []) (.cons (.int .i64 0) (.cons (.int .i64 0) .nil)))))],[(32,(.ext 1 (.call 79 (.cons (.ld 1 false (.fa 0 (.sl 6))) .nil))))],[],some (none,.store 3 (.sl 7) (.ext 0 (.call 79 (.cons (.ld 1 false (.fa 0 (.sl 6))) .nil)))),[2,3,5,6,7,20,21,22],8,[],[],[]⟩,⟨[],[(8,(.sl 32))],[],none,[2,3,5,6,7,20,21,22],1,[],[],[]⟩]) (.seq (.seq (.reg [⟨[],[(34,(.un .not (.sl 8)))],[],none,[2,3,5,6,7,20,21,22],2,[],[],[]⟩]) (.cond (.sl 34) (.seq (.reg [⟨[],[(4,(.int .i64 172))],[],none,[],1,[],[],[]⟩]) (.seq (.tidy 0 [4]) .ret)) .skip)) (.seq (.reg [⟨[],[(9,(.call 80 (.cons (.ld 2 true (.sl 2)) (.cons (.ld 3 true (.sl 3)) (.cons (.sl 5) (.cons (.ld 1 false (.fa 1 (.sl 6))) (.cons (.ld 1 false (.fa 1 (.sl 7))) .nil))))))),(10,(.call 80 (.cons (.ld 2 true (.sl 2)) (.cons (.ld 3 true (.sl 3)) (.cons (.sl 5) (.cons (.ld 1 false (.fa 2 (.sl 6))) (.cons (.ld 1 false (.fa 2 (.sl 7))) .nil)))))))],[],none,[2,3,20,21,22],18,[[],[],[],[],[3],[],[5],[5,6,3,4,2,1,0],[],[],[],[],[11],[],[13],[0,1,2,4,3,6,5,7,13,14,11,12,10,9,8],[8,9,10,12,11,14,13,15,0,1,2,4,3,6,5,7],[16,8,9,10,12,11,14,13,7,5,6,3,4,2,1,0,15]],[],[]⟩]) (.seq (.seq (.reg [⟨[],[(56,(.or (.bin .eql (.sl 9) (.int .i64 172)) (.bin .eql (.sl 10) (.int .i64 172))))],[],none,[2,3,9,10,20,21,22],6,[],[],[]⟩]) (.cond (.sl 56) (.seq (.reg [⟨[],[(4,(.int .i64 172))],[],none,[],1,[],[],[]⟩]) (.seq (.tidy 0 [4]) .ret)) .skip)) (.seq (.reg [⟨[],[(62,(.or (.bin .neq (.sl 9) (.int .i64 0)) (.bin .neq (.sl 10) (.int .i64 0))))],[],none,[2,3,20,21,22],6,[],[],[]⟩]) (.cond (.sl 62) (.seq (.reg [⟨[],[(4,(.int .i64 174))],[],none,[],1,[],[],[]⟩]) (.seq (.tidy 0 [4]) .ret)) .skip)))))))) (.reg [⟨[],[(22,(.bin .add (.sl 22) (.int .i64 1)))],[],none,[2,3,20,21],2,[],[],[]⟩]))))
def f37_L1:C:= (.seq (.reg [⟨[],[(81,(.bin .lss (.sl 80) (.sl 79)))],[],none,[2,3,11,78,79,80],1,[],[],[]⟩]) (.seq (.cond (.sl 81) .skip (.seq (.tidy 0 []) (.exit 2))) (.seq (.block 3 (.seq (.reg [⟨[(13,.box (.agg (.cons (.int .i64 0) (.cons (.int .i64 0) (.cons (.int .i64 0) .nil)))))],[(12,(.sl 80))],[],some (none,.store 3 (.sl 13) (.ld 3 true (.ia 3 (.sl 78) (.sl 80)))),[2,3,11,13,78,79,80],6,[],[],[]⟩]) (.seq (.reg [⟨[],[(14,(.ld 1 false (.ia 1 (.sl 11) (.sl 12))))],[],none,[2,3,11,12,13,78,79,80],5,[],[],[]⟩]) (.seq (.seq (.reg [⟨[],[(90,(.bin .eql (.sl 14) (.int .i64 0)))],[],none,[2,3,11,12,13,14,78,79,80],2,[],[],[]⟩]) (.cond (.sl 90) (.seq (.reg [⟨[],[(4,(.int .i64 174))],[],none,[],1,[],[],[]⟩]) (.seq (.tidy 0 [4]) .ret)) .skip)) (.seq (.reg [⟨[],[(15,(.ext 0 (.call 81 (.cons (.ld 2 true (.sl 2)) (.cons (.ld 3 true (.sl 13)) (.cons (.sl 14) .nil)))))),(16,(.ext 1 (.call 81 (.cons (.ld 2 true (.sl 2)) (.cons (.ld 3 true (.sl 13)) (.cons (.sl 14) .nil))))))],[],none,[2,3,11,12,13,78,79,80],9,[],[],[]⟩]) (.seq (.seq (.reg [⟨[],[(99,(.un .not (.sl 16)))],[],none,[2,3,11,12,13,15,78,79,80],2,[],[],[]⟩]) (.cond (.sl 99) (.seq (.reg [⟨[],[(4,(.int .i64 173))],[],none,[],1,[],[],[]⟩]) (.seq (.tidy 0 [4]) .ret)) .skip)) (.seq (.reg [⟨[],[(17,(.and (.and (.bin .neq (.ld 1 false (.fa 0 (.sl 13))) (.int .i64 13)) (.bin .neq (.ld 1 false (.fa 0 (.sl 13))) (.int .i64 16))) (.bin .neq (.ld 1 false (.fa 0 (.sl 13))) (.int .i64 17))))],[],none,[2,3,11,12,13,15,78,79,80],14,[],[],[]⟩]) (.seq (.seq (.reg [⟨[],[(121,(.and (.sl 17) (.bin .eql (.bin .add (.sl 12) (.int .i64 1)) (.len false (.ld 1 false (.fa 2 (.sl 3)))))))],[],none,[2,3,11,12,13,15,17,78,79,80],9,[],[],[]⟩]) (.cond (.sl 121) (.seq (.reg [⟨[],[(4,(.int .i64 174))],[],none,[],1,[],[],[]⟩]) (.seq (.tidy 0 [4]) .ret)) .skip)) (.seq (.seq (.reg [⟨[],[(123,(.sl 17))],[],some (some 128,.calle 82 (.cons (.sl 11) (.cons (.bin .add (.sl 12) (.int .i64 1)) (.cons (.sl 15) .nil)))),[2,3,11,13,15,78,79,80],7,[],[((.sl 17),true)],[]⟩,⟨[],[(130,(.and (.sl 123) (.un .not (.sl 128))))],[],none,[2,3,11,13,15,78,79,80],2,[],[],[]⟩]) (.cond (.sl 130) (.seq (.reg [⟨[],[(4,(.int .i64 173))],[],none,[],1,[],[],[]⟩]) (.seq (.tidy 0 [4]) .ret)) .skip)) (.seq (.reg [⟨[],[(18,(.int .i64 0))],[],none,[2,3,11,13,15,78,79,80],1,[],[],[]⟩]) (.seq (.seq (.reg [⟨[],[(132,(.ld 1 false (.fa 0 (.sl 13))))],[],none,[2,3,11,13,15,18,78,79,80],2,[],[],[]⟩]) (.block 4 (.seq (.reg [⟨[],[(133,(.bin .eql (.sl 132) (.int .i64 13)))],[],none,[2,3,11,13,15,18,78,79,80,132],2,[],[],[]⟩]) (.cond (.sl 133) (.reg [⟨[],[(18,(.ld 1 false (.fa 1 (.sl 13))))],[],none,[2,3,11,15,78,79,80],3,[],[],[]⟩]) (.seq (.seq (.reg [⟨[],[(137,(.bin .eql (.sl 132) (.int .i64 14)))],[],none,[2,3,11,13,15,18,78,79,80,132],2,[],[],[]⟩]) (.cond (.sl 137) .skip (.reg [⟨[],[(137,(.bin .eql (.sl 132) (.int .i64 15)))],[],none,[2,3,11,13,15,18,78,79,80],2,[],[],[]⟩]))) (.cond (.sl 137) (.reg [⟨[],[(18,(.ld 1 false (.fa 2 (.sl 13))))],[],none,[2,3,11,15,78,79,80],3,[],[],[]⟩]) .skip)))))) (.seq (.reg [⟨[],[(144,(.bin .gtr (.sl 18) (.int .i64 0)))],[],some (some 148,.calle 82 (.cons (.sl 11) (.cons (.sl 18) (.cons (.sl 15) .nil)))),[2,3,11,78,79,80],7,[],[((.bin .gtr (.sl 18) (.int .i64 0)),true)],[]⟩,⟨[],[(150,(.and (.sl 144) (.un .not (.sl 148))))],[],none,[2,3,11,78,79,80],2,[],[],[]⟩]) (.cond (.sl 150) (.seq (.reg [⟨[],[(4,(.int .i64 173))],[],none,[],1,[],[],[]⟩]) (.seq (.tidy 0 [4]) .ret)) .skip))))))))))))) (.reg [⟨[],[(80,(.bin .add (.sl 80) (.int .i64 1)))],[],none,[2,3,11,78,79],2,[],[],[]⟩]))))
def f37:Fun:=⟨ (.seq (.reg [⟨[(2,.box (.sl 0)),(3,.box (.sl 1))],[],[(.int .i64 0)],none,[2,3],3,[],[],[]⟩]) (.seq (.seq (.reg [⟨[],[(20,(.ld 1 false (.fa 2 (.sl 3)))),(21,(.len false (.ld 1 false (.fa 2 (.sl 3))))),(22,(.int .i64 0))],[],none,[2,3],4,[],[],[]⟩]) (.block 0 (.seq (.tidy 0 [2,3,20,21,22]) (.loop (.seq (.tidy 0 [2,3,20,21,22]) f37_L0))))) (.seq (.seq (.reg [⟨[],[(67,(.bin .eql (.len false (.ld 1 false (.fa 2 (.sl 3)))) (.int .i64 0)))],[],none,[2,3],4,[],[],[]⟩]) (.cond (.sl 67) (.seq (.reg [⟨[],[(4,(.int .i64 174))],[],none,[],1,[],[],[]⟩]) (.seq (.tidy 0 [4]) .ret)) .skip)) (.seq (.reg [⟨[(71,.mks 1 (.cons (.int .i64 0) .nil) (.len false (.ld 1 false (.fa 2 (.sl 3)))) (.len false (.ld 1 false (.fa 2 (.sl 3)))))],[(11,(.sl 71))],[],none,[2,3],5,[],[],[]⟩]) (.seq (.reg [⟨[],[],[],some (none,.store 1 (.ia 1 (.sl 11) (.int .i64 0)) (.bin .add (.ld 1 false (.fa 1 (.sl 3))) (.int .i64 1))),[2,3,11],6,[],[],[]⟩]) (.seq (.seq (.reg [⟨[],[(78,(.ld 1 false (.fa 2 (.sl 3)))),(79,(.len false (.ld 1 false (.fa 2 (.sl 3))))),(80,(.int .i64 0))],[],none,[2,3,11],4,[],[],[]⟩]) (.block 2 (.seq (.tidy 0 [2,3,11,78,79,80]) (.loop (.seq (.tidy 0 [2,3,11,78,79,80]) f37_L1))))) (.seq (.reg [⟨[],[(4,(.int .i64 0))],[],none,[],1,[],[],[]⟩]) (.seq (.tidy 0 [4]) .ret)))))))), [(.sl 4)],false⟩
theorem j1p:q0J Go.Proofs.Tryz.prog 37 0 2 f37=true:=by kernel_rfl
/- 'sloth/slothref17.Shapes' -/
def f78:Fun:=⟨ (.seq (.reg [⟨[],[],[(.nilsl 2)],none,[],1,[],[],[]⟩]) (.seq (.reg [⟨[(8,.lits 2 (.cons (.set 0 1 (.str [70,97,108,115,101]) (.agg (.cons (.str []) (.cons (.int .i64 0) .nil)))) (.cons (.set 0 1 (.str [84,114,117,101]) (.agg (.cons (.str []) (.cons (.int .i64 0) .nil)))) (.cons (.set 0 1 (.str [85,110,105,116]) (.agg (.cons (.str []) (.cons (.int .i64 0) .nil)))) (.cons (.set 0 1 (.str [78,105,108]) (.agg (.cons (.str []) (.cons (.int .i64 0) .nil)))) (.cons (.set 1 1 (.int .i64 2) (.set 0 1 (.str [67,111,110,115]) (.agg (.cons (.str []) (.cons (.int .i64 0) .nil))))) (.cons (.set 1 1 (.int .i64 2) (.set 0 1 (.str [80,97,105,114]) (.agg (.cons (.str []) (.cons (.int .i64 0) .nil))))) (.cons (.set 1 1 (.int .i64 3) (.set 0 1 (.str [84,114,105,112,108,101]) (.agg (.cons (.str []) (.cons (.int .i64 0) .nil))))) .nil))))))))],[(0,(.sl 8))],[],none,[],9,[],[],[]⟩]) (.seq (.tidy 0 [0]) .ret))), [(.sl 0)],true⟩
theorem j07:q0J Go.Proofs.Tryz.prog 78 0 0 f78=true:=by kernel_rfl
/- 'sloth/code.forms' -/
def f79:Fun:=⟨ (.seq (.reg [⟨[(2,.box (.agg (.cons (.str []) (.cons (.int .i64 0) (.cons (.int .i64 0) .nil)))))],[],[(.bool false)],none,[0,2],2,[],[],[]⟩]) (.seq (.reg [⟨[(4,.box (.agg (.cons (.str []) (.cons (.int .i64 0) (.cons (.int .i64 0) (.cons (.str []) (.cons (.int .i64 0) (.cons (.int .i64 0) (.cons (.str []) (.cons (.int .i64 0) (.cons (.int .i64 0) (.cons (.str []) (.cons (.int .i64 0) (.cons (.int .i64 0) (.cons (.str []) (.cons (.int .i64 0) (.cons (.int .i64 0) (.cons (.str []) (.cons (.int .i64 0) (.cons (.int .i64 0) (.cons (.str []) (.cons (.int .i64 0) (.cons (.int .i64 0) (.cons (.str []) (.cons (.int .i64 0) (.cons (.int .i64 0) (.cons (.str []) (.cons (.int .i64 0) (.cons (.int .i64 0) (.cons (.str []) (.cons (.int .i64 0) (.cons (.int .i64 0) (.cons (.str []) (.cons (.int .i64 0) (.cons (.int .i64 0) (.cons (.str []) (.cons (.int .i64 0) (.cons (.int .i64 0) (.cons (.str []) (.cons (.int .i64 0) (.cons (.int .i64 0) (.cons (.str []) (.cons (.int .i64 0) (.cons (.int .i64 0) (.cons (.str []) (.cons (.int .i64 0) (.cons (.int .i64 0) (.cons (.str []) (.cons (.int .i64 0) (.cons (.int .i64 0) (.cons (.str []) (.cons (.int .i64 0) (.cons (.int .i64 0) (.cons (.str []) (.cons (.int .i64 0) (.cons (.int .i64 0) .nil))))))))))))))))))))))))))))))))))))))))))))))))))))))))],[],[],some (none,.store 54 (.sl 4) (.set 51 3 (.set 2 1 (.int .i64 0) (.set 1 1 (.int .i64 0) (.set 0 1 (.str [117,110,119,105,110,100]) (.agg (.cons (.str []) (.cons (.int .i64 0) (.cons (.int .i64 0) .nil))))))) (.set 48 3 (.set 2 1 (.int .i64 0) (.set 1 1 (.int .i64 7) (.set 0 1 (.str [102,97,105,108]) (.agg (.cons (.str []) (.cons (.int .i64 0) (.cons (.int .i64 0) .nil))))))) (.set 45 3 (.set 2 1 (.int .i64 8) (.set 1 1 (.int .i64 3) (.set 0 1 (.str [116,101,115,116,105,110,116]) (.agg (.cons (.str []) (.cons (.int .i64 0) (.cons (.int .i64 0) .nil))))))) (.set 42 3 (.set 2 1 (.int .i64 8) (.set 1 1 (.int .i64 5) (.set 0 1 (.str [116,101,115,116,99,111,110]) (.agg (.cons (.str []) (.cons (.int .i64 0) (.cons (.int .i64 0) .nil))))))) (.set 39 3 (.set 2 1 (.int .i64 0) (.set 1 1 (.int .i64 8) (.set 0 1 (.str [106,117,109,112]) (.agg (.cons (.str []) (.cons (.int .i64 0) (.cons (.int .i64 0) .nil))))))) (.set 36 3 (.set 2 1 (.int .i64 0) (.set 1 1 (.int .i64 6) (.set 0 1 (.str [97,114,105,116,104]) (.agg (.cons (.str []) (.cons (.int .i64 0) (.cons (.int .i64 0) .nil))))))) (.set 33 3 (.set 2 1 (.int .i64 0) (.set 1 1 (.int .i64 0) (.set 0 1 (.str [101,118,97,108]) (.agg (.cons (.str []) (.cons (.int .i64 0) (.cons (.int .i64 0) .nil))))))) (.set 30 3 (.set 2 1 (.int .i64 0) (.set 1 1 (.int .i64 5) (.set 0 1 (.str [115,112,108,105,116]) (.agg (.cons (.str []) (.cons (.int .i64 0) (.cons (.int .i64 0) .nil))))))) (.set 27 3 (.set 2 1 (.int .i64 0) (.set 1 1 (.int .i64 5) (.set 0 1 (.str [112,97,99,107]) (.agg (.cons (.str []) (.cons (.int .i64 0) (.cons (.int .i64 0) .nil))))))) (.set 24 3 (.set 2 1 (.int .i64 0) (.set 1 1 (.int .i64 1) (.set 0 1 (.str [97,108,108,111,99]) (.agg (.cons (.str []) (.cons (.int .i64 0) (.cons (.int .i64 0) .nil))))))) (.set 21 3 (.set 2 1 (.int .i64 0) (.set 1 1 (.int .i64 2) (.set 0 1 (.str [117,112,100,97,116,101]) (.agg (.cons (.str []) (.cons (.int .i64 0) (.cons (.int .i64 0) .nil))))))) (.set 18 3 (.set 2 1 (.int .i64 0) (.set 1 1 (.int .i64 0) (.set 0 1 (.str [97,112,112,108,121]) (.agg (.cons (.str []) (.cons (.int .i64 0) (.cons (.int .i64 0) .nil))))))) (.set 15 3 (.set 2 1 (.int .i64 0) (.set 1 1 (.int .i64 1) (.set 0 1 (.str [115,108,105,100,101]) (.agg (.cons (.str []) (.cons (.int .i64 0) (.cons (.int .i64 0) .nil))))))) (.set 12 3 (.set 2 1 (.int .i64 0) (.set 1 1 (.int .i64 1) (.set 0 1 (.str [112,111,112]) (.agg (.cons (.str []) (.cons (.int .i64 0) (.cons (.int .i64 0) .nil))))))) (.set 9 3 (.set 2 1 (.int .i64 0) (.set 1 1 (.int .i64 3) (.set 0 1 (.str [105,110,116]) (.agg (.cons (.str []) (.cons (.int .i64 0) (.cons (.int .i64 0) .nil))))))) (.set 6 3 (.set 2 1 (.int .i64 0) (.set 1 1 (.int .i64 4) (.set 0 1 (.str [103,108,111,98]) (.agg (.cons (.str []) (.cons (.int .i64 0) (.cons (.int .i64 0) .nil))))))) (.set 3 3 (.set 2 1 (.int .i64 0) (.set 1 1 (.int .i64 1) (.set 0 1 (.str [112,117,115,104]) (.agg (.cons (.str []) (.cons (.int .i64 0) (.cons (.int .i64 0) .nil))))))) (.set 0 3 (.agg (.cons (.str []) (.cons (.int .i64 0) (.cons (.int .i64 0) .nil)))) (.agg (.cons (.str []) (.cons (.int .i64 0) (.cons (.int .i64 0) (.cons (.str []) (.cons (.int .i64 0) (.cons (.int .i64 0) (.cons (.str []) (.cons (.int .i64 0) (.cons (.int .i64 0) (.cons (.str []) (.cons (.int .i64 0) (.cons (.int .i64 0) (.cons (.str []) (.cons (.int .i64 0) (.cons (.int .i64 0) (.cons (.str []) (.cons (.int .i64 0) (.cons (.int .i64 0) (.cons (.str []) (.cons (.int .i64 0) (.cons (.int .i64 0) (.cons (.str []) (.cons (.int .i64 0) (.cons (.int .i64 0) (.cons (.str []) (.cons (.int .i64 0) (.cons (.int .i64 0) (.cons (.str []) (.cons (.int .i64 0) (.cons (.int .i64 0) (.cons (.str []) (.cons (.int .i64 0) (.cons (.int .i64 0) (.cons (.str []) (.cons (.int .i64 0) (.cons (.int .i64 0) (.cons (.str []) (.cons (.int .i64 0) (.cons (.int .i64 0) (.cons (.str []) (.cons (.int .i64 0) (.cons (.int .i64 0) (.cons (.str []) (.cons (.int .i64 0) (.cons (.int .i64 0) (.cons (.str []) (.cons (.int .i64 0) (.cons (.int .i64 0) (.cons (.str []) (.cons (.int .i64 0) (.cons (.int .i64 0) (.cons (.str []) (.cons (.int .i64 0) (.cons (.int .i64 0) .nil)))))))))))))))))))))))))))))))))))))))))))))))))))))))))))))))))))))))))),[0,2,4],21,[],[],[]⟩]) (.seq (.seq (.reg [⟨[],[(29,(.or (.bin .lss (.sl 0) (.int .i64 1)) (.bin .geq (.sl 0) (.int .i64 18))))],[],none,[0,2,4],6,[],[],[]⟩]) (.cond (.sl 29) (.seq (.reg [⟨[],[],[],some (none,.store 3 (.sl 2) (.agg (.cons (.str []) (.cons (.int .i64 0) (.cons (.int .i64 0) .nil))))),[2],2,[],[],[]⟩,⟨[],[(3,(.bool false))],[],none,[2],1,[],[],[]⟩]) (.seq (.tidy 0 [2,3]) .ret)) .skip)) (.seq (.reg [⟨[],[],[],some (none,.store 3 (.sl 2) (.ld 3 true (.aa 18 3 (.sl 4) (.sl 0)))),[2],4,[],[],[]⟩,⟨[],[(3,(.bool true))],[],none,[2],1,[],[],[]⟩]) (.seq (.tidy 0 [2,3]) .ret))))), [(.ld 3 true (.sl 2)),(.sl 3)],false⟩
theorem j06:q0J Go.Proofs.Tryz.prog 79 0 1 f79=true:=by kernel_rfl
/- 'sloth/code.number' -/
def f80:Fun:=⟨ (.seq (.reg [⟨[(5,.box (.sl 0)),(6,.box (.sl 1))],[],[(.int .i64 0)],none,[2,3,4,5,6],3,[],[],[]⟩]) (.seq (.reg [⟨[],[(11,(.bool true))],[],none,[2,3,4,5,6],1,[],[],[]⟩]) (.seq (.seq (.reg [⟨[],[(12,(.sl 4))],[],none,[2,3,5,6,11],1,[],[],[]⟩]) (.block 0 (.seq (.reg [⟨[],[(13,(.bin .eql (.sl 12) (.int .i64 0)))],[],none,[2,3,5,6,11,12],2,[],[],[]⟩]) (.cond (.sl 13) (.reg [⟨[],[(11,(.bin .eql (.sl 3) (.int .i64 0)))],[],none,[],3,[],[],[]⟩]) (.seq (.reg [⟨[],[(17,(.bin .eql (.sl 12) (.int .i64 1)))],[],none,[2,3,5,6,11,12],2,[],[],[]⟩]) (.cond (.sl 17) (.reg [⟨[],[(11,(.bin .geq (.sl 3) (.int .i64 0)))],[],none,[],3,[],[],[]⟩]) (.seq (.reg [⟨[],[(21,(.bin .eql (.sl 12) (.int .i64 2)))],[],none,[2,3,5,6,11,12],2,[],[],[]⟩]) (.cond (.sl 21) (.reg [⟨[],[(11,(.bin .geq (.sl 3) (.int .i64 1)))],[],none,[],3,[],[],[]⟩]) (.seq (.reg [⟨[],[(25,(.bin .eql (.sl 12) (.int .i64 3)))],[],none,[2,3,5,6,11,12],2,[],[],[]⟩]) (.cond (.sl 25) (.reg [⟨[],[(11,(.and (.bin .geq (.sl 3) (.int .i64 (-4611686018427387904))) (.bin .leq (.sl 3) (.int .i64 4611686018427387903))))],[],none,[],7,[],[],[]⟩]) (.seq (.reg [⟨[],[(33,(.bin .eql (.sl 12) (.int .i64 4)))],[],none,[2,3,5,6,11,12],2,[],[],[]⟩]) (.cond (.sl 33) (.reg [⟨[],[(11,(.and (.bin .geq (.sl 3) (.int .i64 0)) (.bin .lss (.sl 3) (.len false (.ld 1 false (.fa 1 (.sl 5)))))))],[],none,[],10,[],[],[]⟩]) (.seq (.reg [⟨[],[(44,(.bin .eql (.sl 12) (.int .i64 5)))],[],none,[2,3,5,6,11,12],2,[],[],[]⟩]) (.cond (.sl 44) (.reg [⟨[],[(11,(.and (.bin .geq (.sl 3) (.int .i64 0)) (.bin .lss (.sl 3) (.len false (.ld 1 false (.fa 0 (.sl 5)))))))],[],none,[],10,[],[],[]⟩]) (.seq (.reg [⟨[],[(55,(.bin .eql (.sl 12) (.int .i64 6)))],[],none,[2,3,6,11,12],2,[],[],[]⟩]) (.cond (.sl 55) (.reg [⟨[],[(11,(.and (.bin .geq (.sl 3) (.int .i64 1)) (.bin .leq (.sl 3) (.int .i64 11))))],[],none,[],7,[],[],[]⟩]) (.seq (.reg [⟨[],[(63,(.bin .eql (.sl 12) (.int .i64 7)))],[],none,[2,3,6,11,12],2,[],[],[]⟩]) (.cond (.sl 63) (.reg [⟨[],[(11,(.and (.bin .geq (.sl 3) (.int .i64 1)) (.bin .leq (.sl 3) (.int .i64 4))))],[],none,[],7,[],[],[]⟩]) (.seq (.reg [⟨[],[(71,(.bin .eql (.sl 12) (.int .i64 8)))],[],none,[2,3,6,11],2,[],[],[]⟩]) (.cond (.sl 71) (.seq (.reg [⟨[],[(82,(.or (.bin .leq (.sl 3) (.sl 2)) (.bin .geq (.sl 3) (.len false (.ld 1 false (.fa 2 (.sl 6)))))))],[],none,[11],10,[],[],[]⟩]) (.cond (.sl 82) (.seq (.reg [⟨[],[(10,(.int .i64 174))],[],none,[],1,[],[],[]⟩]) (.seq (.tidy 0 [10]) .ret)) .skip)) .skip)))))))))))))))))))) (.seq (.seq (.reg [⟨[],[(84,(.un .not (.sl 11)))],[],none,[],2,[],[],[]⟩]) (.cond (.sl 84) (.seq (.reg [⟨[],[(10,(.int .i64 172))],[],none,[],1,[],[],[]⟩]) (.seq (.tidy 0 [10]) .ret)) .skip)) (.seq (.reg [⟨[],[(10,(.int .i64 0))],[],none,[],1,[],[],[]⟩]) (.seq (.tidy 0 [10]) .ret)))))), [(.sl 10)],false⟩
theorem j05:q0J Go.Proofs.Tryz.prog 80 0 5 f80=true:=by kernel_rfl
/- 'sloth/code.stacked' -/
def f81:Fun:=⟨ (.seq (.reg [⟨[(3,.box (.sl 0)),(4,.box (.sl 1))],[],[(.bool false),(.int .i64 0)],none,[2,3,4],4,[],[],[]⟩]) (.seq (.reg [⟨[],[(8,(.bool true)),(9,(.sl 2))],[],none,[2,3,4],3,[],[],[]⟩]) (.seq (.seq (.reg [⟨[],[(13,(.ld 1 false (.fa 0 (.sl 4))))],[],none,[2,3,4,8,9],2,[],[],[]⟩]) (.block 0 (.seq (.reg [⟨[],[(14,(.bin .eql (.sl 13) (.int .i64 1)))],[],none,[2,3,4,8,9,13],2,[],[],[]⟩]) (.cond (.sl 14) (.reg [⟨[],[(8,(.bin .lss (.ld 1 false (.fa 1 (.sl 4))) (.sl 2))),(9,(.bin .add (.sl 2) (.int .i64 1)))],[],none,[],8,[],[],[]⟩]) (.seq (.seq (.reg [⟨[],[(22,(.bin .eql (.sl 13) (.int .i64 2)))],[],none,[2,3,4,8,9,13],2,[],[],[]⟩]) (.cond (.sl 22) .skip (.reg [⟨[],[(22,(.bin .eql (.sl 13) (.int .i64 3)))],[],none,[2,3,4,8,9,13],2,[],[],[]⟩]))) (.cond (.sl 22) (.reg [⟨[],[(9,(.bin .add (.sl 2) (.int .i64 1)))],[],none,[8],3,[],[],[]⟩]) (.seq (.reg [⟨[],[(27,(.bin .eql (.sl 13) (.int .i64 4)))],[],none,[2,3,4,8,9,13],2,[],[],[]⟩]) (.cond (.sl 27) (.reg [⟨[],[(8,(.bin .lss (.ld 1 false (.fa 1 (.sl 4))) (.sl 2))),(9,(.bin .sub (.sl 2) (.ld 1 false (.fa 1 (.sl 4)))))],[],none,[],10,[[],[0],[],[2,0,1],[],[],[5],[5,6,4],[1,0,2,3],[3,2,0,1,8,4,6,5,7]],[],[]⟩]) (.seq (.reg [⟨[],[(37,(.bin .eql (.sl 13) (.int .i64 5)))],[],none,[2,3,4,8,9,13],2,[],[],[]⟩]) (.cond (.sl 37) (.reg [⟨[],[(8,(.bin .lss (.ld 1 false (.fa 1 (.sl 4))) (.bin .sub (.sl 2) (.int .i64 1)))),(9,(.bin .sub (.sl 2) (.ld 1 false (.fa 1 (.sl 4)))))],[],none,[],11,[[],[0],[],[2],[2,3,0,1],[],[],[6],[6,7,5],[1,0,3,2,4],[4,2,3,0,1,9,5,7,6,8]],[],[]⟩]) (.seq (.seq (.reg [⟨[],[(48,(.bin .eql (.sl 13) (.int .i64 6)))],[],none,[2,3,4,8,9,13],2,[],[],[]⟩]) (.cond (.sl 48) .skip (.reg [⟨[],[(48,(.bin .eql (.sl 13) (.int .i64 12)))],[],none,[2,3,4,8,9,13],2,[],[],[]⟩]))) (.cond (.sl 48) (.reg [⟨[],[(8,(.bin .gtr (.sl 2) (.int .i64 2))),(9,(.bin .sub (.sl 2) (.int .i64 1)))],[],none,[],6,[],[],[]⟩]) (.seq (.reg [⟨[],[(55,(.bin .eql (.sl 13) (.int .i64 7)))],[],none,[2,3,4,8,9,13],2,[],[],[]⟩]) (.cond (.sl 55) (.reg [⟨[],[(8,(.bin .lss (.ld 1 false (.fa 1 (.sl 4))) (.sl 2))),(9,(.bin .sub (.sl 2) (.int .i64 1)))],[],none,[],8,[],[],[]⟩]) (.seq (.reg [⟨[],[(63,(.bin .eql (.sl 13) (.int .i64 8)))],[],none,[2,3,4,8,9,13],2,[],[],[]⟩]) (.cond (.sl 63) (.reg [⟨[],[(8,(.bin .leq (.ld 1 false (.fa 1 (.sl 4))) (.int .i64 8000))),(9,(.bin .add (.sl 2) (.cond (.and (.bin .eql (.bin .and (.int .i64 8000) (.int .i64 0)) (.bin .and (.int .i64 8000) (.int .i64 0))) (.bin .lss (.int .i64 8000) (.ld 1 false (.fa 1 (.sl 4))))) (.int .i64 8000) (.ld 1 false (.fa 1 (.sl 4))))))],[],none,[],10,[[],[0],[0,1],[],[],[4],[4,5],[5,4,6,3],[1,0,2],[2,0,1,8,3,6,4,5,7]],[],[]⟩]) (.seq (.reg [⟨[],[(73,(.bin .eql (.sl 13) (.int .i64 9)))],[],none,[2,3,4,8,9,13],2,[],[],[]⟩]) (.cond (.sl 73) (.seq (.reg [⟨[],[(10,(.ld 1 false (.fa 1 (.ia 2 (.ld 1 false (.fa 0 (.sl 3))) (.ld 1 false (.fa 1 (.sl 4)))))))],[],none,[2],8,[],[],[]⟩]) (.reg [⟨[],[(8,(.bin .lss (.sl 10) (.sl 2))),(9,(.bin .add (.bin .sub (.sl 2) (.sl 10)) (.int .i64 1)))],[],none,[],9,[],[],[]⟩])) (.seq (.reg [⟨[],[(89,(.bin .eql (.sl 13) (.int .i64 10)))],[],none,[2,3,4,8,9,13],2,[],[],[]⟩]) (.cond (.sl 89) (.reg [⟨[],[(8,(.bin .gtr (.sl 2) (.int .i64 1))),(9,(.bin .add (.bin .sub (.sl 2) (.int .i64 1)) (.ld 1 false (.fa 1 (.ia 2 (.ld 1 false (.fa 0 (.sl 3))) (.ld 1 false (.fa 1 (.sl 4))))))))],[],none,[],14,[[],[0],[],[2],[],[4],[],[6],[6,7,4,5],[5,4,7,6,8],[8,6,7,4,5,9],[9,5,4,7,6,8,10,2,3],[0,1],[1,0,12,3,2,10,8,6,7,4,5,9,11]],[],[]⟩]) (.seq (.seq (.reg [⟨[],[(103,(.bin .eql (.sl 13) (.int .i64 11)))],[],none,[2,8,9,13],2,[],[],[]⟩]) (.cond (.sl 103) .skip (.seq (.reg [⟨[],[(103,(.bin .eql (.sl 13) (.int .i64 14)))],[],none,[2,8,9,13],2,[],[],[]⟩]) (.cond (.sl 103) .skip (.reg [⟨[],[(103,(.bin .eql (.sl 13) (.int .i64 15)))],[],none,[2,8,9,13],2,[],[],[]⟩]))))) (.cond (.sl 103) (.reg [⟨[],[(8,(.bin .gtr (.sl 2) (.int .i64 1)))],[],none,[9],3,[],[],[]⟩]) (.seq (.reg [⟨[],[(109,(.bin .eql (.sl 13) (.int .i64 17)))],[],none,[2,8,9],2,[],[],[]⟩]) (.cond (.sl 109) (.reg [⟨[],[(8,(.bin .eql (.sl 2) (.int .i64 1)))],[],none,[9],3,[],[],[]⟩]) .skip)))))))))))))))))))))))) (.seq (.reg [⟨[],[(6,(.sl 9)),(7,(.and (.sl 8) (.bin .leq (.sl 9) (.int .i64 8000))))],[],none,[],8,[],[],[]⟩]) (.seq (.tidy 0 [6,7]) .ret))))), [(.sl 6),(.sl 7)],false⟩
theorem j04:q0J Go.Proofs.Tryz.prog 81 0 3 f81=true:=by kernel_rfl
/- 'sloth/code.reach' -/
def f82:Fun:=⟨ (.seq (.reg [⟨[],[],[(.bool false)],none,[0,1,2],1,[],[],[]⟩]) (.seq (.seq (.reg [⟨[],[(11,(.bin .eql (.ld 1 false (.ia 1 (.sl 0) (.sl 1))) (.int .i64 0)))],[],none,[0,1,2],5,[],[],[]⟩]) (.cond (.sl 11) (.reg [⟨[],[],[],some (none,.store 1 (.ia 1 (.sl 0) (.sl 1)) (.sl 2)),[0,1,2],5,[],[],[]⟩]) .skip)) (.seq (.reg [⟨[],[(6,(.bin .eql (.ld 1 false (.ia 1 (.sl 0) (.sl 1))) (.sl 2)))],[],none,[],7,[],[],[]⟩]) (.seq (.tidy 1 [6]) .ret)))), [(.sl 6)],false⟩
theorem j03:q0J Go.Proofs.Tryz.prog 82 1 3 f82=true:=by kernel_rfl
end Go.Vm
end
