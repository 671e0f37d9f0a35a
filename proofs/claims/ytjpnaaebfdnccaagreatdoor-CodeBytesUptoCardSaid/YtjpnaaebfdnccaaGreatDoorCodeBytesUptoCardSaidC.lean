/-
  Parts of the proof: Drawn regions whose pieces overlap: what may be worked out late may be worked out in the next pieces too. Regions that draw, their operations told in another order. Code that passed the check does what the machine says. Functions: what they return. Loops and jumps, by their rounds. The machine's equations, in a form in which simp works from the inside out and stops where a test is open. Typed data in the machine: lists of structures as rows of cells. Maps, in equations for simp. Jumps, in equations. One name for the machine's equations. One name for more of the simp set. Heaps of any size: loops whose blocks are not numbered anew; what is found behind writes. Tables of instructions as typed data. What the functions of packages peep and code come to: plain definitions. The document's answer for one instruction: its numbers, its needs, what lies behind it. The document's writer of codes: bytes behind bytes, names in quotes, numbers in base ten. The machine by reckoning: with so many rounds at the most. What is known of functions over package-level tables, put together of what each one answers. Package strings' Builder: its methods, with all that they leave alone. Package strings' Builder: WriteByte, WriteString, Len, String. Package strings' Builder: String. What the machine knows of a Builder's methods. DERIVED: THE SHELF's CONTRACTS AT THIS DUMP, IN PLAIN WORDS (tools/lay-plain.mjs out of 'TryzShelf.lean', which tools/lay-shelf.mjs wrote): THE SAME DECLARATIONS UNDER THE SAME NAMES: 'import', 'namespace', 'open', 'def', 'theorem' AND NOTHING ELSE: no command of the shelf's: FOR A HAND-IN. Each laying: the table of numbers ('.._ren') and one theorem, a field a fact of the dump's own or the kernel's comparison; each contract: ONE APPLICATION. Package strings' Builder at this program: copyCheck, WriteByte, WriteString. Library functions at this program, told to the reckoning: IndexByte, Count, Itoa, Atoi, strings.Builder. Conditions: none.
-/
import Derived.Test.YtjpnaaebfdnccaaGreatDoorCodeBytesUptoCardSaidB
import Derived.Scope
import Derived.Laws.Sem
import Derived.Test.YtjpnaaebfdnccaaGreatDoorChecked
import Derived.Lib.ItoaNum
import Derived.Shelf.Strings.BuilderK
import Derived.Shelf.Strings.Builder1
import Derived.Shelf.Small.Strs
import Derived.Shelf.LaysM
import Derived.Shelf.Strconv.Itoa3
import Derived.Shelf.Strings.Count
import Derived.Shelf.Strconv.Atoi
import Derived.Test.YtjpnaaebfdnccaaGreatDoorProg
import Derived.Lib.LaidTab
import Derived.Lib.SmallJoins
import Derived.Below
set_option linter.unusedVariables false
set_option linter.unusedSimpArgs false

section
namespace Go.Vm
open Go.RowKit
variable {P:Program}{K:Cx}{n:Nat}{X:Nat→Nat→Prop}{base:Nat}{w0:World}{F0:Nat→Prop}{m0:Nat}{σ0:Nat→Option Loc}{ops:Array Oper}{Q:Exit→Act→World→Prop}
def q8W(g:Seg)(R:List Rec)(is:List Nat):List Nat:=is.filter fun i=>R.any fun r=>r.i==i&&q3Q g.late r
def wrIx(R:List Rec):Option Nat:=(R.find? (·.isWr)).map (·.i)
def z9O(g:Seg)(R:List Rec)(pend:List Nat)(mds:List Nat)(R':List Rec):Bool:=
 R'.all (fun r=>!pend.contains r.i||R.any fun q=>decide (q.i=r.i)&&q3Q g.late q&&decide (r.x=q.x)&&r.ch.isEmpty&&!r.isWr&&!r.isMk)&&g.late.all (E.free mds) &&
 R.all fun q=>!q3Q g.late q||match q.o.dst with
  |some d=>!(g.lets.map (·.1)).contains d&&!g.keep.contains d
  |none=>true
def z9D(tab:List (List Nat))(size k j:Nat):Bool:=(List.range' k (size - k)).all fun x=>(tab.getD x []).contains j
def q19(P:Program)(ops:Array Oper)(n:Nat)(tab:List (List Nat)):List Nat→Nat→List Seg→Bool
 |_,_,[]=>false
 |L,k,[g]=>q9g (tabB tab) P ops n (L++List.range' k g.cnt) g&&(k+g.cnt==ops.size)
 |L,k,g :: g' :: gs=>q9g (tabB tab) P ops n (L++List.range' k g.cnt) g&&match recs (tabB tab) P ops (g.mks.map (·.1)) g.ef n (L++List.range' k g.cnt) [] with
  |none=>false
  |some R=>match wrIx R with
   |none=>(L++List.range' k g.cnt).all (z9D tab ops.size (k+g.cnt))&&q19 P ops n tab [] (k+g.cnt) (g' :: gs)
   |some wi=>z9D tab ops.size (k+g.cnt) wi&&(match recs (tabB tab) P ops (g'.mks.map (·.1)) g'.ef n (q8W g R (L++List.range' k g.cnt)++List.range' (k+g.cnt) g'.cnt) [] with
    |some R'=>z9O g R (q8W g R (L++List.range' k g.cnt)) (g'.mks.map (·.1)) R'
    |none=>false)&&q19 P ops n tab (q8W g R (L++List.range' k g.cnt)) (k+g.cnt) (g' :: gs)
def q51(P:Program)(ops:Array Oper)(n:Nat)(gs:List Seg):Bool:=q19 P ops n (z3E gs) [] 0 gs&&z5y ops.toList (z3E gs)
theorem j30{B:Nat→Nat→Bool}{is is':List Nat}{g g':Seg}{R R':List Rec}{s s1 s' s1' s'':S}{T T':Tr}{news news':List Blk}{l l':List (Nat×V)}{D:Nat→Prop}{a:Act}{w:World}{F:Nat→Prop}{σ:Nat→Option Loc}
  (h:Full (q2E P K ops B n R g s s1 T X base w0 F0 m0 σ0) is g s' news l) (h':Full (q2E P K ops B n R' g' s' s1' T' X base w0 F0 m0 σ0) is' g' s'' news' l')
  (hsame:∀ e∈g.late,ev K s' e=ev K s1 e)
  (hlink:∀ r∈R',D r.i→∃ q∈R,q.i=r.i∧q3Q g.late q=true∧r.x=q.x∧r.ch=[]∧r.isWr=false∧r.isMk=false)
  (hfree:∀ e∈g.late,e.free (g'.mks.map (·.1))=true)
  (hsl:∀ q∈R,q3Q g.late q=true→∀ d,q.o.dst=some d→look s'.rho d=none)
  (hW:Wrt (q2E P K ops B n R g s s1 T X base w0 F0 m0 σ0) g s' D a w F σ):Inv (q2E P K ops B n R' g' s' s1' T' X base w0 F0 m0 σ0) D a w F σ:=by
 have hnx:s'.nx≤s1'.nx:=h'.nx
 have oper:∀ r∈R',∀ q∈R,q.i=r.i→q.o=r.o:=by
  intro r hr q hq he
  have h1:=(h'.ok.good.split hr)
  have h2:=(h.ok.good.split hq)
  obtain⟨_,_,_,g1⟩:=h1
  obtain⟨_,_,_,g2⟩:=h2
  cases g1 with
  |cons _ _ _ e1 _ _ _=>
   cases g2 with
   |cons _ _ _ e2 _ _ _=>
    have e1':ops[r.i]? = some r.o:=e1
    have e2':ops[q.i]? = some q.o:=e2
    rw[he,e1'] at e2'
    exact(Option.some.inj e2').symm
 have nomk:∀ r∈R',D r.i→∀ d,r.o.dst=some d→d∉g'.mks.map (·.1):=by
  intro r hr hD d hd hm
  obtain⟨r2,hr2,hd2,hm2⟩:=h'.ok.covers d hm
  obtain⟨_,_,_,_,_,_,_,hmk⟩:=hlink r hr hD
  by_cases hri:r2.i=r.i
  ·obtain rfl:=h'.ok.good.inj r2 hr2 r hr hri
   rw[hmk] at hm2;cases hm2
  ·exact absurd hd (q5g h'.ok hr2 hr hri hd2)
 refine⟨⟨hW.heap.blk,hW.heap.inj,fun b l hb=>?_,hW.heap.fro⟩,hW.glob,hW.le,hW.frame,hW.frz,hW.size,hW.dfr,fun t v hv hn=>?_,fun r hr hD d hd hwr=>?_,fun d m v n0 nw hT ⟨r,hr,hD,hd⟩=>?_,fun d m v n0 nw hT hn b h1 h2=>?_,hW.stab,hW.sub⟩
 ·obtain⟨o1,o2⟩:=hW.heap.own b l hb
  exact⟨show b<s1'.nx by omega,o2⟩
 ·refine hW.rho t v hv fun q hq hD hd=>?_
  have:=hsl q hq (hW.rest q hq hD) t hd
  have hv':look s'.rho t=some v:=hv
  rw[this] at hv';cases hv'
 ·obtain⟨q,hq,hqi,hql,hx,hch,_,_⟩:=hlink r hr hD
  have ho:=oper r hr q hq hqi
  refine⟨fun _ v hv=>?_,fun hnw=>absurd (by rw[hch];exact fun p hp=>by simp at hp) hnw⟩
  obtain⟨e,hk,hqx,hel,_⟩:=q3g hql
  obtain⟨val,hv1,hv2,_⟩:=h.ended.late e hel _ _ h.ended.mks
  have e1:ev K s1' e=ev K s' e:=by
   have hh:s1'.heap=s'.heap:=h'.ok.s1
   obtain⟨ρ1,H1,n1,u1⟩:=s1'
   obtain⟨ρ2,H2,n2,u2⟩:=s'
   simp only at hh
   subst hh
   exact q4O K ρ2 ρ1 H1 n2 n1 u2 u1 (fun t ht=>h'.ok.old t ht) e (hfree e hel)
  have hv':ev K s1' r.x=some v:=hv
  rw[hx,hqx,e1,hsame e hel] at hv'
  have hv2':ev K s1 e=some val:=hv2
  rw[hv2'] at hv'
  obtain rfl:=Option.some.inj hv'
  exact hW.ldone q hq (by rw[hqi];exact hD) hql d (by rw[ho];exact hd) val (by rw[hqx];exact hv1)
 ·exact absurd ((h'.ok.mds d).2 ⟨m,v,n0,nw,hT⟩) (nomk r hr hD d hd)
 ·have h0:s'.nx≤n0:=(h'.ok.evm d m v n0 nw hT).2.1
  cases hb:σ b with
  |none=>rfl
  |some l=>
   have:=(hW.heap.own b l hb).1
   omega
abbrev Li(listed:Array Bool):Nat→Prop:=fun i=>listed.getD i false=true
theorem q6E{tab:List (List Nat)}(ht:Tab ops tab)(is es:List Nat)(St:(Nat→Prop)→Act→World→Prop)(dom:(Nat→Prop)→Prop)
  (his:∀ i∈is,i<ops.size) (hdom:∀ D i,dom D→i∈is→dom (plus D i))
  (hin:∀ D i,dom D→¬(∀ j∈es,D j)→i<ops.size→¬ D i→(∀ j,tabB tab j i=true→D j)→i∈is) (hes:∀ j∈es,j<ops.size)
  (hstep:∀(D:Nat→Prop) (a:Act) (w:World) (i:Nat) (Kn:Act→World→Prop),i∈is→¬ D i→(∀ q,q<ops.size→D q→∀ p,tabB tab p q=true→D p)→(∀ q,tabB tab q i=true→D q)→St D a w→(∀ a' w',St (plus D i) a' w'→Kn a' w')→wpOp P ops Q i Kn a w)
  (hrest:∀(fuel:Nat) (listed:Array Bool) (a:Act) (w:World),listed.size=ops.size→q1a listed ops.size≤fuel→dom (Li listed)→(∀ i,i<ops.size→Li listed i→∀ j,tabB tab j i=true→Li listed j)→(∀ j∈es,Li listed j)→St (Li listed) a w→wpAny P .any ops Q fuel listed a w) :
  ∀(fuel:Nat) (listed:Array Bool) (a:Act) (w:World),listed.size=ops.size→q1a listed ops.size≤fuel→dom (Li listed)→(∀ i,i<ops.size→Li listed i→∀ j,tabB tab j i=true→Li listed j)→St (Li listed) a w→wpAny P .any ops Q fuel listed a w:=by
 intro fuel
 induction fuel with
 |zero=>
  intro listed a w hsz hfuel hd hdown hs
  have hall:∀ i,i<ops.size→Li listed i:=by
   intro i hi
   cases hl:listed.getD i false with
   |true=>exact hl
   |false=>
    have hm:i∈(List.range ops.size).filter fun i=>!listed.getD i true:=by
     simp only[List.mem_filter,List.mem_range,Bool.not_eq_true']
     exact⟨hi,by rw[q52 listed i hsz hi];exact hl⟩
    have:0<q1a listed ops.size:=List.length_pos_of_mem hm
    omega
  exact hrest 0 listed a w hsz hfuel hd hdown (fun j hj=>hall j (hes j hj)) hs
 |succ fuel ih=>
  intro listed a w hsz hfuel hd hdown hs
  by_cases hall:∀ j∈es,Li listed j
  ·exact hrest (fuel+1) listed a w hsz hfuel hd hdown hall hs
  ·refine⟨fun hr=>absurd (fun j hj=>z5Z ht listed hsz hr j (hes j hj)) hall,fun i hi=>?_⟩
   obtain⟨h1,h2,o,ho,h3⟩:=q5N.1 hi
   rw[q52 listed i hsz h1] at h2
   have hpre:∀ j,tabB tab j i=true→Li listed j:=by
    intro j hj
    simp only[tabB,List.contains_eq_mem,decide_eq_true_eq] at hj
    obtain⟨e,he,h4⟩:=ht.clo i o ho j hj
    rcases h4 with rfl|h4
    ·exact h3 _ he
    ·exact hdown e (by have:=ht.lt i o ho e he;omega) (h3 e he) j (by simpa [tabB] using h4)
   have hnl:¬ Li listed i:=by show ¬(listed.getD i false=true);rw[h2];simp
   have hmi:i∈is:=hin _ i hd hall h1 hnl hpre
   have hlt:i<listed.size:=by omega
   have hset:Li (listed.setIfInBounds i true)=plus (Li listed) i:=by
    funext x
    show((listed.setIfInBounds i true).getD x false=true)=_
    rw[q2V listed i x hlt]
    simp only[plus,Li,eq_iff_iff]
    by_cases hx:x=i <;> simp [hx]
   exact hstep _ a w i (wpAny P .any ops Q fuel (listed.setIfInBounds i true)) hmi hnl (fun q hq hqD p hpq=>hdown q hq hqD p hpq) hpre hs (fun a' w' hs'=>by
     refine ih _ a' w' (by simpa using hsz) ?_ (by rw[hset];exact hdom _ i hd hmi) ?_ (by rw[hset];exact hs')
     ·have:q1a (listed.setIfInBounds i true) ops.size<q1a listed ops.size:=by
       unfold q1a
       have hsub:((List.range ops.size).filter fun x=>!(listed.setIfInBounds i true).getD x true)=((List.range ops.size).filter fun x=>!listed.getD x true).filter fun x=>decide (x≠i):=by
        rw[List.filter_filter]
        refine List.filter_congr fun x _=>?_
        rw[q2V listed i x hlt]
        by_cases hx:x=i
        ·simp [hx]
        ·simp [hx]
       rw[hsub]
       have hm:i∈(List.range ops.size).filter fun i=>!listed.getD i true:=by
        simp only[List.mem_filter,List.mem_range,Bool.not_eq_true']
        exact⟨h1,by rw[q52 listed i hsz h1];exact h2⟩
       exact List.length_filter_lt_length_iff_exists.2 ⟨i,hm,by simp⟩
      omega
     ·intro x hx hxl j hj
      rw[hset] at hxl ⊢
      rcases hxl with hxl|rfl
      ·exact .inl (hdown x hx hxl j hj)
      ·exact .inl (hpre j hj))
theorem z9F{listed:Array Bool}(hsz:listed.size=ops.size)(hall:∀ i,i<ops.size→Li listed i){fuel:Nat}{a:Act}{w:World}(hQ:Q .normal a w):wpAny P .any ops Q fuel listed a w:=by
 have hr:Region.ready .any ops listed=[]:=by
  cases hr:Region.ready .any ops listed with
  |nil=>rfl
  |cons i t=>
   have:i∈Region.ready .any ops listed:=by rw[hr];simp
   obtain⟨h1,h2,_⟩:=q5N.1 this
   rw[q52 listed i hsz h1] at h2
   have:=hall i h1
   simp only[Li] at this
   rw[this] at h2
   cases h2
 cases fuel with
 |zero=>exact⟨hr,hQ⟩
 |succ fuel=>exact⟨fun _=>hQ,fun i hi=>by rw[hr] at hi;simp at hi⟩
theorem q5R{tab:List (List Nat)}:∀(gs:List Seg)(L:List Nat)(k:Nat),q19 P ops n tab L k gs=true→k≤ops.size
 |[],_,_,h=>by simp [q19] at h
 |[g],L,k,h=>by
  simp only[q19,Bool.and_eq_true,beq_iff_eq] at h
  omega
 |g :: g' :: gs,L,k,h=>by
  simp only[q19,Bool.and_eq_true] at h
  obtain⟨_,h⟩:=h
  split at h
  ·cases h
  ·split at h
   ·simp only[Bool.and_eq_true] at h
    have:=q5R (g' :: gs) _ _ h.2
    omega
   ·simp only[Bool.and_eq_true] at h
    have:=q5R (g' :: gs) _ _ h.2
    omega
theorem z95{tab:List (List Nat)}{size k j i:Nat}(h:z9D tab size k j=true)(h1:k≤i)(h2:i<size):tabB tab j i=true:=by
 simp only[z9D,List.all_eq_true] at h
 exact h i (by rw[List.mem_range'_1];omega)
theorem z5s{R:List Rec}{wi:Nat}(h:wrIx R=some wi):∃ r∈R,r.isWr=true∧r.i=wi:=by
 simp only[wrIx,Option.map_eq_some_iff] at h
 obtain⟨r,hr,rfl⟩:=h
 exact⟨r,List.mem_of_find?_eq_some hr,List.find?_some hr,rfl⟩
theorem q7n(hK:K.Sound P){tab:List (List Nat)}(ht:Tab ops tab)(s':S)(hQ:∀ a w F σ,StRel K X base w0 F0 m0 σ0 n s' a w F σ→Q .normal a w):∀(gs:List Seg)(L:List Nat)(k:Nat)(s:S),q19 P ops n tab L k gs=true→q1J K s gs=some s'→
  (∀ j∈L,j<k)→(∀ b blk,look s.heap b=some blk→b<s.nx)→m0≤s.nx→(∀ b k,X b k→b<m0)→
  ∀(fuel:Nat) (listed:Array Bool) (a:Act) (w:World),listed.size=ops.size→q1a listed ops.size≤fuel→(∀ i,i<k→i∉L→Li listed i)→(∀ i,k≤i→¬ Li listed i)→(∀ i,i<ops.size→Li listed i→∀ j,tabB tab j i=true→Li listed j)→
   (∀ g gs',gs=g :: gs'→∀ R s1 T s2 news l,Full (q2E P K ops (tabB tab) n R g s s1 T X base w0 F0 m0 σ0) (L++List.range' k g.cnt) g s2 news l→Stage (q2E P K ops (tabB tab) n R g s s1 T X base w0 F0 m0 σ0) g s2 (Li listed) a w)→
   wpAny P .any ops Q fuel listed a w
 |[],_,_,_,hok,_,_,_,_,_=>by simp [q19] at hok
 |[g],L,k,s,hok,hev,hL,hdm,hnm,hxm=>by
  intro fuel listed a w hsz hfuel hlo hhi hdown hst
  simp only[q19,Bool.and_eq_true,beq_iff_eq] at hok
  obtain⟨hok1,hsize⟩:=hok
  simp only[q1J] at hev
  cases hg:q2G K s g with
  |none=>simp [hg] at hev
  |some s2=>
   simp only[hg,true_or,if_true,Option.some.injEq] at hev
   subst hev
   obtain⟨R,s1,T,news,l,hf⟩:=q4J (X:=X) (base:=base) (w0:=w0) (F0:=F0) (m0:=m0) (σ0:=σ0) hok1 hK hg hdm hnm hxm
   have hmem:∀ q∈R,q.i∈L++List.range' k g.cnt:=fun q hq=>(q1D hf.seg q.i).1 ⟨q,hq,rfl⟩
   have hlt:∀ i∈L++List.range' k g.cnt,i<ops.size:=fun i hi=>by
    rcases List.mem_append.1 hi with h|h
    ·have:=hL i h;omega
    ·rw[List.mem_range'_1] at h;omega
   refine q6E ht (L++List.range' k g.cnt) (L++List.range' k g.cnt) (Stage (q2E P K ops (tabB tab) n R g s s1 T X base w0 F0 m0 σ0) g s2) (fun D=>∀ i,i<k→i∉L→D i) hlt (fun D i hd _ j hj hjL=>.inl (hd j hj hjL))
    (fun D i hd _ hi hD _=>?_) hlt (fun D a w i Kn hi hD hdn hpre hs hKn=>?_) (fun fuel listed a w q1 q2 q3 q4 q5 hs=>?_) fuel listed a w hsz hfuel hlo hdown (hst g [] rfl R s1 T s2 news l hf)
   ·rcases Nat.lt_or_ge i k with h|h
    ·by_cases hiL:i∈L
     ·exact List.mem_append_left _ hiL
     ·exact absurd (hd i h hiL) hD
    ·exact List.mem_append_right _ (by rw[List.mem_range'_1];omega)
   ·obtain⟨r,hr,rfl⟩:=(q1D hf.seg i).2 hi
    exact q4Z hf hs hr hD (fun q hq hqD p hp hpq=>hdn q.i (hlt _ (hmem q hq)) hqD p.i hpq) (fun q hq hqr=>hpre q.i hqr) hKn
   ·obtain⟨F,σ,hst2⟩:=q5B hf hs (fun r hr=>q5 r.i (hmem r hr))
    refine z9F q1 (fun i hi=>?_) (hQ a w F σ hst2)
    by_cases h:i∈L++List.range' k g.cnt
    ·exact q5 i h
    ·refine q3 i ?_ (fun hiL=>h (List.mem_append_left _ hiL))
     rcases Nat.lt_or_ge i k with h2|h2
     ·exact h2
     ·exact absurd (List.mem_append_right _ (by rw[List.mem_range'_1];omega)) h
 |g :: g' :: gs,L,k,s,hok,hev,hL,hdm,hnm,hxm=>by
  intro fuel listed a w hsz hfuel hlo hhi hdown hst
  simp only[q19,Bool.and_eq_true] at hok
  obtain⟨hok1,hok⟩:=hok
  simp only[q1J] at hev
  cases hg:q2G K s g with
  |none=>simp [hg] at hev
  |some s2=>
   simp only[hg,reduceCtorEq,false_or] at hev
   split at hev
   case isFalse=>cases hev
   rename_i hsame
   obtain⟨R,s1,T,news,l,hf⟩:=q4J (X:=X) (base:=base) (w0:=w0) (F0:=F0) (m0:=m0) (σ0:=σ0) hok1 hK hg hdm hnm hxm
   have hrec:recs (tabB tab) P ops (g.mks.map (·.1)) g.ef n (L++List.range' k g.cnt) []=some R:=hf.seg.recs
   rw[hrec] at hok
   simp only at hok
   have hmem:∀ q∈R,q.i∈L++List.range' k g.cnt:=fun q hq=>(q1D hf.seg q.i).1 ⟨q,hq,rfl⟩
   have hkc:k+g.cnt≤ops.size:=by
    split at hok
    ·simp only[Bool.and_eq_true] at hok
     exact q5R _ _ _ hok.2
    ·simp only[Bool.and_eq_true] at hok
     exact q5R _ _ _ hok.2
   have hlt0:∀ i∈L++List.range' k g.cnt,i<k+g.cnt:=fun i hi=>by
    rcases List.mem_append.1 hi with h|h
    ·have:=hL i h;omega
    ·rw[List.mem_range'_1] at h;omega
   have hlt:∀ i∈L++List.range' k g.cnt,i<ops.size:=fun i hi=>Nat.lt_of_lt_of_le (hlt0 i hi) hkc
   obtain⟨hdm2,hnm2⟩:(∀ b blk,look s2.heap b=some blk→b<s2.nx)∧s.nx≤s2.nx:=by
    have hd1:=z2j hf
    have hn1:=hf.nx
    rcases hf.ended.wr with⟨_,he⟩|⟨d,wr,hw,_,he⟩|⟨d,wr,H,v,p,nx,hw,_,hev',he⟩
    ·subst he;exact⟨hd1,hn1⟩
    ·subst he;exact⟨hd1,hn1⟩
    ·subst he
     obtain⟨h1,h2⟩:=z2S hev' hd1
     exact⟨fun b blk hb=>by obtain⟨y,hy⟩:=q8V _ _ _ _ hb;exact h1 b y hy,Nat.le_trans hn1 h2⟩
   have hstep:∀(D:Nat→Prop) (a:Act) (w:World) (i:Nat) (Kn:Act→World→Prop),i∈L++List.range' k g.cnt→¬ D i→(∀ q,q<ops.size→D q→∀ p,tabB tab p q=true→D p)→(∀ q,tabB tab q i=true→D q)→
     Stage (q2E P K ops (tabB tab) n R g s s1 T X base w0 F0 m0 σ0) g s2 D a w→(∀ a' w',Stage (q2E P K ops (tabB tab) n R g s s1 T X base w0 F0 m0 σ0) g s2 (plus D i) a' w'→Kn a' w')→wpOp P ops Q i Kn a w:=fun D a w i Kn hi hD hdn hpre hs hKn=>by
    obtain⟨r,hr,rfl⟩:=(q1D hf.seg i).2 hi
    exact q4Z hf hs hr hD (fun q hq hqD p hp hpq=>hdn q.i (hlt _ (hmem q hq)) hqD p.i hpq) (fun q hq hqr=>hpre q.i hqr) hKn
   have hdom:∀(D:Nat→Prop) i,((∀ i,i<k→i∉L→D i)∧∀ i,k+g.cnt≤i→¬ D i)→i∈L++List.range' k g.cnt→(∀ j,j<k→j∉L→plus D i j)∧∀ j,k+g.cnt≤j→¬ plus D i j:=fun D i hd hi=>⟨fun j hj hjL=>.inl (hd.1 j hj hjL),fun j hj=>by
    rintro(h|rfl)
    ·exact hd.2 j hj h
    ·have:=hlt0 _ hi;omega⟩
   have hinn:∀(D:Nat→Prop) i,((∀ i,i<k→i∉L→D i)∧∀ i,k+g.cnt≤i→¬ D i)→¬ D i→i<k+g.cnt→i∈L++List.range' k g.cnt:=fun D i hd hD hi=>by
    rcases Nat.lt_or_ge i k with h|h
    ·by_cases hiL:i∈L
     ·exact List.mem_append_left _ hiL
     ·exact absurd (hd.1 i h hiL) hD
    ·exact List.mem_append_right _ (by rw[List.mem_range'_1];omega)
   have h0:(∀ i,i<k→i∉L→Li listed i)∧∀ i,k+g.cnt≤i→¬ Li listed i:=⟨hlo,fun i hi=>hhi i (by omega)⟩
   cases hwi:wrIx R with
   |none=>
    simp only[hwi,Bool.and_eq_true,List.all_eq_true] at hok
    obtain⟨hbar,hok2⟩:=hok
    refine q6E ht (L++List.range' k g.cnt) (L++List.range' k g.cnt) (Stage (q2E P K ops (tabB tab) n R g s s1 T X base w0 F0 m0 σ0) g s2) (fun D=>(∀ i,i<k→i∉L→D i)∧∀ i,k+g.cnt≤i→¬ D i) hlt hdom
     (fun D i hd hne hi hD hpre=>?_) hlt hstep (fun fuel listed a w q1 q2 q3 q4 q5 hs=>?_) fuel listed a w hsz hfuel h0 hdown (hst g _ rfl R s1 T s2 news l hf)
    ·rcases Nat.lt_or_ge i (k+g.cnt) with h|h
     ·exact hinn D i hd hD h
     ·exact absurd (fun j hj=>hpre j (z95 (hbar j hj) h hi)) hne
    ·obtain⟨F,σ,hst2⟩:=q5B hf hs (fun r hr=>q5 r.i (hmem r hr))
     refine q7n hK ht s' hQ (g' :: gs) [] (k+g.cnt) s2 hok2 hev (fun j hj=>by simp at hj) hdm2 (Nat.le_trans hnm hnm2) hxm fuel listed a w q1 q2 (fun i hi _=>?_) q3.2 q4 (fun g1 gs1 he R' s1' T' s3 news' l' hf'=>?_)
     ·by_cases h:i∈L++List.range' k g.cnt
      ·exact q5 i h
      ·exact Classical.byContradiction fun hD=>h (hinn _ i q3 hD hi)
     ·refine(q1Q (P:=P) (ops:=ops) (B:=tabB tab) (R:=R') (s':=s3) hf'.traced hst2).congr (fun r hr=>?_)
      have hri:=(q1D hf'.seg r.i).1 ⟨r,hr,rfl⟩
      rw[List.nil_append,List.mem_range'_1] at hri
      exact⟨fun h=>h.elim,fun h=>q3.2 r.i hri.1 h⟩
   |some wi=>
    simp only[hwi,Bool.and_eq_true] at hok
    obtain⟨⟨hbar,hlk⟩,hok2⟩:=hok
    obtain⟨rw0,hrw,hrww,hrwi⟩:=z5s hwi
    refine q6E ht (L++List.range' k g.cnt) [wi] (Stage (q2E P K ops (tabB tab) n R g s s1 T X base w0 F0 m0 σ0) g s2) (fun D=>(∀ i,i<k→i∉L→D i)∧∀ i,k+g.cnt≤i→¬ D i) hlt hdom
     (fun D i hd hne hi hD hpre=>?_) (fun j hj=>?_) hstep (fun fuel listed a w q1 q2 q3 q4 q5 hs=>?_) fuel listed a w hsz hfuel h0 hdown (hst g _ rfl R s1 T s2 news l hf)
    ·rcases Nat.lt_or_ge i (k+g.cnt) with h|h
     ·exact hinn D i hd hD h
     ·refine absurd (fun j hj=>?_) hne
      obtain rfl:j=wi:=by simpa using hj
      exact hpre j (z95 hbar h hi)
    ·obtain rfl:j=wi:=by simpa using hj
     rw[←hrwi]
     exact hlt _ (hmem rw0 hrw)
    ·have hwD:Li listed wi:=q5 wi (by simp)
     rcases hs with⟨hno,_⟩|⟨_,F,σ,hW⟩
     ·have:=hno rw0 hrw (by rw[hrwi];exact hwD)
      rw[hrww] at this;cases this
     ·refine q7n hK ht s' hQ (g' :: gs) (q8W g R (L++List.range' k g.cnt)) (k+g.cnt) s2 hok2 hev (fun j hj=>hlt0 j (List.mem_filter.1 hj).1) hdm2 (Nat.le_trans hnm hnm2) hxm fuel listed a w q1 q2 (fun i hi hnp=>?_) q3.2 q4 (fun g1 gs1 he R' s1' T' s3 news' l' hf'=>?_)
      ·refine Classical.byContradiction fun hD=>?_
       have hmi:=hinn _ i q3 hD hi
       obtain⟨r,hr,rfl⟩:=(q1D hf.seg i).2 hmi
       have hl:=hW.rest r hr hD
       refine hnp (List.mem_filter.2 ⟨hmi,?_⟩)
       simp only[List.any_eq_true]
       exact⟨r,hr,by simp [hl]⟩
      ·obtain⟨rfl,rfl⟩:=List.cons.inj he
       have hrec':recs (tabB tab) P ops (g'.mks.map (·.1)) g'.ef n (q8W g R (L++List.range' k g.cnt)++List.range' (k+g.cnt) g'.cnt) []=some R':=hf'.seg.recs
       rw[hrec'] at hlk
       simp only[z9O,Bool.and_eq_true,List.all_eq_true] at hlk
       obtain⟨⟨hl1,hl2⟩,hl3⟩:=hlk
       have hpend:∀ r∈R',Li listed r.i→r.i∈q8W g R (L++List.range' k g.cnt):=fun r hr hD=>by
        rcases List.mem_append.1 ((q1D hf'.seg r.i).1 ⟨r,hr,rfl⟩) with h|h
        ·exact h
        ·rw[List.mem_range'_1] at h
         exact absurd hD (q3.2 r.i h.1)
       have hlink:∀ r∈R',Li listed r.i→∃ q∈R,q.i=r.i∧q3Q g.late q=true∧r.x=q.x∧r.ch=[]∧r.isWr=false∧r.isMk=false:=fun r hr hD=>by
        have:=hl1 r hr
        simp only[Bool.or_eq_true,Bool.not_eq_true',List.any_eq_true,Bool.and_eq_true,decide_eq_true_eq,List.isEmpty_iff] at this
        rcases this with h|⟨q,hq,⟨⟨⟨⟨h1,h2⟩,h3⟩,h4⟩,h5⟩,h6⟩
        ·have h':=hpend r hr hD
         rw[List.contains_eq_mem,decide_eq_false_iff_not] at h
         exact absurd h' h
        ·exact⟨q,hq,h1,h2,h3,h4,h5,h6⟩
       refine .inl ⟨fun r hr hD=>(hlink r hr hD).choose_spec.2.2.2.2.2.1,F,σ,j30 hf hf' (fun e he'=>(hsame.resolve_left (by simp)) e he' _ _ hf.ended.mks) hlink hl2 (fun q hq hql d hd=>?_) hW⟩
       -- the slot of a late one is not known behind the piece
       have h3:=hl3 q hq
       simp only[hql,Bool.not_true,Bool.false_or,hd,Bool.and_eq_true,Bool.not_eq_true',List.contains_eq_mem,decide_eq_false_iff_not] at h3
       obtain⟨h4,h5⟩:=h3
       have hnone:look (l++q0j s1.rho g.keep) d=none:=by
        cases hh:look (l++q0j s1.rho g.keep) d with
        |none=>rfl
        |some u=>
         rw[q4k] at hh
         cases hll:look l d with
         |some u2=>
          obtain⟨e2,he2,_⟩:=(q3k _ _ _ _ hf.ended.lets).1 d u2 hll
          exact absurd (List.mem_map.2 ⟨_,he2,rfl⟩) h4
         |none=>
          rw[hll] at hh
          exact absurd (q1g _ _ _ _ hh).1 h5
       have hlose:∀ p:Lost,look (lose p (l++q0j s1.rho g.keep)) d=none:=fun p=>by
        cases hh:look (lose p (l++q0j s1.rho g.keep)) d with
        |none=>rfl
        |some u=>
         obtain⟨y,hy,_⟩:=q7R _ _ _ _ hh
         rw[hnone] at hy;cases hy
       rcases hf.ended.wr with⟨_,he2⟩|⟨d0,wr,hw0,_,he2⟩|⟨d0,wr,H,v,p,nx,hw0,_,_,he2⟩
       ·subst he2;exact hnone
       ·subst he2;exact hnone
       ·subst he2
        cases d0 with
        |none=>exact hlose p
        |some d0=>
         simp only[look]
         split
         ·rename_i hdd
          subst hdd
          rcases hf.seg.wr with⟨_,hn0⟩|⟨r0,x0,hr0,hk0,hg0,_⟩
          ·rw[hn0] at hw0;cases hw0
          ·rw[hg0] at hw0
           simp only[Option.some.injEq,Prod.mk.injEq] at hw0
           have hqr:q.i≠r0.i:=fun e=>by
            obtain rfl:=hf.ok.good.inj q hq r0 hr0 e
            obtain⟨_,hkk,_⟩:=q3g hql
            rw[hk0] at hkk;cases hkk
           exact absurd hw0.1 (q5g hf.ok hq hr0 hqr hd)
         ·exact hlose p
theorem q9H{id:Nat}{gs:List Seg}{s s':S}{a:Act}{w:World}{F:Nat→Prop}{σ:Nat→Option Loc}(hm:P.follows .mixedOrders=true)(hK:K.Sound P)(hok:q51 P ops n gs=true)(hev:q1J K s gs=some s')(hst:StRel K X base w0 F0 m0 σ0 n s a w F σ)
  (hQ:∀ a w F σ,StRel K X base w0 F0 m0 σ0 n s' a w F σ→Q .normal a w):(Code.region id ops true).wp P Q a w:=by
 simp only[q51,Bool.and_eq_true] at hok
 refine wp_region_any hm ?_
 have hno:∀ i,(Array.replicate ops.size false).getD i false=false:=by
  intro i
  simp only[Array.getD_eq_getD_getElem?,Array.getElem?_replicate]
  split <;> rfl
 refine q7n hK (z2p hok.2) s' hQ gs [] 0 s hok.1 hev (fun j hj=>by simp at hj) hst.dom hst.nxm hst.xm ops.size _ a _ (by simp) ?_ (fun i hi=>by omega) (fun i _ h=>by simp only[Li] at h;rw[hno] at h;cases h) (fun i _ h=>by simp only[Li] at h;rw[hno] at h;cases h) (fun g gs' he R s1 T s2 news l hf=>?_)
 ·unfold q1a
  refine Nat.le_trans (List.length_filter_le _ _) ?_
  simp
 ·refine(q1Q (P:=P) (ops:=ops) (B:=tabB (z3E gs)) (R:=R) (s':=s2) hf.traced (hst.drawn _)).congr (fun r hr=>?_)
  exact⟨fun h=>h.elim,fun h=>by simp only[Li] at h;rw[hno] at h;cases h⟩
end Go.Vm
end

section
namespace Go.Vm
open Go.RowKit
variable {P:Program}{K:Cx}{n:Nat}{X:Nat→Nat→Prop}{base:Nat}{w0:World}{F0:Nat→Prop}{m0:Nat}{σ0:Nat→Option Loc}{ops:Array Oper}{Q:Exit→Act→World→Prop}
def q7G(π:List Nat)(o:Oper):Oper:={ o with after:=o.after.map fun e=>{ e with on:=π.idxOf e.on } }
def q3N(π:List Nat)(ops:Array Oper):Array Oper:=(π.map fun i=>q7G π ((ops[i]?).getD default)).toArray
def z5S(π:List Nat)(ops:Array Oper):Bool:=decide (π.length=ops.size)&&decide (π.Nodup)&&π.all (fun i=>decide (i<ops.size))&&(List.range ops.size).all (fun i=>π.contains i)&&ops.toList.all fun o=>o.guard.isNone
theorem q86(π:List Nat)(o:Oper):q3S (q7G π o)=(q3S o).map π.idxOf:=by
 unfold q3S q7G
 simp only[Array.toList_map]
 induction o.after.toList with
 |nil=>rfl
 |cons e l ih=>
  simp only[List.map_cons,List.filter_cons]
  have hb:Region.binds .any ({ e with on:=π.idxOf e.on }:Edge)=Region.binds .any e:=rfl
  rw[hb]
  split
  ·simp only[List.map_cons,ih]
  ·exact ih
theorem j0M(π:List Nat)(o:Oper)(a:Act)(w:World)(Kn:Act→World→Prop):(q7G π o).wp P a w Kn Q↔o.wp P a w Kn Q:=Iff.rfl
structure Perm(π:List Nat)(ops:Array Oper):Prop where
 len:π.length=ops.size
 nd:π.Nodup
 mem:∀ i,i∈π↔i<ops.size
 gd:∀(i:Nat) (o:Oper),ops[i]? = some o→o.guard=none
theorem j0J{π:List Nat}(h:z5S π ops=true):Perm π ops:=by
 simp only[z5S,Bool.and_eq_true,decide_eq_true_eq,List.all_eq_true,List.contains_eq_mem,List.mem_range,Option.isNone_iff_eq_none] at h
 obtain⟨⟨⟨⟨h1,h2⟩,h3⟩,h4⟩,h5⟩:=h
 refine⟨h1,h2,fun i=>⟨h3 i,fun hi=>by simpa using h4 i hi⟩,fun i o ho=>h5 o ?_⟩
 exact Array.mem_toList_iff.2 (Array.mem_of_getElem? ho)
theorem q7C{π:List Nat}(h:Perm π ops):(q3N π ops).size=ops.size:=by simp [q3N,h.len]
theorem z6x{π:List Nat}(h:Perm π ops){i:Nat}(hi:i<ops.size):π.idxOf i<ops.size:=by
 rw[←h.len];exact List.idxOf_lt_length_of_mem ((h.mem i).2 hi)
theorem j2H{π:List Nat}(h:Perm π ops){i:Nat}(hi:¬ i<ops.size):π.idxOf i=ops.size:=by
 rw[←h.len];exact List.idxOf_eq_length (fun hm=>hi ((h.mem i).1 hm))
theorem q9i{π:List Nat}(h:Perm π ops){i:Nat}{o:Oper}(ho:ops[i]? = some o):(q3N π ops)[π.idxOf i]? = some (q7G π o):=by
 have hi:i<ops.size:=(Array.getElem?_eq_some_iff.1 ho).1
 have hm:=(h.mem i).2 hi
 have hg:π[π.idxOf i]? = some i:=by
  rw[List.getElem?_eq_getElem (List.idxOf_lt_length_of_mem hm)]
  simp
 simp only[q3N,List.getElem?_toArray,List.getElem?_map,hg,Option.map_some,ho,Option.getD_some]
theorem z3P{bs:List Nat}(hn:bs.Nodup){i b:Nat}(h:bs[i]? = some b):bs.idxOf b=i:=by
 obtain⟨hi,rfl⟩:=List.getElem?_eq_some_iff.1 h
 exact hn.idxOf_getElem i hi
theorem q8P{π:List Nat}(h:Perm π ops){la lb:Array Bool}(ha:la.size=ops.size)(hb:lb.size=ops.size)(hl:∀ i,la.getD i false=lb.getD (π.idxOf i) false){i:Nat}(hi:i∈Region.ready .any ops la):π.idxOf i∈Region.ready .any (q3N π ops) lb:=by
 rw[q5N] at hi ⊢
 obtain⟨h1,h2,o,h3,h4⟩:=hi
 have hk:=z6x h h1
 refine⟨by rw[q7C h];exact hk,?_,_,q9i h h3,?_⟩
 ·have e1:lb.getD (π.idxOf i) true=lb.getD (π.idxOf i) false:=q52 lb (π.idxOf i) hb hk
  rw[e1,←hl,←q52 la i ha h1]
  exact h2
 ·rw[q86]
  intro j hj
  obtain⟨j0,hj0,rfl⟩:=List.mem_map.1 hj
  rw[←hl]
  exact h4 j0 hj0
theorem z8u{π:List Nat}(h:Perm π ops):∀(fuel:Nat)(la lb:Array Bool)(a:Act)(w:World),la.size=ops.size→lb.size=ops.size→(∀ i,la.getD i false=lb.getD (π.idxOf i) false)→
  wpAny P .any (q3N π ops) Q fuel lb a w→wpAny P .any ops Q fuel la a w:=by
 have none_of:∀ {la lb:Array Bool},la.size=ops.size→lb.size=ops.size→(∀ i,la.getD i false=lb.getD (π.idxOf i) false)→Region.ready .any ops la=[]→Region.ready .any (q3N π ops) lb=[]:=by
  intro la lb ha hb hl h0
  refine List.eq_nil_iff_forall_not_mem.2 fun k hk=>?_
  rw[q5N] at hk
  obtain⟨k1,k2,o',k3,k4⟩:=hk
  rw[q7C h] at k1
  have hkm:k<π.length:=by rw[h.len];exact k1
  have hik:π.idxOf π[k]=k:=z3P h.nd (List.getElem?_eq_getElem hkm)
  have hi:π[k]<ops.size:=(h.mem _).1 (List.getElem_mem hkm)
  have ho:=Array.getElem?_eq_getElem hi
  have hg:=q9i h ho
  rw[hik,k3] at hg
  obtain rfl:=Option.some.inj hg
  have:π[k]∈Region.ready .any ops la:=by
   rw[q5N]
   refine⟨hi,?_,_,ho,fun j hj=>?_⟩
   ·rw[q52 la _ ha hi,hl,hik,←q52 lb k hb k1];exact k2
   ·rw[hl]
    refine k4 _ ?_
    rw[q86]
    exact List.mem_map.2 ⟨j,hj,rfl⟩
  rw[h0] at this
  cases this
 intro fuel
 induction fuel with
 |zero=>
  intro la lb a w ha hb hl hw
  obtain⟨h1,h2⟩:=hw
  refine⟨List.eq_nil_iff_forall_not_mem.2 fun i hi=>?_,h2⟩
  have:=q8P h ha hb hl hi
  rw[h1] at this
  cases this
 |succ fuel ih=>
  intro la lb a w ha hb hl hw
  obtain⟨h1,h2⟩:=hw
  refine⟨fun h0=>h1 (none_of ha hb hl h0),fun i hi=>?_⟩
  have hk:=h2 _ (q8P h ha hb hl hi)
  rw[q5N] at hi
  obtain⟨q1,_,o,q3,_⟩:=hi
  have step:∀ a w,wpAny P .any (q3N π ops) Q fuel (lb.setIfInBounds (π.idxOf i) true) a w→wpAny P .any ops Q fuel (la.setIfInBounds i true) a w:=by
   intro a w hw
   refine ih _ _ a w (by simp [ha]) (by simp [hb]) (fun j=>?_) hw
   rw[q2V la i j (by omega) false,q2V lb (π.idxOf i) (π.idxOf j) (by rw[hb];exact z6x h q1) false,hl]
   by_cases hj:j=i
   ·subst hj;simp
   ·rw[if_neg hj]
    by_cases hjs:j<ops.size
    ·rw[if_neg]
     intro he
     have e1:π[π.idxOf j]'(List.idxOf_lt_length_of_mem ((h.mem j).2 hjs))=j:=by simp
     have e2:π[π.idxOf i]'(List.idxOf_lt_length_of_mem ((h.mem i).2 q1))=i:=by simp
     apply hj
     rw[←e1,←e2]
     congr 1
    ·rw[if_neg]
     intro he
     rw[j2H h hjs] at he
     have:=z6x h q1
     omega
  unfold wpOp at hk ⊢
  rw[q9i h q3] at hk
  rw[q3]
  have hg:=h.gd i o q3
  have w1:∀ y,Region.wanted (q7G π o) y=true:=fun y=>by
   have:(q7G π o).guard=none:=hg
   simp [Region.wanted,this]
  have w2:∀ y,Region.wanted o y=true:=fun y=>by simp [Region.wanted,hg]
  simp only[w1,w2,if_true] at hk ⊢
  exact hk.imp (fun h=>Oper.wp_mono step ((j0M π o a w _).1 h)) (fun h=>h)
def q9J(P:Program)(ops:Array Oper)(n:Nat)(π:List Nat)(gs:List Seg):Bool:=z5S π ops&&q51 P (q3N π ops) n gs
theorem z4r{π:List Nat}{gs:List Seg}{s s':S}{a:Act}{w:World}{F:Nat→Prop}{σ:Nat→Option Loc}(hK:K.Sound P)(hok:q9J P ops n π gs=true)(hev:q1J K s gs=some s')(hst:StRel K X base w0 F0 m0 σ0 n s a w F σ)
  (hQ:∀ a w F σ,StRel K X base w0 F0 m0 σ0 n s' a w F σ→Q .normal a w):wpAny P .any ops Q ops.size (Array.replicate ops.size false) a { w with drawn:=w.drawn+1 }:=by
 simp only[q9J,q51,Bool.and_eq_true] at hok
 obtain⟨hpm,hok⟩:=hok
 have hp:=j0J hpm
 refine z8u hp ops.size _ (Array.replicate ops.size false) a _ (by simp) (by simp) (fun i=>?_) ?_
 ·simp only[Array.getD_eq_getD_getElem?,Array.getElem?_replicate]
  split <;> split <;> rfl
 have hsz:=q7C hp
 generalize q3N π ops=ops' at hok hsz
 rw[←hsz]
 have hno:∀ i,(Array.replicate ops'.size false).getD i false=false:=by
  intro i
  simp only[Array.getD_eq_getD_getElem?,Array.getElem?_replicate]
  split <;> rfl
 refine q7n (ops:=ops') hK (z2p hok.2) s' hQ gs [] 0 s hok.1 hev (fun j hj=>by simp at hj) hst.dom hst.nxm hst.xm ops'.size _ a _ (by simp) ?_ (fun i hi=>by omega) (fun i _ h=>by simp only[Li] at h;rw[hno] at h;cases h) (fun i _ h=>by simp only[Li] at h;rw[hno] at h;cases h) (fun g gs' he R s1 T s2 news l hf=>?_)
 ·unfold q1a
  refine Nat.le_trans (List.length_filter_le _ _) ?_
  simp
 ·refine(q1Q (P:=P) (ops:=ops') (B:=tabB (z3E gs)) (R:=R) (s':=s2) hf.traced (hst.drawn _)).congr (fun r hr=>?_)
  exact⟨fun h=>h.elim,fun h=>by simp only[Li] at h;rw[hno] at h;cases h⟩
end Go.Vm
end

section
namespace Go.Vm
open Go.RowKit
variable {P:Program}{K:Cx}{n:Nat}{X:Nat→Nat→Prop}{base:Nat}{w0:World}{F0:Nat→Prop}{m0:Nat}{σ0:Nat→Option Loc}{Q:Exit→Act→World→Prop}
def one:List Seg→Option Seg
 |[g]=>some g
 |_=>none
def chk(P:Program)(m n:Nat):C→Code→Bool
 |.stuck,_=>true
 |.skip,.skip=>true
 |.reg l,.region _ ops draw=>if draw then z18 P ops n l else q5A P ops n 0 l
 |.seq (.tidy m' _) b,c=>m'==m&&chk P m n b c
 |.seq (.own t _) b,c=>decide (t<n)&&chk P m n b c
 |.seq (.keep _) b,c=>chk P m n b c
 |.seq (.frz m' _ _) b,c=>(m'==m)&&chk P m n b c
 |.seq (.ownc _ _ _) b,c=>chk P m n b c
 |.regl l,.region _ ops draw=>draw&&q51 P ops n l
 |.regp π l,.region _ ops draw=>draw&&q9J P ops n π l
 |.regg m' l,.region _ ops draw=>(m'==m)&&if draw then q9K P ops n l else q4c P ops n 0 l
 |.seq a b,.seq x y=>chk P m n a x&&chk P m n b y
 |.cond e a b,.cond c x y=>decide (q0q P [] 0 c=some e)&&chk P m n a x&&chk P m n b y
 |.block id c,.block id' x=>id==id'&&chk P m n c x
 |.loop c,.loop x=>chk P m n c x
 |.exit id,.exit id'=>id==id'
 |.scope c ls,.scope x=>chk P m n c x&&chk P m n ls x
 |.lnil,_=>true
 |.lcons l c ls,x=>(match findLabel x l with|some rest=>chk P m n c rest|none=>false)&&chk P m n ls x
 |.label l,.label l'=>l==l'
 |.goto l,.goto l'=>l==l'
 |.ret,.ret=>true
 |_,_=>false
def Ex.to:Ex→Exit
 |.nrm=>.normal
 |.exit id=>.exit id
 |.goto l=>.goto l
 |.ret=>.ret
def Post(K:Cx)(X:Nat→Nat→Prop)(base:Nat)(w0:World)(F0:Nat→Prop)(m0:Nat)(σ0:Nat→Option Loc)(n:Nat)(r:Ex×S)(e:Exit)(a:Act)(w:World):Prop:=
 e=r.1.to∧∃ F σ,StRel K X base w0 F0 m0 σ0 n r.2 a w F σ
theorem z50{bs:List Nat}(hn:bs.Nodup){i b:Nat}(h:bs[i]? = some b):bs.idxOf b=i:=by
 obtain⟨hi,rfl⟩:=List.getElem?_eq_some_iff.1 h
 exact hn.idxOf_getElem i hi
theorem q7Q(H:List (Nat×Blk))(bs0:List Nat):∀(bs:List Nat)(k i:Nat)(x:Blk),look ((bs.zipIdx k).filterMap fun p=>(look H p.1).map fun blk=>(p.2,blk.ren bs0.idxOf)) i=some x→k≤i∧∃ b x0,bs[i - k]? = some b∧look H b=some x0∧x=x0.ren bs0.idxOf
 |[],k,i,x,h=>by simp [look] at h
 |b :: bs,k,i,x,h=>by
  simp only[List.zipIdx_cons,List.filterMap_cons] at h
  have rest:look ((bs.zipIdx (k+1)).filterMap fun p=>(look H p.1).map fun blk=>(p.2,blk.ren bs0.idxOf)) i=some x→k≤i∧∃ b' x0,(b :: bs)[i - k]? = some b'∧look H b'=some x0∧x=x0.ren bs0.idxOf:=by
   intro h
   obtain⟨h1,b',x0,h2,h3,h4⟩:=q7Q H bs0 bs (k+1) i x h
   refine⟨by omega,b',x0,?_,h3,h4⟩
   have:i - k=(i - (k+1))+1:=by omega
   rw[this,List.getElem?_cons_succ]
   exact h2
  cases hb:look H b with
  |none=>
   simp only[hb,Option.map_none] at h
   exact rest h
  |some x0=>
   simp only[hb,Option.map_some,look] at h
   split at h
   ·rename_i he
    subst he
    exact⟨Nat.le_refl _,b,x0,by simp,hb,(Option.some.inj h).symm⟩
   ·exact rest h
theorem StRel.tidy{s s':S}{a:Act}{w:World}{F:Nat→Prop}{σ:Nat→Option Loc}{slots:List Nat}(ht:q6Z m0 slots s=some s')(h:StRel K X base w0 F0 m0 σ0 n s a w F σ):∃ σ',StRel K X base w0 F0 m0 σ0 n s' a w F σ':=by
 unfold q6Z at ht
 simp only at ht
 split at ht
 case isFalse=>cases ht
 rename_i hc
 obtain rfl:=Option.some.inj ht
 generalize hbs:q1N s.heap (refN s.heap+64) [] (List.range m0++refsL ((q0j s.rho slots).map (·.2)))=bs at hc
 simp only[Bool.and_eq_true,decide_eq_true_eq,List.all_eq_true] at hc
 obtain⟨⟨⟨hnd,hpre⟩,hwi⟩,hcl⟩:=hc
 simp only[closedB,List.all_eq_true] at hcl
 have hF:∀ b,F b→F b∧w.heap[b]? = w.heap[b]?:=fun b hb=>⟨hb,rfl⟩
 have hσ:∀ b l,bs.contains b=true→σ b=some l→inn bs σ (bs.idxOf b)=some l:=fun b l h1 h2=>by rw[z1N (by simpa using h1)];exact h2
 refine⟨inn bs σ,⟨fun i x hx=>?_,fun i j l l' h1 h2 he=>?_,fun i l hi=>?_,h.heap.fro⟩,h.glob,h.le,h.frame,h.frz,h.size,h.dfr,fun t v hv=>?_,fun i x hx=>?_,fun b l hb h0 hm=>?_,?_,h.xm,h.sub⟩
 ·obtain⟨_,b,x0,h1,h2,rfl⟩:=q7Q s.heap bs bs 0 i x hx
  rw[Nat.sub_zero] at h1
  have hσi:inn bs σ i=σ b:=by unfold inn;rw[h1]
  have hb:=hcl b (List.mem_of_getElem? h1)
  rw[h2] at hb
  exact(h.heap.blk b x0 h2).ren (w':=w) (F':=F) (p:=bs.contains) hF (fun _ _ h=>h) hσ hb (fun l hl=>by rw[hσi];exact hl) (fun hl=>by rw[hσi];exact hl) (fun _ _=>rfl)
 ·obtain⟨b,hb1,h3⟩:=q2q h1
  obtain⟨b',hb2,h4⟩:=q2q h2
  obtain rfl:=h.heap.inj b b' l l' h3 h4 he
  exact(List.getElem?_inj (List.getElem?_eq_some_iff.1 hb1).1 hnd).1 (hb1.trans hb2.symm)
 ·obtain⟨b,hb1,h3⟩:=q2q hi
  obtain⟨_,o2,o3,o4⟩:=h.heap.own b l h3
  refine⟨(List.getElem?_eq_some_iff.1 hb1).1,o2,o3.imp id (fun hx=>?_),o4⟩
  have hbm:=h.xm b _ hx
  have:bs[b]? = some b:=by
   have:(bs.take m0)[b]? = some b:=by rw[hpre];simp [hbm]
   simpa [List.getElem?_take,hbm] using this
  have:=(List.getElem?_inj (List.getElem?_eq_some_iff.1 hb1).1 hnd).1 (hb1.trans this.symm)
  rw[this]
  exact hx
 ·simp only at hv
  rw[show((q0j s.rho slots).map fun p=>(p.1,p.2.ren bs.idxOf))=(q0j s.rho slots).map fun(t,v)=>(t,(V.ren bs.idxOf) v) from rfl,q34] at hv
  simp only[Option.map_eq_some_iff] at hv
  obtain⟨v0,h1,rfl⟩:=hv
  have hm:=z2F _ _ _ h1
  exact((h.rho t v0 (q1g _ _ _ _ h1).2).ren (base':=base) (fun _ _ h=>h) hσ (hwi _ hm))
 ·obtain⟨_,b,x0,h1,_⟩:=q7Q s.heap bs bs 0 i x hx
  rw[Nat.sub_zero] at h1
  exact(List.getElem?_eq_some_iff.1 h1).1
 ·have hb2:bs[b]? = some b:=by
   have:(bs.take m0)[b]? = some b:=by rw[hpre];simp [hb]
   simpa [List.getElem?_take,hb] using this
  unfold inn
  rw[hb2]
  refine h.stab b l hb h0 fun hm'=>hm ?_
  simp only[List.mem_filter,List.mem_range]
  exact⟨hb,by simpa using hm'⟩
 ·have:=congrArg List.length hpre
  simp only[List.length_take,List.length_range] at this
  show m0≤bs.length
  omega
theorem StRel.own{s:S}{a:Act}{w:World}{F:Nat→Prop}{σ:Nat→Option Loc}{t k k':Nat}{c:Bool}(hl:look s.rho t=some (.fs c k' []))(h:StRel K X base w0 F0 m0 σ0 n s a w F σ) :
  StRel K X base w0 F0 m0 σ0 n ⟨put s.rho t (.bsl s.nx 0 0),(s.nx,.dat true k []) :: s.heap,s.nx+1,s.mv⟩ a w F σ:=by
 have hnone:σ s.nx=none:=by
  cases hs:σ s.nx with
  |none=>rfl
  |some l=>have:=(h.heap.own _ l hs).1;omega
 refine⟨⟨fun b blk hb=>?_,h.heap.inj,fun b l hb=>⟨by have:=(h.heap.own b l hb).1;show b<s.nx+1;omega,(h.heap.own b l hb).2⟩,h.heap.fro⟩,h.glob,h.le,h.frame,h.frz,h.size,h.dfr,fun u v hv=>?_,fun b blk hb=>?_,h.stab,by have:=h.nxm;show m0≤s.nx+1;omega,h.xm,h.sub⟩
 ·simp only[look] at hb
  split at hb
  ·rename_i he
   subst he
   obtain rfl:=Option.some.inj hb
   exact .inl ⟨rfl,hnone⟩
  ·exact h.heap.blk b blk hb
 ·simp only at hv
  rw[q1c] at hv
  split at hv
  ·rename_i he
   subst he
   obtain rfl:=Option.some.inj hv
   have:=h.rho t _ hl
   generalize a.tmps.getD t undef=u at this ⊢
   cases this with
   |fs _ ad len _ _ hd=>
    cases hd with
    |sl0=>exact .bsl0 _ _ _
    |sl b o l cap k rows g h1=>simp at h1;subst h1;exact .bsl0 _ _ _
  ·exact h.rho u v hv
 ·simp only[look] at hb
  split at hb
  ·rename_i he;show b<s.nx+1;omega
  ·have:=h.dom b blk hb;show b<s.nx+1;omega
theorem StRel.ownc{s:S}{a:Act}{w:World}{F:Nat→Prop}{σ:Nat→Option Loc}(t j k:Nat)(h:StRel K X base w0 F0 m0 σ0 n s a w F σ):StRel K X base w0 F0 m0 σ0 n (z8v t j k s) a w F σ:=by
 unfold z8v
 split
 case h_2=>exact h
 rename_i b hb
 split
 case h_2=>exact h
 rename_i k0 row hrow
 split
 case h_2=>exact h
 rename_i c k' hj
 split
 case isFalse=>exact h
 have hnone:σ s.nx=none:=by
  cases hs:σ s.nx with
  |none=>rfl
  |some l=>have:=(h.heap.own _ l hs).1;omega
 refine⟨⟨fun i blk hi=>?_,h.heap.inj,fun b l hb=>⟨by have:=(h.heap.own b l hb).1;show b<s.nx+1;omega,(h.heap.own b l hb).2⟩,h.heap.fro⟩,h.glob,h.le,h.frame,h.frz,h.size,h.dfr,h.rho,fun i blk hi=>?_,h.stab,by have:=h.nxm;show m0≤s.nx+1;omega,h.xm,h.sub⟩
 ·simp only[look] at hi
  split at hi
  ·rename_i he
   subst he
   obtain rfl:=Option.some.inj hi
   exact .inl ⟨rfl,hnone⟩
  ·rw[q1c] at hi
   split at hi
   ·rename_i he
    subst he
    obtain rfl:=Option.some.inj hi
    rcases h.heap.blk b _ hrow with⟨hz,_⟩|⟨_,_,_,_,hmap,_⟩|⟨lb,cs,T,q1,q2,q3,q4,q5,q6,q7⟩
    ·simp [Blk.n] at hz
    ·cases hmap
    ·refine .inr (.inr ⟨lb,cs,T,q1,q2,q3,q4,q5,fun i r hr=>?_,rfl⟩)
     cases i with
     |succ i=>simp [Blk.row?] at hr
     |zero=>
      simp only[Blk.row?,List.getElem?_cons_zero,Option.some.injEq] at hr
      subst hr
      obtain⟨g1,g2⟩:=q6 0 row rfl
      refine⟨by simpa [Blk.k] using g1,fun jj x hx=>?_⟩
      by_cases hjj:j=jj
      ·subst hjj
       have hlt:j<row.length:=(List.getElem?_eq_some_iff.1 hj).1
       rw[List.getElem?_set_self (by simpa using hlt)] at hx
       obtain rfl:=Option.some.inj hx
       obtain⟨v,g3,g4,g5⟩:=g2 j _ hj
       refine⟨v,g3,g4,?_⟩
       cases g5 with
       |fs _ ad len _ _ hd=>
        cases hd with
        |sl0=>exact .bsl0 _ _ _
        |sl b o l cap k rows g h1=>simp at h1;subst h1;exact .bsl0 _ _ _
      ·rw[List.getElem?_set_ne hjj] at hx
       exact g2 jj x hx
   ·exact h.heap.blk i blk hi
 ·simp only[look] at hi
  split at hi
  ·rename_i he;show i<s.nx+1;omega
  ·rw[q1c] at hi
   split at hi
   ·rename_i he;subst he;have:=h.dom _ _ hrow;show b<s.nx+1;omega
   ·have:=h.dom i blk hi;show i<s.nx+1;omega
theorem q8u{c:Code}(J:Nat→Act→World→Prop)(h0:∀ a w,¬ J 0 a w)(round:∀ m a w,J (m+1) a w→c.wp P (Exit.then (J m) Q) a w){m:Nat}{a:Act}{w:World}(h:J m a w):(Code.loop c).wp P Q a w:=by
 intro b k cs
 have key:∀ m a w,J m a w→∃ e a' w',Q e a' w'∧Arrives P (lone (b.at a (.code c :: .inLoop c :: k)) cs w) b k cs e a' w':=by
  intro m
  induction m with
  |zero=>intro a w h;exact absurd h (h0 a w)
  |succ m ih=>
   intro a w hI
   obtain⟨e,a₁,w₁,hq,harr⟩:=round m a w hI b (.inLoop c :: k) cs
   cases e with
   |normal=>
    obtain⟨e₂,a₂,w₂,hq₂,harr₂⟩:=ih a₁ w₁ hq
    exact⟨e₂,a₂,w₂,hq₂,.of_steps (Steps.trans harr (.one step_inLoop)) harr₂⟩
   |exit id=>exact⟨_,a₁,w₁,hq,.pass (x:=.inLoop c) rfl (fun _ _=>.inl (by simp)) harr⟩
   |goto l=>exact⟨_,a₁,w₁,hq,.pass (x:=.inLoop c) rfl (fun _ _=>.inl (by simp)) harr⟩
   |ret=>exact⟨_,a₁,w₁,hq,.pass (x:=.inLoop c) rfl (fun _ _=>.inl (by simp)) harr⟩
   |panic ch=>exact⟨_,a₁,w₁,hq,.pass (x:=.inLoop c) rfl (fun _ _=>.inl (by simp)) harr⟩
   |outgrown=>exact⟨_,a₁,w₁,hq,.pass (x:=.inLoop c) rfl (fun _ _=>.inl (by simp)) harr⟩
 obtain⟨e,a',w',hq,harr⟩:=key m a w h
 exact⟨e,a',w',hq,.of_steps (.one step_loop) harr⟩
theorem z6B{a:Act}{w:World}{F:Nat→Prop}{σ:Nat→Option Loc}{s:S}(h:StRel K X base w0 F0 m0 σ0 n s a w F σ){x:Operand}{t:TypeId}{e:E}{r:V}(he:q0q P [] t x=some e)(hr:ev K s e=some r):RepV w F base σ (a.eval x) r:=by
 have:Held P K s [] w F base σ a x:=by
  cases x with
  |const v=>exact q6t
  |global g=>exact q7X h.glob
  |func f=>exact q7Y
  |tmp t=>
   refine q9v fun r hr=>?_
   simp only[Env.get,look,ev] at hr
   exact h.rho t r hr
 exact this t e r he hr
def Exit.jumpR(J:Nat→Act→World→Prop)(Q:Exit→Act→World→Prop):Exit→Act→World→Prop
 |.goto l,a,w=>J l a w
 |e,a,w=>Q e a w
theorem q7p{c:Code}(J:Nat→Nat→Act→World→Prop)(h0:∀ l a w,¬ J 0 l a w)(round:∀ m l a w,J (m+1) l a w→∃ rest,findLabel c l=some rest∧rest.wp P (Exit.jumpR (J m) Q) a w){m:Nat}{a:Act}{w:World}(first:c.wp P (Exit.jumpR (J m) Q) a w):(Code.scope c).wp P Q a w:=by
 intro b k cs
 have key:∀ m l rest a w,findLabel c l=some rest→J m l a w→∃ e a' w',Q e a' w'∧Arrives P (lone (b.at a (.code rest :: .inScope c :: k)) cs w) b k cs e a' w':=by
  intro m
  induction m with
  |zero=>intro l rest a w _ h;exact absurd h (h0 l a w)
  |succ m ih=>
   intro l rest a w hf hJ
   obtain⟨rest',hf',hwp⟩:=round m l a w hJ
   rw[hf] at hf'
   obtain rfl:=Option.some.inj hf'
   obtain⟨e,a₁,w₁,hq,harr⟩:=hwp b (.inScope c :: k) cs
   cases e with
   |normal=>exact⟨.normal,a₁,w₁,hq,Steps.trans harr (.one step_inScope)⟩
   |exit id=>exact⟨.exit id,a₁,w₁,hq,fun k' hk=>harr k' (by simp [exitTo,hk])⟩
   |goto l'=>
    have hq':J m l' a₁ w₁:=hq
    cases m with
    |zero=>exact absurd hq' (h0 l' a₁ w₁)
    |succ m=>
     obtain⟨rest2,hf2,_⟩:=round m l' a₁ w₁ hq'
     obtain⟨e₂,a₂,w₂,hq₂,harr₂⟩:=ih l' rest2 a₁ w₁ hf2 hq'
     have hg:gotoIn l' (.inScope c :: k)=some (.code rest2 :: .inScope c :: k):=by simp [gotoIn,hf2]
     exact⟨e₂,a₂,w₂,hq₂,.of_steps (harr _ hg) harr₂⟩
   |ret=>exact⟨_,a₁,w₁,hq,harr⟩
   |panic ch=>exact⟨_,a₁,w₁,hq,harr⟩
   |outgrown=>exact⟨_,a₁,w₁,hq,harr⟩
 obtain⟨e,a₁,w₁,hq,harr⟩:=first b (.inScope c :: k) cs
 cases e with
 |normal=>exact⟨.normal,a₁,w₁,hq,.head step_scope (Steps.trans harr (.one step_inScope))⟩
 |exit id=>exact⟨.exit id,a₁,w₁,hq,fun k' hk=>.head step_scope (harr k' (by simp [exitTo,hk]))⟩
 |goto l'=>
  have hq':J m l' a₁ w₁:=hq
  cases m with
  |zero=>exact absurd hq' (h0 l' a₁ w₁)
  |succ m=>
   obtain⟨rest2,hf2,_⟩:=round m l' a₁ w₁ hq'
   obtain⟨e₂,a₂,w₂,hq₂,harr₂⟩:=key _ l' rest2 a₁ w₁ hf2 hq'
   have hg:gotoIn l' (.inScope c :: k)=some (.code rest2 :: .inScope c :: k):=by simp [gotoIn,hf2]
   exact⟨e₂,a₂,w₂,hq₂,.of_steps (.head step_scope (harr _ hg)) harr₂⟩
 |ret=>exact⟨_,a₁,w₁,hq,.of_steps (.one step_scope) harr⟩
 |panic ch=>exact⟨_,a₁,w₁,hq,.of_steps (.one step_scope) harr⟩
 |outgrown=>exact⟨_,a₁,w₁,hq,.of_steps (.one step_scope) harr⟩
theorem z6T(hm:P.follows .mixedOrders=true)(hK:K.Sound P):∀(c:C),(∀(code:Code)(s:S)(r:Ex×S)(a:Act)(w:World)(F:Nat→Prop)(σ:Nat→Option Loc),chk P m0 n c code=true→exec K c s=some r→StRel K X base w0 F0 m0 σ0 n s a w F σ→
  code.wp P (Post K X base w0 F0 m0 σ0 n r) a w)∧
  ∀(code:Code) (l:Nat) (g:S→Option (Ex×S)),chk P m0 n c code=true→exec.labelled K c l=some g→∃ rest,findLabel code l=some rest∧∀(s:S) (r:Ex×S) (a:Act) (w:World) (F:Nat→Prop) (σ:Nat→Option Loc),g s=some r→StRel K X base w0 F0 m0 σ0 n s a w F σ→rest.wp P (Post K X base w0 F0 m0 σ0 n r) a w:=by
 intro c
 induction c with
 |skip=>
  refine⟨?_,fun code l g _ h=>by simp [exec.labelled] at h⟩
  intro code s r a w F σ hc he hs
  cases code <;> simp only[chk] at hc <;> (try(cases hc;done))
  simp only[exec,Option.some.injEq] at he
  subst he
  exact wp_skip ⟨rfl,F,σ,hs⟩
 |ownc t j k=>
  refine⟨?_,fun code l g _ h=>by simp [exec.labelled] at h⟩
  intro code s r a w F σ hc he hs
  cases code <;> simp [chk] at hc
 |regl l=>
  refine⟨?_,fun code l g _ h=>by simp [exec.labelled] at h⟩
  intro code s r a w F σ hc he hs
  cases code <;> simp only[chk] at hc <;> (try(cases hc;done))
  rename_i id ops draw
  simp only[Bool.and_eq_true] at hc
  obtain⟨rfl,hc⟩:=hc
  simp only[exec] at he
  cases hev:q1J K s l with
  |none=>simp [hev] at he
  |some s'=>
   simp only[hev,Option.some.injEq] at he
   subst he
   exact q9H hm hK hc hev hs fun a w F σ h=>⟨rfl,F,σ,h⟩
 |regp π l=>
  refine⟨?_,fun code l g _ h=>by simp [exec.labelled] at h⟩
  intro code s r a w F σ hc he hs
  cases code <;> simp only[chk] at hc <;> (try(cases hc;done))
  rename_i id ops draw
  simp only[Bool.and_eq_true] at hc
  obtain⟨rfl,hc⟩:=hc
  simp only[exec] at he
  cases hev:q1J K s l with
  |none=>simp [hev] at he
  |some s'=>
   simp only[hev,Option.some.injEq] at he
   subst he
   exact wp_region_any hm (z4r hK hc hev hs fun a w F σ h=>⟨rfl,F,σ,h⟩)
 |regg m' l=>
  refine⟨?_,fun code l g _ h=>by simp [exec.labelled] at h⟩
  intro code s r a w F σ hc he hs
  cases code <;> simp only[chk] at hc <;> (try(cases hc;done))
  rename_i id ops draw
  simp only[Bool.and_eq_true] at hc
  obtain⟨hm',hc⟩:=hc
  obtain rfl:m'=m0:=by simpa using hm'
  simp only[exec] at he
  cases hev:q3B m' K s l with
  |none=>simp [hev] at he
  |some s'=>
   simp only[hev,Option.some.injEq] at he
   subst he
   cases draw with
   |false=>
    simp only[Bool.false_eq_true,if_false] at hc
    exact q94 hK hc hev hs fun a w F σ h=>⟨rfl,F,σ,h⟩
   |true=>
    simp only[if_true] at hc
    exact q9I hm hK hc hev hs fun a w F σ h=>⟨rfl,F,σ,h⟩
 |reg l=>
  refine⟨?_,fun code l g _ h=>by simp [exec.labelled] at h⟩
  intro code s r a w F σ hc he hs
  cases code <;> simp only[chk] at hc <;> (try(cases hc;done))
  rename_i id ops draw
  simp only[exec] at he
  cases hev:q26 K s l with
  |none=>simp [hev] at he
  |some s'=>
   simp only[hev,Option.some.injEq] at he
   subst he
   cases draw with
   |false=>
    simp only[Bool.false_eq_true,if_false] at hc
    exact z1l hK hc hev hs fun a w F σ h=>⟨rfl,F,σ,h⟩
   |true=>
    simp only[if_true] at hc
    exact z00 hm hK hc hev hs fun a w F σ h=>⟨rfl,F,σ,h⟩
 |seq x y ihx ihy=>
  refine⟨?_,fun code l g _ h=>by simp [exec.labelled] at h⟩
  intro code s r a w F σ hc he hs
  simp only[exec] at he
  have plain:∀ cx cy,code=.seq cx cy→chk P m0 n x cx=true→chk P m0 n y cy=true→code.wp P (Post K X base w0 F0 m0 σ0 n r) a w:=by
   rintro cx cy rfl h1 h2
   cases hx:exec K x s with
   |none=>simp [hx] at he
   |some p=>
    obtain⟨ex,s'⟩:=p
    refine wp_seq (wp_mono (ihx.1 cx s _ a w F σ h1 hx hs) fun e a' w' hp=>?_)
    obtain⟨rfl,F',σ',hs'⟩:=hp
    cases ex with
    |nrm=>
     simp only[hx] at he
     exact ihy.1 cy s' r a' w' F' σ' h2 he hs'
    |exit id=>simp only[hx,Option.some.injEq] at he;subst he;exact⟨rfl,F',σ',hs'⟩
    |goto l=>simp only[hx,Option.some.injEq] at he;subst he;exact⟨rfl,F',σ',hs'⟩
    |ret=>simp only[hx,Option.some.injEq] at he;subst he;exact⟨rfl,F',σ',hs'⟩
  by_cases hkp:∃ sl,x=.keep sl
  ·obtain⟨sl,rfl⟩:=hkp
   have hc':chk P m0 n y code=true:=by cases code <;> simpa only[chk] using hc
   simp only[exec] at he
   exact ihy.1 code _ r a w F σ hc' he (hs.skipM sl)
  by_cases hgc:∃ m' sl,x=.tidy m' sl
  ·obtain⟨m',sl,rfl⟩:=hgc
   have hc':(m'==m0)=true∧chk P m0 n y code=true:=by cases code <;> simpa only[chk,Bool.and_eq_true] using hc
   obtain⟨hm',hc'⟩:=hc'
   obtain rfl:m'=m0:=by simpa using hm'
   simp only[exec] at he
   cases hts:q6Z m' sl s with
   |none=>simp [hts] at he
   |some s'=>
    simp only[hts] at he
    obtain⟨σ',hs'⟩:=hs.tidy hts
    exact ihy.1 code _ r a w F σ' hc' he hs'
  ·by_cases hown:∃ t k,x=.own t k
   ·obtain⟨t,k,rfl⟩:=hown
    have hc':decide (t<n)=true∧chk P m0 n y code=true:=by cases code <;> simpa only[chk,Bool.and_eq_true] using hc
    simp only[exec] at he
    cases hl:look s.rho t with
    |none=>simp only[hl] at he;exact ihy.1 code s r a w F σ hc'.2 he hs
    |some v=>
     cases v with
     |fs c k' rows=>
      cases rows with
      |nil=>
       simp only[hl] at he
       by_cases hk:k'=k
       ·simp only[hk,if_true] at he
        exact ihy.1 code _ r a w F σ hc'.2 he (hs.own hl)
       ·simp only[hk,if_false] at he;exact ihy.1 code s r a w F σ hc'.2 he hs
      |cons _ _=>simp only[hl] at he;exact ihy.1 code s r a w F σ hc'.2 he hs
     |_=>simp only[hl] at he;exact ihy.1 code s r a w F σ hc'.2 he hs
   ·by_cases hfrz:∃ m' t j,x=.frz m' t j
    ·obtain⟨m',t,j,rfl⟩:=hfrz
     have hc':(m'==m0)=true∧chk P m0 n y code=true:=by cases code <;> simpa only[chk,Bool.and_eq_true] using hc
     obtain⟨hm',hc'⟩:=hc'
     obtain rfl:m'=m0:=by simpa using hm'
     simp only[exec] at he
     obtain⟨F',σ',hs'⟩:=hs.freeze t j
     exact ihy.1 code _ r a w F' σ' hc' he hs'
    ·by_cases hoc:∃ t j k,x=.ownc t j k
     ·obtain⟨t,j,k,rfl⟩:=hoc
      have hc':chk P m0 n y code=true:=by cases code <;> simpa only[chk] using hc
      simp only[exec] at he
      exact ihy.1 code _ r a w F σ hc' he (hs.ownc t j k)
     ·cases code with
      |seq cx cy=>
       have:chk P m0 n x cx=true∧chk P m0 n y cy=true:=by
        cases x <;> first|(exact absurd ⟨_,rfl⟩ hkp)|(exact absurd ⟨_,_,rfl⟩ hgc)|(exact absurd ⟨_,_,rfl⟩ hown)|(exact absurd ⟨_,_,_,rfl⟩ hfrz)|(exact absurd ⟨_,_,_,rfl⟩ hoc)|(simpa only[chk,Bool.and_eq_true] using hc)
       exact plain cx cy rfl this.1 this.2
      |_=>cases x <;> first|(exact absurd ⟨_,rfl⟩ hkp)|(exact absurd ⟨_,_,rfl⟩ hgc)|(exact absurd ⟨_,_,rfl⟩ hown)|(exact absurd ⟨_,_,_,rfl⟩ hfrz)|(exact absurd ⟨_,_,_,rfl⟩ hoc)|(simp [chk] at hc)
 |cond e x y ihx ihy=>
  refine⟨?_,fun code l g _ h=>by simp [exec.labelled] at h⟩
  intro code s r a w F σ hc he hs
  cases code <;> simp only[chk] at hc <;> (try(cases hc;done))
  rename_i oc cx cy
  simp only[Bool.and_eq_true,decide_eq_true_eq] at hc
  simp only[exec] at he
  cases hv:ev K s e with
  |none=>simp [hv] at he
  |some v=>
   cases v with
   |d k x=>
    cases x with
    |bool b=>
     simp only[hv] at he
     have hb:=(z6B hs hc.1.1 hv).bool_inv
     refine wp_cond hb ?_
     cases b with
     |true=>exact ihx.1 cx s r a w F σ hc.1.2 (by simpa using he) hs
     |false=>exact ihy.1 cy s r a w F σ hc.2 (by simpa using he) hs
    |_=>simp [hv] at he
   |_=>simp [hv] at he
 |block id x ih=>
  refine⟨?_,fun code l g _ h=>by simp [exec.labelled] at h⟩
  intro code s r a w F σ hc he hs
  cases code <;> simp only[chk] at hc <;> (try(cases hc;done))
  rename_i id' cx
  simp only[Bool.and_eq_true,beq_iff_eq] at hc
  obtain⟨rfl,hc⟩:=hc
  simp only[exec] at he
  cases hx:exec K x s with
  |none=>simp [hx] at he
  |some p=>
   obtain⟨ex,s'⟩:=p
   refine wp_block (wp_mono (ih.1 cx s _ a w F σ hc hx hs) fun e a' w' hp=>?_)
   obtain⟨rfl,F',σ',hs'⟩:=hp
   cases ex with
   |exit i=>
    simp only[hx] at he
    simp only[Ex.to,Exit.inBlock]
    split at he
    ·rename_i hi
     rw[if_pos hi]
     simp only[Option.some.injEq] at he
     subst he
     exact⟨rfl,F',σ',hs'⟩
    ·rename_i hi
     rw[if_neg hi]
     simp only[Option.some.injEq] at he
     subst he
     exact⟨rfl,F',σ',hs'⟩
   |nrm=>simp only[hx,Option.some.injEq] at he;subst he;exact⟨rfl,F',σ',hs'⟩
   |goto l=>simp only[hx,Option.some.injEq] at he;subst he;exact⟨rfl,F',σ',hs'⟩
   |ret=>simp only[hx,Option.some.injEq] at he;subst he;exact⟨rfl,F',σ',hs'⟩
 |loop x ih=>
  refine⟨?_,fun code l g _ h=>by simp [exec.labelled] at h⟩
  intro code s r a w F σ hc he hs
  cases code <;> simp only[chk] at hc <;> (try(cases hc;done))
  rename_i cx
  simp only[exec,q5a] at he
  split at he
  case isFalse=>cases he
  rename_i hex
  refine q8u (J:=fun m a w=>∃ s F σ,iter (exec K x) m s=some r∧StRel K X base w0 F0 m0 σ0 n s a w F σ) (fun a w h=>?_) (fun m a w h=>?_) (m:=hex.choose) ⟨s,F,σ,he,hs⟩
  ·obtain⟨s,F,σ,h,_⟩:=h
   simp [iter] at h
  ·obtain⟨s,F,σ,h,hs⟩:=h
   simp only[iter] at h
   cases hx:exec K x s with
   |none=>simp [hx] at h
   |some p=>
    obtain⟨ex,s'⟩:=p
    refine wp_mono (ih.1 cx s _ a w F σ hc hx hs) fun e a' w' hp=>?_
    obtain⟨rfl,F',σ',hs'⟩:=hp
    cases ex with
    |nrm=>simp only[hx] at h;exact⟨s',F',σ',h,hs'⟩
    |exit id=>simp only[hx,Option.some.injEq] at h;subst h;exact⟨rfl,F',σ',hs'⟩
    |goto l=>simp only[hx,Option.some.injEq] at h;subst h;exact⟨rfl,F',σ',hs'⟩
    |ret=>simp only[hx,Option.some.injEq] at h;subst h;exact⟨rfl,F',σ',hs'⟩
 |exit id=>
  refine⟨?_,fun code l g _ h=>by simp [exec.labelled] at h⟩
  intro code s r a w F σ hc he hs
  cases code <;> simp only[chk] at hc <;> (try(cases hc;done))
  simp only[beq_iff_eq] at hc
  subst hc
  simp only[exec,Option.some.injEq] at he
  subst he
  exact wp_exit ⟨rfl,F,σ,hs⟩
 |scope x ls ihx ihl=>
  refine⟨?_,fun code l g _ h=>by simp [exec.labelled] at h⟩
  intro code s r a w F σ hc he hs
  cases code <;> simp only[chk] at hc <;> (try(cases hc;done))
  rename_i cx
  simp only[Bool.and_eq_true] at hc
  simp only[exec,z2v] at he
  split at he
  case isFalse=>cases he
  rename_i hex
  generalize hex.choose=m at he
  cases m with
  |zero=>simp [q3H] at he
  |succ m=>
   have post:∀(m:Nat) (p:Ex×S) (e:Exit) (a:Act) (w:World),q3H (fun l=>exec.labelled K ls l) (m+1) (some p)=some r→Post K X base w0 F0 m0 σ0 n p e a w→
     Exit.jumpR (fun l a w=>∃ g s F σ,exec.labelled K ls l=some g∧q3H (fun l=>exec.labelled K ls l) m (g s)=some r∧StRel K X base w0 F0 m0 σ0 n s a w F σ) (Post K X base w0 F0 m0 σ0 n r) e a w:=by
    intro m p e a w hj hp
    obtain⟨ex,s'⟩:=p
    obtain⟨rfl,F',σ',hs'⟩:=hp
    simp only[q3H] at hj
    cases ex with
    |nrm=>simp only[Option.some.injEq] at hj;subst hj;exact⟨rfl,F',σ',hs'⟩
    |exit id=>simp only[Option.some.injEq] at hj;subst hj;exact⟨rfl,F',σ',hs'⟩
    |ret=>simp only[Option.some.injEq] at hj;subst hj;exact⟨rfl,F',σ',hs'⟩
    |goto l=>
     simp only at hj
     cases hl:exec.labelled K ls l with
     |none=>simp [hl] at hj
     |some g=>
      simp only[hl] at hj
      exact⟨g,s',F',σ',hl,hj,hs'⟩
   cases hx:exec K x s with
   |none=>simp [hx,q3H] at he
   |some p=>
    rw[hx] at he
    refine q7p (m:=m) (J:=fun m l a w=>∃ g s F σ,exec.labelled K ls l=some g∧q3H (fun l=>exec.labelled K ls l) m (g s)=some r∧StRel K X base w0 F0 m0 σ0 n s a w F σ) (fun l a w h=>?_) (fun m l a w h=>?_) (wp_mono (ihx.1 cx s _ a w F σ hc.1 hx hs) fun e a' w' hp=>post m p e a' w' he hp)
    ·obtain⟨g,s,F,σ,_,h,_⟩:=h
     simp [q3H] at h
    ·obtain⟨g,s,F,σ,hl,hj,hs⟩:=h
     obtain⟨rest,hf,hrest⟩:=ihl.2 cx l g hc.2 hl
     refine⟨rest,hf,?_⟩
     cases hg:g s with
     |none=>rw[hg] at hj;simp [q3H] at hj
     |some p=>
      rw[hg] at hj
      exact wp_mono (hrest s p a w F σ hg hs) fun e a' w' hp=>post m p e a' w' hj hp
 |lnil=>exact⟨fun code s r a w F σ hc he=>by simp [exec] at he,fun code l g _ h=>by simp [exec.labelled] at h⟩
 |lcons l0 c ls ihc ihl=>
  refine⟨fun code s r a w F σ hc he=>by simp [exec] at he,fun code l g hc h=>?_⟩
  have hc':((match findLabel code l0 with|some rest=>chk P m0 n c rest|none=>false)&&chk P m0 n ls code)=true:=by cases code <;> simpa only[chk] using hc
  simp only[Bool.and_eq_true] at hc'
  simp only[exec.labelled] at h
  split at h
  ·rename_i he
   subst he
   obtain rfl:=Option.some.inj h
   cases hf:findLabel code l0 with
   |none=>simp [hf] at hc'
   |some rest=>
    simp only[hf] at hc'
    exact⟨rest,rfl,fun s r a w F σ he hs=>ihc.1 rest s r a w F σ hc'.1 he hs⟩
  ·exact ihl.2 code l g hc'.2 h
 |label l=>
  refine⟨?_,fun code l g _ h=>by simp [exec.labelled] at h⟩
  intro code s r a w F σ hc he hs
  cases code <;> simp only[chk] at hc <;> (try(cases hc;done))
  simp only[exec,Option.some.injEq] at he
  subst he
  exact wp_label ⟨rfl,F,σ,hs⟩
 |goto l=>
  refine⟨?_,fun code l g _ h=>by simp [exec.labelled] at h⟩
  intro code s r a w F σ hc he hs
  cases code <;> simp only[chk] at hc <;> (try(cases hc;done))
  simp only[beq_iff_eq] at hc
  subst hc
  simp only[exec,Option.some.injEq] at he
  subst he
  exact wp_goto ⟨rfl,F,σ,hs⟩
 |ret=>
  refine⟨?_,fun code l g _ h=>by simp [exec.labelled] at h⟩
  intro code s r a w F σ hc he hs
  cases code <;> simp only[chk] at hc <;> (try(cases hc;done))
  simp only[exec,Option.some.injEq] at he
  subst he
  exact wp_ret ⟨rfl,F,σ,hs⟩
 |keep=>exact⟨fun code s r a w F σ hc he=>by cases code <;> simp [chk] at hc,fun code l g _ h=>by simp [exec.labelled] at h⟩
 |tidy=>exact⟨fun code s r a w F σ hc he=>by cases code <;> simp [chk] at hc,fun code l g _ h=>by simp [exec.labelled] at h⟩
 |own=>exact⟨fun code s r a w F σ hc he=>by cases code <;> simp [chk] at hc,fun code l g _ h=>by simp [exec.labelled] at h⟩
 |stuck=>exact⟨fun code s r a w F σ hc he=>by simp [exec] at he,fun code l g _ h=>by simp [exec.labelled] at h⟩
 |frz=>exact⟨fun code s r a w F σ hc he=>by cases code <;> simp [chk] at hc,fun code l g _ h=>by simp [exec.labelled] at h⟩
theorem q3j(hm:P.follows .mixedOrders=true)(hK:K.Sound P)(c:C)(code:Code)(s:S)(r:Ex×S)(a:Act)(w:World)(F:Nat→Prop)(σ:Nat→Option Loc)(hc:chk P m0 n c code=true)(he:exec K c s=some r)(hs:StRel K X base w0 F0 m0 σ0 n s a w F σ) :
  code.wp P (Post K X base w0 F0 m0 σ0 n r) a w:=(z6T hm hK c).1 code s r a w F σ hc he hs
end Go.Vm
end

section
namespace Go.Vm
open Go.RowKit

def hNew (H : List (Nat × Blk)) : Bool := H.all fun p => match p.2 with
  | .dat c _ rows => c || q0Y rows
  | .mix _ rows => rows.all (·.all V.newR)
  | .map es => es.all fun q => match q.2 with
    | .agg cs => cs.all V.newR
    | v => v.newR

def restH (bs : List Nat) (H : List (Nat × Blk)) : List (Nat × Blk) := forgetH bs.contains (H.filter fun p => !bs.contains p.1)

def finC (z : Bool) (bs : List Nat) (H : List (Nat × Blk)) : V → Option V
  | .d c y => some (.d c y)
  | .fs c k r => some (.fs c k r)
  | .ptr b i j => if bs.contains b then some (.ptr (bs.idxOf b) i j) else (q0c viewDepth (restH bs H) (.ptr b i j)).map (.d (z && hNew (restH bs H)))
  | .bsl b i n => if bs.contains b then some (.bsl (bs.idxOf b) i n) else (q0c viewDepth (restH bs H) (.bsl b i n)).map (.d (z && hNew (restH bs H)))
  | .bsx b i n => if bs.contains b then some (.bsx (bs.idxOf b) i n) else (q0c viewDepth (restH bs H) (.bsx b i n)).map (.d (z && hNew (restH bs H)))
  | .iface t v => (q0c viewDepth (restH bs H) (V.drop1 bs.contains (.iface t v))).map (.d false)
  | .map b => if bs.contains b then some (.map (bs.idxOf b)) else none
  | _ => none
def finA (z : Bool) (bs : List Nat) (H : List (Nat × Blk)) : V → Option V
  | .agg cs => (mapO (finC z bs H) cs).map .agg
  | .fn f cs => (mapO (finC z bs H) cs).map (.fn f)
  | v => finC z bs H v
def finV (z : Bool) (bs : List Nat) (H : List (Nat × Blk)) : V → Option V
  | .tup vs => (mapO (finA z bs H) vs).map .tup
  | v => finA z bs H v
def finB (z : Bool) (bs : List Nat) (H : List (Nat × Blk)) (b : Nat) : Option Blk := match look H b with
  | some (.dat c k rows) => some (.dat (c || (z && q0Y rows)) k rows)
  | some (.mix k rows) => (mapO (mapO (finC z bs H)) rows).map (.mix k)
  | some (.map es) => (mapO (fun q => (finA z bs H q.2).map fun v => (q.1, v)) es).map .map
  | none => none

structure Fun where
  body : C
  res : List E
  own : Bool
  deriving Inhabited

def q0b : List V → V
  | [v] => v
  | vs => .tup vs

def finish (m : Nat) (own : Bool) (s : S) (v : V) : Option (V × List Blk × List Nat) :=
  let bs := if own then q1N s.heap (refN s.heap + 64) [] (List.range m ++ v.refs) else List.range m
  if decide bs.Nodup && decide (bs.take m = List.range m) then
    match finV (m == 0) bs s.heap v, mapO (finB (m == 0) bs s.heap) bs with
    | some r, some news => some (r, news, (List.range m).filter fun b => s.mv.contains b)
    | _, _ => none
  else none

def startS (args : List V) (blks : List Blk) : S := ⟨(args.zipIdx.map fun (v, i) => (i, v)), indexed blks, blks.length, []⟩

noncomputable def q0B (K : Cx) (g : Fun) (args : List V) (blks : List Blk) : Option (V × List Blk × List Nat) :=
  match exec K g.body (startS args blks) with
  | some (.nrm, s) => match mapO (ev K s) g.res with
    | some vs => finish blks.length g.own s (q0b vs)
    | none => none
  | some (.ret, s) => match mapO (ev K s) g.res with
    | some vs => finish blks.length g.own s (q0b vs)
    | none => none
  | _ => none

def resE (P : Program) : ResultVar → Option E
  | .tmp t => some (.sl t)
  | .cell a t => match P.info? t, P.underlying t with
    | some i, some d => some (.ld i.size (q24 d) (.sl a))
    | _, _ => none

def q09 (P : Program) (f : FuncId) (m n : Nat) (g : Fun) : Bool :=
  match P.funcs[f]? with
  | some fn => match fn.body with
    | some code => chk P m fn.ntmps g.body code && decide (mapO (resE P) fn.results.toList = some g.res) && decide (n ≤ fn.ntmps) && (fn.name != "runtime.NumGoroutine")
    | none => false
  | none => false

variable {P : Program} {w : World} {F : Nat → Prop} {X : Nat → Nat → Prop} {base nx : Nat} {σ : Nat → Option Loc} {H : List (Nat × Blk)} {bs : List Nat}

theorem q7T {f : V → Option V} : ∀ {es es' : List (D × V)}, mapO (fun q => (f q.2).map fun v => (q.1, v)) es = some es' → es'.map (·.1) = es.map (·.1)
  | [], es', h => by obtain rfl := Option.some.inj h; rfl
  | q :: es, es', h => by
    simp only [mapO] at h
    cases hq : f q.2 with
    | none => simp [hq] at h
    | some v =>
      cases hr : mapO (fun q => (f q.2).map fun v => (q.1, v)) es with
      | none => simp [hq, hr] at h
      | some r =>
        simp only [hq, hr, Option.map_some, Option.some.injEq] at h
        subst h
        simp only [List.map_cons, q7T hr]

theorem MemObj.ofO {f : V → Option V} {w w' : World} {σ σ' : Nat → Option Loc} {l : Loc} {ck : Nat} {es : Array MapEntry} {ds ds' : List (D × V)} (hw : w'.heap[l.blk]? = w.heap[l.blk]?) (hes : mapO (fun q => (f q.2).map fun v => (q.1, v)) ds = some ds')
    (hf : ∀ q ∈ ds, ∀ y, f q.2 = some y → ∀ v, BufV σ v q.2 → BufV σ' v y) (h : MemObj w σ l es ck ds) : MemObj w' σ' l es ck ds' := by
  have hk := q7T hes
  rcases h with ⟨h, hx, ht⟩ | ⟨T, p, v, x, h1, h2, h3, h4⟩ | ⟨T, cur, fz, bs, h1, h2, h3⟩
  · refine .inl ⟨by rw [hw]; exact h, hx, ?_⟩
    cases ds with
    | nil => obtain rfl : ds' = [] := by simpa using hk
             rfl
    | cons q ds =>
      obtain ⟨k, v⟩ := q
      cases ds' with
      | nil => simp at hk
      | cons q' ds' =>
        obtain ⟨k', v'⟩ := q'
        simp only [List.map_cons, List.cons.injEq] at hk
        obtain ⟨rfl, _⟩ := hk
        cases k' <;> first | rfl | (simp [q2a] at ht)
  · subst h1
    simp only [mapO] at hes
    cases hx : f x with
    | none => simp [hx] at hes
    | some y =>
      simp only [hx, Option.map_some, Option.some.injEq] at hes
      subst hes
      exact .inr (.inl ⟨T, p, v, y, rfl, by rw [hw]; exact h2, h3, hf (.nils T, x) (by simp) y hx v h4⟩)
  · exact .inr (.inr ⟨T, cur, fz, bs, by rw [hk]; exact h1, by rw [hw]; exact h2, h3⟩)

theorem z7x {c : Bool} {b : Nat} (h : col F base true b) : col (New F base) base c b := by
  cases c
  · exact h
  · exact ⟨h, h.2⟩

theorem RepV.newF {v : Value} {x : V} (hx : x.newR = true) (h : RepV w F base σ v x) : RepV w (New F base) base σ v x := by
  cases h with
  | d c v x h =>
    simp only [V.newR, V.new1, Bool.or_eq_true] at hx
    cases c with
    | true => exact .d _ _ _ (h.mono fun b hb => ⟨z7x hb, rfl⟩)
    | false => exact .d _ _ _ (h.flat (by simpa using hx))
  | fs c a len k rows h =>
    simp only [V.newR, V.new1] at hx
    subst hx
    exact .fs _ _ _ _ _ (h.mono fun b hb => ⟨z7x hb, rfl⟩)
  | ptr b i j l hl => exact .ptr b i j l hl
  | bsl0 a b i => exact .bsl0 a b i
  | bsl b i len cap l hl h1 h2 => exact .bsl b i len cap l hl h1 h2
  | bsx b i len cap l a hl h1 h2 h3 => exact .bsx b i len cap l a hl h1 h2 h3
  | map b l hl => exact .map b l hl
  | _ => simp [V.newR, V.new1] at hx

theorem z8B {c : Bool} (hc : c = true) (d : D) : (mkd c d).newR = true := by
  subst hc
  unfold mkd
  split <;> simp [V.newR, V.new1, *]

theorem z0N {rows : List (List D)} {i j : Nat} {r : List D} {d : D} (h : q0Y rows = true) (hr : rows[i]? = some r) (hd : r[j]? = some d) : d.flat = true := by
  simp only [q0Y, List.all_eq_true] at h
  exact h r (List.mem_of_getElem? hr) d (List.mem_of_getElem? hd)
theorem HeapRel.newF (hn : hNew H = true) (h : HeapRel w F X base σ nx H) : HeapRel w (New F base) X base σ nx H := by
  refine ⟨fun b blk hb => ?_, h.inj, fun b l hb => ⟨(h.own b l hb).1, fun hf => (h.own b l hb).2.1 hf.1, (h.own b l hb).2.2⟩, fun b hb => h.fro b hb.1⟩
  have hin : ∃ p ∈ H, p = (b, blk) := by
    clear hn h
    induction H with
    | nil => simp [look] at hb
    | cons p H ih =>
      obtain ⟨k, v⟩ := p
      simp only [look] at hb
      split at hb
      · rename_i hk
        subst hk
        obtain rfl := Option.some.inj hb
        exact ⟨_, List.mem_cons_self .., rfl⟩
      · obtain ⟨p, hp, he⟩ := ih hb
        exact ⟨p, List.mem_cons_of_mem _ hp, he⟩
  obtain ⟨p, hp, rfl⟩ := hin
  simp only [hNew, List.all_eq_true] at hn
  have hnb := hn _ hp
  rcases h.blk b blk hb with ⟨h1, h2⟩ | ⟨l, es, ck, ds, rfl, h1, h2, h3, h4, h5⟩ | ⟨l, cs, T, h1, h2, h3, h4, h5, h6, h7⟩
  · exact .inl ⟨h1, h2⟩
  · have := h5.transM (f := fun x => x) (w' := w) (F' := New F base) (base' := base) (σ' := σ) fun q hq v hv => by
      simp only [List.all_eq_true] at hnb
      have hqn := hnb q hq
      obtain ⟨qk, qv⟩ := q
      cases qv with
      | agg cs =>
        cases hv with
        | agg vs _ g1 g2 g3 =>
          simp only [List.all_eq_true] at hqn
          exact .agg vs cs g1 (fun j v x hv hx => (g2 j v x hv hx).newF (hqn x (List.mem_of_getElem? hx))) g3
      | _ => exact hv.newF hqn
    exact .inr (.inl ⟨l, es, ck, ds, rfl, h1, h2, h3, h4, by simpa using this⟩)
  · refine .inr <| .inr ⟨l, cs, T, h1, h2, h3, h4, h5, fun i row hrow => ⟨(h6 i row hrow).1, fun j x hx => ?_⟩, h7⟩
    obtain ⟨v, g1, g2, g3⟩ := (h6 i row hrow).2 j x hx
    refine ⟨v, g1, g2, g3.newF ?_⟩
    cases blk with
    | dat c k rows =>
      simp only [Blk.row?, Option.map_eq_some_iff] at hrow
      obtain ⟨r, hr, rfl⟩ := hrow
      simp only [List.getElem?_map, Option.map_eq_some_iff] at hx
      obtain ⟨d, hd, rfl⟩ := hx
      rcases Bool.or_eq_true _ _ ▸ hnb with hc | hf
      · exact z8B hc d
      · have := z0N hf hr hd
        simp [mkd, this, V.newR, V.new1]
    | mix k rows =>
      simp only [Blk.row?] at hrow
      simp only [List.all_eq_true] at hnb
      exact hnb row (List.mem_of_getElem? hrow) x (List.mem_of_getElem? hx)
    | map es => simp [Blk.entries] at h7

def wo (bs : List Nat) (σ : Nat → Option Loc) (b : Nat) : Option Loc := if bs.contains b then none else σ b
def outs (bs : List Nat) (σ : Nat → Option Loc) (i : Nat) : Option Loc := match bs[i]? with
  | some b => σ b
  | none => none

theorem q5h {b : Nat} {l : Loc} (h : wo bs σ b = some l) : bs.contains b = false ∧ σ b = some l := by
  unfold wo at h
  split at h
  · cases h
  · rename_i hb; exact ⟨by simpa using hb, h⟩
theorem z3B : ∀ b l, σ b = some l → bs.contains b = false → wo bs σ b = some l := by
  intro b l h1 h2
  unfold wo
  rw [if_neg (by rw [h2]; exact Bool.false_ne_true)]
  exact h1

theorem q5m (p : Nat → Bool) : ∀ (H : List (Nat × Blk)) (b : Nat) (blk : Blk), look (H.filter fun q => p q.1) b = some blk → p b = true ∧ look H b = some blk
  | [], b, blk, h => by simp [look] at h
  | (k, v) :: H, b, blk, h => by
    simp only [List.filter_cons] at h
    split at h
    · rename_i hk
      simp only [look] at h ⊢
      split at h
      · rename_i he
        subst he
        rw [if_pos rfl]
        exact ⟨hk, h⟩
      · rename_i he
        rw [if_neg he]
        exact q5m p H b blk h
    · rename_i hk
      obtain ⟨h1, h2⟩ := q5m p H b blk h
      refine ⟨h1, ?_⟩
      simp only [look]
      rw [if_neg (fun e => hk (by subst e; exact h1))]
      exact h2

theorem z0n (h : HeapRel w F X base σ nx H) : HeapRel w F X base (wo bs σ) nx (restH bs H) := by
  refine ⟨fun b blk hb => ?_, fun b b' l l' h1 h2 => h.inj b b' l l' (q5h h1).2 (q5h h2).2, fun b l hb => h.own b l (q5h hb).2, h.fro⟩
  unfold restH forgetH at hb
  rw [q23] at hb
  simp only [Option.map_eq_some_iff] at hb
  obtain ⟨blk0, h1, rfl⟩ := hb
  obtain ⟨h2, h3⟩ := q5m (fun b => !bs.contains b) H b blk0 h1
  have h2' : bs.contains b = false := by simpa using h2
  have hs : ∀ l, σ b = some l → wo bs σ b = some l := fun l hl => z3B b l hl h2'
  refine (h.blk b blk0 h3).forget _ (fun b hb => ⟨hb, rfl⟩) z3B hs (fun h4 => ?_) (fun _ _ => rfl)
  unfold wo
  split
  · rfl
  · exact h4

def FZ (F : Nat → Prop) (bs : List Nat) (σ : Nat → Option Loc) : Nat → Prop := All F (wo bs σ)

variable {z : Bool}

def z4y (X : Nat → Nat → Prop) (base : Nat) (bs : List Nat) (σ : Nat → Option Loc) : Prop := ∀ i l, wo bs σ i = some l → base ≤ l.blk

theorem q7F {b : Nat} {l : Loc} (h1 : σ b = some l) (h2 : bs.contains b = true) : outs bs σ (bs.idxOf b) = some l := by
  unfold outs
  have hm : b ∈ bs := by simpa using h2
  have : bs[bs.idxOf b]? = some b := by
    rw [List.getElem?_eq_getElem (List.idxOf_lt_length_of_mem hm)]
    rw [List.getElem_idxOf]
  rw [this]
  exact h1

theorem z8X {z : Bool} {x y : V} (hy : finC z bs H x = some y) {v : Value} (hv : BufV σ v x) : BufV (outs bs σ) v y := by
  cases x with
  | bsl b i n =>
    simp only [finC] at hy
    split at hy
    · rename_i hb
      obtain rfl := Option.some.inj hy
      obtain ⟨h0, h | ⟨l, h1, h2⟩⟩ := hv
      · exact ⟨h0, .inl h⟩
      · exact ⟨h0, .inr ⟨l, q7F h1 hb, h2⟩⟩
    · simp only [Option.map_eq_some_iff] at hy
      obtain ⟨d, _, rfl⟩ := hy
      trivial
  | d c d => obtain rfl := Option.some.inj hy; trivial
  | fs c k r => obtain rfl := Option.some.inj hy; trivial
  | ptr b i j =>
    simp only [finC] at hy
    split at hy
    · obtain rfl := Option.some.inj hy; trivial
    · simp only [Option.map_eq_some_iff] at hy
      obtain ⟨d, _, rfl⟩ := hy
      trivial
  | bsx b i j =>
    simp only [finC] at hy
    split at hy
    · obtain rfl := Option.some.inj hy; trivial
    · simp only [Option.map_eq_some_iff] at hy
      obtain ⟨d, _, rfl⟩ := hy
      trivial
  | iface t u =>
    simp only [finC, Option.map_eq_some_iff] at hy
    obtain ⟨d, _, rfl⟩ := hy
    trivial
  | map b =>
    simp only [finC] at hy
    split at hy
    · obtain rfl := Option.some.inj hy; trivial
    · cases hy
  | _ => simp [finC] at hy
theorem z8Y {z : Bool} {x y : V} (hy : finA z bs H x = some y) {v : Value} (hv : BufV σ v x) : BufV (outs bs σ) v y := by
  cases x with
  | agg cs =>
    simp only [finA, Option.map_eq_some_iff] at hy
    obtain ⟨d, _, rfl⟩ := hy
    trivial
  | fn f cs =>
    simp only [finA, Option.map_eq_some_iff] at hy
    obtain ⟨d, _, rfl⟩ := hy
    trivial
  | _ => exact z8X (by simpa only [finA] using hy) hv

theorem q82 (h : HeapRel w F X base σ nx H) (hy : z4y X base bs σ) (v : Value) (x r : V) (hr : finC z bs H x = some r) (hR : RepV w F base σ v x) : RepV w (FZ F bs σ) base (outs bs σ) v r := by
  have hsub : ∀ b, F b → FZ F bs σ b ∧ w.heap[b]? = w.heap[b]? := fun b hb => ⟨.inl hb, rfl⟩
  have frozen : ∀ (x : V), x.newR = true → (∃ y, (q0c viewDepth (restH bs H) x) = some y ∧ r = .d (z && hNew (restH bs H)) y) → RepV w F base (wo bs σ) v x → RepV w (FZ F bs σ) base (outs bs σ) v r := by
    rintro x hx ⟨y, hyy, rfl⟩ hR
    have hH := z0n (bs := bs) h
    cases hn : z && hNew (restH bs H) with
    | false => exact .d _ _ _ (q2M hH _ _ _ _ hyy hR)
    | true =>
      simp only [Bool.and_eq_true] at hn
      refine .d _ _ _ ((q2M (hH.newF hn.2) _ _ _ _ hyy (hR.newF hx)).mono fun b hb => ⟨?_, rfl⟩)
      rcases hb with hb | ⟨i, l, hl, rfl⟩
      · exact ⟨.inl hb.1, hb.2⟩
      · exact ⟨.inr ⟨i, l, hl, rfl⟩, hy i l hl⟩
  have hFF : ∀ b, F b → F b ∧ w.heap[b]? = w.heap[b]? := fun b hb => ⟨hb, rfl⟩
  cases x with
  | d c y =>
    simp only [finC, Option.some.injEq] at hr
    subst hr
    cases hR with
    | d _ _ _ hd => exact .d _ _ _ (hd.mono (q48 hsub c))
  | fs c k rows =>
    simp only [finC, Option.some.injEq] at hr
    subst hr
    cases hR with
    | fs _ _ _ _ _ hd => exact .fs _ _ _ _ _ (hd.mono (q48 hsub c))
  | ptr b i j =>
    simp only [finC] at hr
    split at hr
    · rename_i hb
      obtain rfl := Option.some.inj hr
      cases hR with
      | ptr _ _ _ l hl => exact .ptr _ _ _ l (q7F hl hb)
    · rename_i hb
      simp only [Option.map_eq_some_iff] at hr
      obtain ⟨y, hy, rfl⟩ := hr
      exact frozen (.ptr b i j) rfl ⟨y, hy, rfl⟩ (hR.keep0 hFF z3B (by simpa [V.ref0] using hb))
  | bsl b i n =>
    simp only [finC] at hr
    split at hr
    · rename_i hb
      obtain rfl := Option.some.inj hr
      cases hR with
      | bsl0 => exact .bsl0 _ _ _
      | bsl _ _ _ cap l hl h1 h2 => exact .bsl _ _ _ cap l (q7F hl hb) h1 h2
    · rename_i hb
      simp only [Option.map_eq_some_iff] at hr
      obtain ⟨y, hy, rfl⟩ := hr
      exact frozen (.bsl b i n) rfl ⟨y, hy, rfl⟩ (hR.keep0 hFF z3B (by simpa [V.ref0] using hb))
  | bsx b i n =>
    simp only [finC] at hr
    split at hr
    · rename_i hb
      obtain rfl := Option.some.inj hr
      cases hR with
      | bsx _ _ _ cap l a hl h1 h2 h3 => exact .bsx _ _ _ cap l a (q7F hl hb) h1 h2 h3
    · rename_i hb
      simp only [Option.map_eq_some_iff] at hr
      obtain ⟨y, hy, rfl⟩ := hr
      exact frozen (.bsx b i n) rfl ⟨y, hy, rfl⟩ (hR.keep0 hFF z3B (by simpa [V.ref0] using hb))
  | iface t u =>
    simp only [finC, Option.map_eq_some_iff] at hr
    obtain ⟨y, hy, rfl⟩ := hr
    exact .d _ _ _ (q2M (z0n (bs := bs) h) _ _ _ _ hy (hR.drop1 hFF z3B))
  | map b =>
    simp only [finC] at hr
    split at hr
    · rename_i hb
      obtain rfl := Option.some.inj hr
      cases hR with
      | map _ l hl => exact .map _ l (q7F hl hb)
    · cases hr
  | _ => simp [finC] at hr

theorem q9h {f : V → Option V} {R R' : Value → V → Prop} (hf : ∀ v x r, f x = some r → R v x → R' v r) {cs : Array Value} {xs rs : List V} (hm : mapO f xs = some rs) (hsz : cs.size = xs.length) (h : ∀ (j : Nat) (v : Value) (x : V), cs[j]? = some v → xs[j]? = some x → R v x) :
    cs.size = rs.length ∧ ∀ (j : Nat) (v : Value) (x : V), cs[j]? = some v → rs[j]? = some x → R' v x := by
  obtain ⟨m1, m2⟩ := q0u hm
  refine ⟨by omega, fun j v x hv hx => ?_⟩
  have hj : j < xs.length := by rw [← m1]; exact (List.getElem?_eq_some_iff.1 hx).1
  obtain ⟨y, hy, hvd⟩ := m2 j _ (List.getElem?_eq_getElem hj)
  rw [hx] at hy
  obtain rfl := Option.some.inj hy
  exact hf v _ x hvd (h j v _ hv (List.getElem?_eq_getElem hj))

theorem q6w (h : HeapRel w F X base σ nx H) (hy : z4y X base bs σ) (v : Value) (x r : V) (hr : finA z bs H x = some r) (hR : RepV w F base σ v x) : RepV w (FZ F bs σ) base (outs bs σ) v r := by
  have one : ∀ v x r, finC z bs H x = some r → RepV w F base σ v x → RepV w (FZ F bs σ) base (outs bs σ) v r := fun v x r h1 h2 => q82 h hy v x r h1 h2
  cases x with
  | agg xs =>
    simp only [finA, Option.map_eq_some_iff] at hr
    obtain ⟨rs, hm, rfl⟩ := hr
    cases hR with
    | agg cs _ h1 h2 h3 =>
      obtain ⟨g1, g2⟩ := q9h one hm h1 h2
      exact .agg cs rs g1 g2 h3
  | fn f xs =>
    simp only [finA, Option.map_eq_some_iff] at hr
    obtain ⟨rs, hm, rfl⟩ := hr
    cases hR with
    | fn _ cs _ h1 h2 =>
      obtain ⟨g1, g2⟩ := q9h one hm h1 h2
      exact .fn f cs rs g1 g2
  | _ => simp only [finA] at hr; exact one v _ r hr hR

theorem q81 (h : HeapRel w F X base σ nx H) (hy : z4y X base bs σ) {v : Value} {x r : V} (hr : finV z bs H x = some r) (hR : RepV w F base σ v x) : RepV w (FZ F bs σ) base (outs bs σ) v r := by
  cases x with
  | tup xs =>
    simp only [finV, Option.map_eq_some_iff] at hr
    obtain ⟨rs, hm, rfl⟩ := hr
    cases hR with
    | tup cs _ h1 h2 =>
      obtain ⟨g1, g2⟩ := q9h (q6w h hy) hm h1 h2
      exact .tup cs rs g1 g2
  | _ => simp only [finV] at hr; exact q6w h hy v _ r hr hR

theorem q7E {i : Nat} {l : Loc} (hi : outs bs σ i = some l) : ∃ b, bs[i]? = some b ∧ σ b = some l := by
  unfold outs at hi
  split at hi
  · rename_i b hb; exact ⟨b, hb, hi⟩
  · cases hi

theorem z0Q (h : HeapRel w F X base σ nx H) (hy : z4y X base bs σ) (hbs : bs.Nodup) (hX : ∀ b k, X b k → bs[b]? = some b) {news : List Blk} (hm : mapO (finB z bs H) bs = some news) : HeapRel w (FZ F bs σ) X base (outs bs σ) news.length (indexed news) := by
  obtain ⟨m1, m2⟩ := q0u hm
  have hsub : ∀ b, F b → FZ F bs σ b ∧ w.heap[b]? = w.heap[b]? := fun b hb => ⟨.inl hb, rfl⟩
  refine ⟨fun i blk hi => ?_, fun i j l l' h1 h2 he => ?_, fun i l hi => ?_, fun b hb => ?_⟩
  · rw [q16] at hi
    have hil : i < bs.length := by rw [← m1]; exact (List.getElem?_eq_some_iff.1 hi).1
    obtain ⟨y, hyy, hb⟩ := m2 i _ (List.getElem?_eq_getElem hil)
    rw [hi] at hyy
    obtain rfl := Option.some.inj hyy
    have hout : outs bs σ i = σ bs[i] := by unfold outs; rw [List.getElem?_eq_getElem hil]
    unfold finB at hb
    split at hb
    · rename_i c k rows hlk
      obtain rfl := Option.some.inj hb
      rcases h.blk _ _ hlk with ⟨g1, g2⟩ | ⟨_, _, _, _, hbad, _⟩ | ⟨l, cs, T, g1, g2, g3, g4, g5, g6, g7⟩
      · exact .inl ⟨g1, by rw [hout]; exact g2⟩
      · cases hbad
      · refine .inr <| .inr ⟨l, cs, T, by rw [hout]; exact g1, g2, g3, g4, g5, fun i row hrow => ⟨by
          simp only [Blk.row?, Option.map_eq_some_iff] at hrow
          obtain ⟨r, hr, rfl⟩ := hrow
          have := (g6 i (r.map (mkd c)) (by simp [Blk.row?, hr])).1
          simpa [Blk.k] using this, fun j x hx => ?_⟩, rfl⟩
        simp only [Blk.row?, Option.map_eq_some_iff] at hrow
        obtain ⟨r, hr, rfl⟩ := hrow
        simp only [List.getElem?_map, Option.map_eq_some_iff] at hx
        obtain ⟨d, hd, rfl⟩ := hx
        have ed : mkd (c || (z && q0Y rows)) d = mkd c d := by
          cases hf : q0Y rows with
          | false => simp
          | true => simp only [mkd, z0N hf hr hd, if_true]
        rw [ed]
        obtain ⟨v, e1, e2, e3⟩ := (g6 i (r.map (mkd c)) (by simp [Blk.row?, hr])).2 j (mkd c d) (by simp [hd])
        refine ⟨v, e1, e2, ?_⟩
        refine e3.keep0 (p := fun _ => true) hsub (fun _ _ _ h => by cases h) ?_
        unfold mkd
        split <;> rfl
    · rename_i k rows hlk
      simp only [Option.map_eq_some_iff] at hb
      obtain ⟨rows', hrows, rfl⟩ := hb
      obtain ⟨p1, p2⟩ := q0u hrows
      rcases h.blk _ _ hlk with ⟨g1, g2⟩ | ⟨_, _, _, _, hbad, _⟩ | ⟨l, cs, T, g1, g2, g3, g4, g5, g6, g7⟩
      · exact .inl ⟨by simp only [Blk.n] at g1 ⊢; omega, by rw [hout]; exact g2⟩
      · cases hbad
      · refine .inr <| .inr ⟨l, cs, T, by rw [hout]; exact g1, g2, g3, by simp only [Blk.n] at g4 ⊢; omega, g5, fun i row hrow => ?_, rfl⟩
        simp only [Blk.row?] at hrow
        have hi' : i < rows.length := by rw [← p1]; exact (List.getElem?_eq_some_iff.1 hrow).1
        obtain ⟨row', hrow', hm'⟩ := p2 i _ (List.getElem?_eq_getElem hi')
        rw [hrow] at hrow'
        obtain rfl := Option.some.inj hrow'
        obtain ⟨q1, q2⟩ := q0u hm'
        obtain ⟨r1, r2⟩ := g6 i rows[i] (by simp [Blk.row?, hi'])
        refine ⟨by simp only [Blk.k] at r1 ⊢; omega, fun j x hx => ?_⟩
        have hj : j < rows[i].length := by rw [← q1]; exact (List.getElem?_eq_some_iff.1 hx).1
        obtain ⟨x', hx', hfx⟩ := q2 j _ (List.getElem?_eq_getElem hj)
        rw [hx] at hx'
        obtain rfl := Option.some.inj hx'
        obtain ⟨v, e1, e2, e3⟩ := r2 j _ (List.getElem?_eq_getElem hj)
        exact ⟨v, e1, e2, q82 h hy v _ x hfx e3⟩
    · rename_i es hlk
      simp only [Option.map_eq_some_iff] at hb
      obtain ⟨es', hes, rfl⟩ := hb
      obtain ⟨p1, p2⟩ := q0u hes
      rcases h.blk _ _ hlk with ⟨g1, _⟩ | ⟨l, xs, ck, ds, hds, g1, g2, g3, g4, g5⟩ | ⟨_, _, _, _, _, _, _, _, _, hbad⟩
      · refine .inl ⟨?_, by rw [hout]; assumption⟩
        have hk := q7T hes
        simp only [Blk.n, q8S, hk] at g1 ⊢
        exact g1
      · obtain rfl : es = ds := by injection hds
        refine .inr (.inl ⟨l, xs, ck, es', rfl, by rw [hout]; exact g1, g2.ofO rfl hes (fun q hq y hy v hv => z8Y hy hv), g3, g4, by rw [g5.1, p1], fun j e p he hp => ?_⟩)
        have hj : j < es.length := by rw [← p1]; exact (List.getElem?_eq_some_iff.1 hp).1
        obtain ⟨y, hy', hfy⟩ := p2 j _ (List.getElem?_eq_getElem hj)
        rw [hp] at hy'
        obtain rfl := Option.some.inj hy'
        simp only [Option.map_eq_some_iff] at hfy
        obtain ⟨u, hu, rfl⟩ := hfy
        obtain ⟨q1, q2, q3⟩ := g5.2 j e _ he (List.getElem?_eq_getElem hj)
        exact ⟨q1, q2.flat q1, q6w h hy _ _ u hu q3⟩
      · simp [Blk.entries] at hbad
    · cases hb
  · obtain ⟨b, hb, h3⟩ := q7E h1
    obtain ⟨b', hb', h4⟩ := q7E h2
    obtain rfl := h.inj b b' l l' h3 h4 he
    have hi := (List.getElem?_eq_some_iff.1 hb).1
    exact (List.getElem?_inj hi hbs).1 (hb.trans hb'.symm)
  · obtain ⟨b, hb, h3⟩ := q7E hi
    obtain ⟨o1, o2, o3, o4⟩ := h.own b l h3
    refine ⟨by rw [m1]; exact (List.getElem?_eq_some_iff.1 hb).1, ?_, o3.imp id (fun hx => ?_), o4⟩
    · rintro (hF | ⟨b', l', hl', he⟩)
      · exact o2 hF
      · obtain ⟨h5, h6⟩ := q5h hl'
        obtain rfl := h.inj b' b l' l h6 h3 he
        have : b' ∈ bs := List.mem_of_getElem? hb
        simp [this] at h5
    · have := (List.getElem?_inj (List.getElem?_eq_some_iff.1 hb).1 hbs).1 (hb.trans (hX b _ hx).symm)
      rw [this]
      exact hx
  · rcases hb with hb | ⟨i, l, hl, rfl⟩
    · exact h.fro b hb
    · exact (h.own i l (q5h hl).2).2.2.2

def z8m (tmps : Array Value) (rv : ResultVar) : Sem Value := match rv with
  | .tmp t => pure (tmps.getD t undef)
  | .cell b t => do loadVar t (← asAddr (tmps.getD b undef))

theorem z3H (fn : Func) (tmps : Array Value) : results fn tmps = (do
    let vs ← fn.results.mapM (z8m tmps)
    pure (if h : vs.size = 1 then vs[0] else .tuple vs)) := by
  unfold results
  congr 1

theorem q5J {K : Cx} {n m0 : Nat} {σ0 : Nat → Option Loc} {w0 : World} {F0 : Nat → Prop} {s : S} {a : Act} (h : StRel K X base w0 F0 m0 σ0 n s a w F σ) {fn : Func} {es : List E} {vs : List V} (he : mapO (resE P) fn.results.toList = some es) (hv : mapO (ev K s) es = some vs) :
    ∃ v, (results fn a.tmps).run P w = .ok v w ∧ RepV w F base σ v (q0b vs) := by
  have one : ∀ (rv : ResultVar) (e : E) (x : V), resE P rv = some e → ev K s e = some x → ∃ v, (z8m a.tmps rv).run P w = .ok v w ∧ RepV w F base σ v x := by
    intro rv e x he hx
    cases rv with
    | tmp t =>
      simp only [resE, Option.some.injEq] at he
      subst he
      simp only [ev] at hx
      exact ⟨_, rfl, h.rho t x hx⟩
    | cell b t =>
      simp only [resE] at he
      cases hi : P.info? t with
      | none => simp [hi] at he
      | some i =>
        cases hd : P.underlying t with
        | none => simp [hi, hd] at he
        | some d =>
          simp only [hi, hd, Option.some.injEq] at he
          subst he
          simp only [ev] at hx
          cases hp : look s.rho b with
          | none => simp [hp] at hx
          | some p =>
            simp only [hp] at hx
            rw [z7d] at hx
            cases hc : q4q s.heap p with
            | none => simp [hc] at hx
            | some xs =>
              simp only [hc, Option.bind_some] at hx
              obtain ⟨ba, of, hva, hcell⟩ := q55 h.heap hc (h.rho b p hp)
              obtain ⟨v, h1, h2⟩ := q5Q (P := P) hd hi hcell hx
              exact ⟨v, by simp [z8m, hva, asAddr, h1], h2⟩
  have many : ∀ (l : List ResultVar) (es : List E) (vs : List V), mapO (resE P) l = some es → mapO (ev K s) es = some vs → ∃ us : List Value, (l.mapM (z8m a.tmps)).run P w = .ok us w ∧ us.length = vs.length ∧ ∀ (j : Nat) (v : Value) (x : V), us[j]? = some v → vs[j]? = some x → RepV w F base σ v x := by
    intro l
    induction l with
    | nil =>
      intro es vs he hv
      simp only [mapO, Option.some.injEq] at he
      subst he
      simp only [mapO, Option.some.injEq] at hv
      subst hv
      exact ⟨[], by simp, rfl, fun j v x h => by simp at h⟩
    | cons rv l ih =>
      intro es vs he hv
      simp only [mapO] at he
      cases hr : resE P rv with
      | none => simp [hr] at he
      | some e =>
        cases hl : mapO (resE P) l with
        | none => simp [hr, hl] at he
        | some es' =>
          simp only [hr, hl, Option.some.injEq] at he
          subst he
          simp only [mapO] at hv
          cases hx : ev K s e with
          | none => simp [hx] at hv
          | some x =>
            cases hxs : mapO (ev K s) es' with
            | none => simp [hx, hxs] at hv
            | some xs =>
              simp only [hx, hxs, Option.some.injEq] at hv
              subst hv
              obtain ⟨v, h1, h2⟩ := one rv e x hr hx
              obtain ⟨us, h3, h4, h5⟩ := ih es' xs hl hxs
              refine ⟨v :: us, ?_, by simp [h4], fun j u y hu hy => ?_⟩
              · rw [List.mapM_cons, Sem.run_bind, h1]
                show Sem.run P (do let a ← List.mapM _ l; pure (v :: a)) w = _
                rw [Sem.run_bind, h3]
                rfl
              · cases j with
                | zero => simp only [List.getElem?_cons_zero, Option.some.injEq] at hu hy; subst hu; subst hy; exact h2
                | succ j => exact h5 j u y (by simpa using hu) (by simpa using hy)
  obtain ⟨us, h1, h2, h3⟩ := many _ es vs he hv
  refine ⟨if h : us.length = 1 then us[0] else .tuple us.toArray, ?_, ?_⟩
  · rw [z3H, Sem.run_bind]
    rw [Array.mapM_eq_mapM_toList, ← bind_pure_comp, Sem.run_bind, h1]
    show Sem.run P (pure (if h : us.toArray.size = 1 then us.toArray[0] else .tuple us.toArray)) w = _
    by_cases hu : us.length = 1
    · rw [dif_pos hu, dif_pos (by simpa using hu)]; rfl
    · rw [dif_neg hu, dif_neg (by simpa using hu)]; rfl
  · match us, vs, h2, h3 with
    | [], [], _, h3 => exact .tup _ _ rfl fun j v x hv hx => h3 j v x (by simp at hv) hx
    | [u], [x], _, h3 => exact h3 0 u x rfl rfl
    | u1 :: u2 :: us, x1 :: x2 :: xs, h2, h3 =>
      simp only [List.length_cons, Nat.reduceEqDiff, q0b]
      rw [dif_neg (by simp)]
      exact .tup _ _ (by simpa using h2) fun j v x hv hx => h3 j v x (by simpa using hv) hx

theorem z0z (l : List V) : ∀ (k t : Nat) (v : V), look ((l.zipIdx k).map fun (v, i) => (i, v)) t = some v → k ≤ t ∧ l[t - k]? = some v := by
  induction l with
  | nil => intro k t v h; simp [look] at h
  | cons x l ih =>
    intro k t v h
    simp only [List.zipIdx_cons, List.map_cons, look] at h
    split at h
    · rename_i he
      subst he
      exact ⟨Nat.le_refl _, by simpa using h⟩
    · obtain ⟨h1, h2⟩ := ih (k + 1) t v h
      refine ⟨by omega, ?_⟩
      have : t - k = (t - (k + 1)) + 1 := by omega
      rw [this, List.getElem?_cons_succ]
      exact h2

theorem z0l (hm : P.follows .mixedOrders = true) {K : Cx} (hd0 : K.dfr = []) (hK : K.Sound P) {f : FuncId} {g : Fun} {args : List V} {blks : List Blk} {r : V} {news : List Blk} {mv : List Nat} (hok : q09 P f blks.length args.length g = true) (hr : q0B K g args blks = some (r, news, mv))
    {w : World} {F : Nat → Prop} {σ : Nat → Option Loc} {vals : Array Value} (hG : GlobRel w F K.glob) (hH : HeapRel w F (OwnB σ) w.heap.size σ blks.length (indexed blks)) (hargs : Reps w F w.heap.size σ vals args) :
    q0S P f = true ∧ Calls P f vals w fun e w' => ∃ v F' σ', e = .returned v ∧ Frame (OwnB σ) w.heap.size w w' ∧ (∀ b, F b → F' b) ∧ (∀ b, F' b → F b ∨ w.heap.size ≤ b) ∧
      RepV w' F' w.heap.size σ' v r ∧ HeapRel w' F' (OwnB σ) w.heap.size σ' news.length (indexed news) ∧ ∀ i l, i < blks.length → σ i = some l → i ∉ mv → σ' i = some l := by
  unfold q09 at hok
  cases hf : P.funcs[f]? with
  | none => simp [hf] at hok
  | some fn =>
    cases hb : fn.body with
    | none => simp [hf, hb] at hok
    | some code =>
      simp only [hf, hb, Bool.and_eq_true, decide_eq_true_eq] at hok
      obtain ⟨⟨⟨hc, hres⟩, hn⟩, hname⟩ := hok
      refine ⟨by simp [q0S, hf, hb, hname], ?_⟩
      refine calls_of_wp hf hb ?_
      have hst : StRel K (OwnB σ) w.heap.size w F blks.length σ fn.ntmps (startS args blks) { tmps := vals ++ Array.replicate (fn.ntmps - vals.size) undef, defers := [] } w F σ := by
        refine ⟨hH, hG, Nat.le_refl _, .refl _ _ _, fun b hb => .inl hb, ?_, hd0.symm, fun t v hv => ?_, fun b blk h => ?_, fun _ _ _ h _ => h, Nat.le_refl _, fun b k hx => ?_, fun _ h => h⟩
        · have := hargs.1
          simp; omega
        · obtain ⟨_, hv'⟩ := z0z args 0 t v hv
          rw [Nat.sub_zero] at hv'
          have ht : t < vals.size := by rw [hargs.1]; exact (List.getElem?_eq_some_iff.1 hv').1
          have hget : (vals ++ Array.replicate (fn.ntmps - vals.size) undef).getD t undef = vals[t] := by
            rw [Array.getD_eq_getD_getElem?, Array.getElem?_append_left ht]
            simp [ht]
          show RepV w F w.heap.size σ ((vals ++ Array.replicate (fn.ntmps - vals.size) undef).getD t undef) v
          rw [hget]
          exact hargs.2 t _ v (by simp [ht]) hv'
        · have : (indexed blks).length = blks.length := by simp [indexed]
          simp only [startS] at h ⊢
          rw [q16] at h
          exact (List.getElem?_eq_some_iff.1 h).1
        · obtain ⟨l, hl, _⟩ := hx
          exact (hH.own b l hl).1
      have fin : ∀ (s : S) (a : Act) (w' : World) (F' : Nat → Prop) (σ' : Nat → Option Loc) (vs : List V), StRel K (OwnB σ) w.heap.size w F blks.length σ fn.ntmps s a w' F' σ' → mapO (ev K s) g.res = some vs → finish blks.length g.own s (q0b vs) = some (r, news, mv) →
          a.defers = [] ∧ ∃ v, (results fn a.tmps).run P w' = .ok v w' ∧ ∃ v' F' σ', Ending.returned v = .returned v' ∧ Frame (OwnB σ) w.heap.size w w' ∧ (∀ b, F b → F' b) ∧ (∀ b, F' b → F b ∨ w.heap.size ≤ b) ∧
            RepV w' F' w.heap.size σ' v' r ∧ HeapRel w' F' (OwnB σ) w.heap.size σ' news.length (indexed news) ∧ ∀ i l, i < blks.length → σ i = some l → i ∉ mv → σ' i = some l := by
        intro s a w' F' σ' vs hs hvs hfin
        obtain ⟨v, h1, h2⟩ := q5J hs hres hvs
        unfold finish at hfin
        simp only at hfin
        generalize (if g.own = true then q1N s.heap (refN s.heap + 64) [] (List.range blks.length ++ (q0b vs).refs) else List.range blks.length) = bs at hfin
        split at hfin
        case isFalse => cases hfin
        rename_i hc2
        simp only [Bool.and_eq_true, decide_eq_true_eq] at hc2
        obtain ⟨hnd, hpre⟩ := hc2
        cases h3 : finV (blks.length == 0) bs s.heap (q0b vs) with
        | none => simp [h3] at hfin
        | some r' =>
          cases h4 : mapO (finB (blks.length == 0) bs s.heap) bs with
          | none => simp [h3, h4] at hfin
          | some news' =>
            simp only [h3, h4, Option.some.injEq, Prod.mk.injEq] at hfin
            obtain ⟨rfl, rfl, rfl⟩ := hfin
            have hpin : ∀ b, b < blks.length → bs[b]? = some b := fun b hb' => by
              have : (bs.take blks.length)[b]? = some b := by rw [hpre]; simp [hb']
              simpa [List.getElem?_take, hb'] using this
            have hX : ∀ b k, OwnB σ b k → bs[b]? = some b := fun b k hx => hpin b (hs.xm b k hx)
            have hy : z4y (OwnB σ) w.heap.size bs σ' := by
              intro i l hl
              obtain ⟨hni, hl'⟩ := q5h hl
              rcases (hs.heap.own i l hl').2.2.1 with h | h
              · exact h
              · have := List.mem_of_getElem? (hX i _ h)
                simp [this] at hni
            refine ⟨hs.dfr.trans hd0, v, h1, v, FZ F' bs σ', outs bs σ', rfl, hs.frame, fun b hb' => .inl (hs.sub b hb'), fun b hb' => ?_, q81 hs.heap hy h3 h2, z0Q hs.heap hy hnd hX h4, fun i l hi hl hm' => ?_⟩
            · rcases hb' with hb' | ⟨i, l, hl, rfl⟩
              · exact hs.frz b hb'
              · exact .inr (hy i l hl)
            · unfold outs
              rw [hpin i hi]
              exact hs.stab i l hi hl (fun hc => hm' (List.mem_filter.2 ⟨List.mem_range.2 hi, by simpa [List.contains_eq_mem] using hc⟩))
      unfold q0B at hr
      cases hex : exec K g.body (startS args blks) with
      | none => simp [hex] at hr
      | some p =>
        obtain ⟨ex, s⟩ := p
        refine wp_mono (q3j hm hK g.body code _ _ _ _ _ _ hc hex hst) fun e a w' hp => ?_
        obtain ⟨rfl, F', σ', hs⟩ := hp
        cases ex with
        | nrm =>
          simp only [hex] at hr
          cases hvs : mapO (ev K s) g.res with
          | none => simp [hvs] at hr
          | some vs =>
            simp only [hvs] at hr
            exact fin s a w' F' σ' vs hs hvs hr
        | ret =>
          simp only [hex] at hr
          cases hvs : mapO (ev K s) g.res with
          | none => simp [hvs] at hr
          | some vs =>
            simp only [hvs] at hr
            exact fin s a w' F' σ' vs hs hvs hr
        | exit id => simp [hex] at hr
        | goto l => simp [hex] at hr

theorem q42 (hm : P.follows .mixedOrders = true) {K : Cx} (hK : K.Sound P) {f : FuncId} {g : Fun} {args : List V} {r : V} {news : List Blk} {mv : List Nat} (hok : q09 P f 0 args.length g = true) (hr : q0B K g args [] = some (r, news, mv)) (hd0 : K.dfr = [] := by rfl) :
    q0S P f = true ∧ q2s P K.glob f args r news := by
  have hcal : q0S P f = true := by
    unfold q09 at hok
    cases hf : P.funcs[f]? with
    | none => simp [hf] at hok
    | some fn =>
      cases hb : fn.body with
      | none => simp [hf, hb] at hok
      | some code =>
        simp only [hf, hb, Bool.and_eq_true] at hok
        simp [q0S, hf, hb, hok.2]
  refine ⟨hcal, fun w F vals hF hG hargs => ?_⟩
  have hX : ∀ b k, ¬ OwnB (fun _ => none) b k := by rintro b k ⟨l, h, _⟩; cases h
  have hH : HeapRel w F (OwnB fun _ => none) w.heap.size (fun _ => none) ([] : List Blk).length (indexed []) := ⟨fun b blk h => by simp [indexed, look] at h, fun b b' l l' h => (by cases h), fun b l h => (by cases h), hF⟩
  obtain ⟨_, h⟩ := z0l hm hd0 hK hok hr hG hH hargs
  refine h.mono fun e w' ⟨v, F', σ', he, hfr, _, hF', hR, hHr, _⟩ => ⟨v, F', σ', he, ⟨hfr.os, hfr.tape, hfr.output, hfr.size, fun k hk => hfr.block k hk (fun b => hX b k)⟩, hF', hR, ⟨hHr.blk, hHr.inj, fun b l hb => ?_, hHr.fro⟩⟩
  obtain ⟨o1, o2, o3, o4⟩ := hHr.own b l hb
  exact ⟨o1, o2, o3.imp id (fun hx => hX b _ hx), o4⟩

theorem z0Y (hm : P.follows .mixedOrders = true) {K : Cx} (hK : K.Sound P) {f : FuncId} {g : Fun} {args : List V} {blks : List Blk} {r : V} {news : List Blk} {mv : List Nat} (hok : q09 P f blks.length args.length g = true) (hr : q0B K g args blks = some (r, news, mv)) (hd0 : K.dfr = [] := by rfl) :
    q0S P f = true ∧ q5x P K.glob f args blks r news mv := by
  have hcal : q0S P f = true := by
    unfold q09 at hok
    cases hf : P.funcs[f]? with
    | none => simp [hf] at hok
    | some fn =>
      cases hb : fn.body with
      | none => simp [hf, hb] at hok
      | some code =>
        simp only [hf, hb, Bool.and_eq_true] at hok
        simp [q0S, hf, hb, hok.2]
  exact ⟨hcal, fun w F σ vals hG hH hargs => (z0l hm hd0 hK hok hr hG hH hargs).2⟩

end Go.Vm
end

section
namespace Go.Vm
theorem q7W{f:S→Option (Ex×S)}:∀ {n:Nat}{s:S}{r:Ex×S},iter f n s=some r→∀ m,n≤m→iter f m s=some r
 |0,s,r,h,m,_=>by simp [iter] at h
 |n+1,s,r,h,0,hm=>by omega
 |n+1,s,r,h,m+1,hm=>by
  simp only[iter] at h ⊢
  cases hf:f s with
  |none=>simp [hf] at h
  |some p=>
   obtain⟨e,s'⟩:=p
   cases e with
   |nrm=>simp only[hf] at h⊢;exact q7W h m (by omega)
   |exit id=>simpa [hf] using h
   |goto l=>simpa [hf] using h
   |ret=>simpa [hf] using h
theorem q43{f:S→Option (Ex×S)}{n:Nat}{s:S}{r:Ex×S}(h:iter f n s=some r):q5a f s=some r:=by
 have hex:∃ n,(iter f n s).isSome:=⟨n,by rw[h];rfl⟩
 unfold q5a
 rw[dif_pos hex]
 have hc:=hex.choose_spec
 obtain⟨r',hr'⟩:=Option.isSome_iff_exists.1 hc
 have h1:=q7W h (n+hex.choose) (by omega)
 have h2:=q7W hr' (n+hex.choose) (by omega)
 rw[hr',←h2,h1]
theorem q6s{f:Nat→Option (S→Option (Ex×S))}:∀ {n:Nat}{q:Option (Ex×S)}{r:Ex×S},q3H f n q=some r→∀ m,n≤m→q3H f m q=some r
 |0,q,r,h,m,_=>by simp [q3H] at h
 |n+1,q,r,h,0,hm=>by omega
 |n+1,q,r,h,m+1,hm=>by
  simp only[q3H] at h ⊢
  cases q with
  |none=>simp at h
  |some p=>
   obtain⟨e,s'⟩:=p
   cases e with
   |goto l=>
    simp only at h ⊢
    cases hl:f l with
    |none=>simp [hl] at h
    |some g=>simp only[hl] at h⊢;exact q6s h m (by omega)
   |nrm=>simpa using h
   |exit id=>simpa using h
   |ret=>simpa using h
theorem z5G{f:Nat→Option (S→Option (Ex×S))}{n:Nat}{q:Option (Ex×S)}{r:Ex×S}(h:q3H f n q=some r):z2v f q=some r:=by
 have hex:∃ n,(q3H f n q).isSome:=⟨n,by rw[h];rfl⟩
 unfold z2v
 rw[dif_pos hex]
 have hc:=hex.choose_spec
 obtain⟨r',hr'⟩:=Option.isSome_iff_exists.1 hc
 have h1:=q6s h (n+hex.choose) (by omega)
 have h2:=q6s hr' (n+hex.choose) (by omega)
 rw[hr',←h2,h1]
end Go.Vm
end

section
namespace Go.Vm
def thn(x:Option (Ex×S))(f:S→Option (Ex×S)):Option (Ex×S):=match x with
 |some (.nrm,s)=>f s
 |r=>r
theorem q0E(s:S) (f):thn (some (.nrm,s)) f=f s:=rfl
theorem z5x(s:S) (f):thn (some (.ret,s)) f=some (.ret,s):=rfl
theorem z8i(n:Nat)(s:S) (f):thn (some (.exit n,s)) f=some (.exit n,s):=rfl
theorem z8h(n:Nat)(s:S) (f):thn (some (.goto n,s)) f=some (.goto n,s):=rfl
def brn(x:Option V)(f g:S→Option (Ex×S))(s:S):Option (Ex×S):=match x with
 |some (.d _ (.bool b))=>if b then f s else g s
 |_=>none
theorem q49(c) (f g)(s:S):brn (some (.d c (.bool true))) f g s=f s:=rfl
theorem q3D(c) (f g)(s:S):brn (some (.d c (.bool false))) f g s=g s:=rfl
def blk(id:Nat)(x:Option (Ex×S)):Option (Ex×S):=match x with
 |some (.exit i,s')=>if i=id then some (.nrm,s') else some (.exit i,s')
 |r=>r
theorem q6D(id)(s:S):blk id (some (.nrm,s))=some (.nrm,s):=rfl
theorem z2g(id)(s:S):blk id (some (.ret,s))=some (.ret,s):=rfl
theorem z9C(id n)(s:S):blk id (some (.goto n,s))=some (.goto n,s):=rfl
theorem q3M(id i)(s:S):blk id (some (.exit i,s))=if i=id then some (.nrm,s) else some (.exit i,s):=rfl
def nrm(x:Option S):Option (Ex×S):=x.map fun s=>(.nrm,s)
theorem q0F(s:S):nrm (some s)=some (.nrm,s):=rfl
theorem q3y(K s):exec K .skip s=some (.nrm,s):=rfl
theorem q0R(K l s):exec K (.reg l) s=nrm (q26 K s l):=by
 simp only[exec,nrm];cases q26 K s l <;> rfl
theorem q0A(K a b s):exec K (.seq a b) s=thn (exec K a s) (exec K b):=by
 simp only[exec,thn];cases exec K a s with
 |none=>rfl
 |some p=>obtain⟨e,s'⟩:=p;cases e <;> rfl
theorem q3z(K e a b s):exec K (.cond e a b) s=brn (ev K s e) (exec K a) (exec K b) s:=by
 simp only[exec,brn]
 rcases ev K s e with _|v
 ·rfl
 ·cases v with
  |d c x=>cases x <;> rfl
  |_=>rfl
theorem q1q(K id c s):exec K (.block id c) s=blk id (exec K c s):=by
 simp only[exec,blk]
 rcases exec K c s with _|⟨e,s'⟩
 ·rfl
 ·cases e <;> rfl
theorem z6S(K id s):exec K (.exit id) s=some (.exit id,s):=rfl
theorem z6R(K l s):exec K (.goto l) s=some (.goto l,s):=rfl
theorem q4n(K s):exec K .ret s=some (.ret,s):=rfl
theorem q8a(K m l s):exec K (.tidy m l) s=nrm (q6Z m l s):=by
 simp only[exec,nrm];cases q6Z m l s <;> rfl
theorem exec_own(K t k s):exec K (.own t k) s=match look s.rho t with
  |some (.fs _ k' [])=>if k'=k then some (.nrm,⟨put s.rho t (.bsl s.nx 0 0),(s.nx,.dat true k []) :: s.heap,s.nx+1,s.mv⟩) else some (.nrm,s)
  |_=>some (.nrm,s):=rfl
def o1{α β:Type}(f:α→Option β)(x:Option α):Option β:=x.bind f
theorem q0P{α β:Type}(f:α→Option β)(a:α):o1 f (some a)=f a:=rfl
def o2{α β γ:Type}(f:α→β→Option γ)(x:Option α)(y:Option β):Option γ:=x.bind fun a=>y.bind fun b=>f a b
theorem q00{α β γ:Type}(f:α→β→Option γ)(a:α)(b:β):o2 f (some a) (some b)=f a b:=rfl
def o4(f:V→V→V→V→Option V)(x y z w:Option V):Option V:=x.bind fun a=>y.bind fun b=>z.bind fun c=>w.bind fun d=>f a b c d
theorem z5V(f:V→V→V→V→Option V)(a b c d:V):o4 f (some a) (some b) (some c) (some d)=f a b c d:=rfl
noncomputable def segs(K:Cx)(r:List Seg)(s:S):Option S:=q26 K s r
theorem q0I(K s):segs K [] s=some s:=rfl
theorem q0o(K s g r):q26 K s (g :: r)=o1 (segs K r) (q2G K s g):=by
 simp only[q26,o1,segs];cases q2G K s g <;> rfl
theorem q2j(K s g r):segs K (g :: r) s=o1 (segs K r) (q2G K s g):=q0o K s g r
def segL(K:Cx)(s:S)(g:Seg)(p:S×List Blk):Option S:=
 match q3K K p.1 g.lets with
  |some l=>if q8A K p.1 g.chk then match g.wr with
    |none=>some ⟨l++q0j p.1.rho g.keep,addBlks s.heap s.nx p.2,p.1.nx,s.mv⟩
    |some (d,wr)=>match wonB K p.1 g.wg with
     |some true=>match evWr K p.1 (addBlks s.heap s.nx p.2) wr with
      |some (H,v,q,nx)=>match d with
       |some d=>some ⟨(d,v) :: lose q (l++q0j p.1.rho g.keep),loseH q H,nx,q.ids++s.mv⟩
       |none=>some ⟨lose q (l++q0j p.1.rho g.keep),loseH q H,nx,q.ids++s.mv⟩
      |none=>none
     |some false=>some ⟨l++q0j p.1.rho g.keep,addBlks s.heap s.nx p.2,p.1.nx,s.mv⟩
     |none=>none
   else none
  |none=>none
def segW(K:Cx)(s s1:S)(news:List Blk)(keep:List Nat)(wr:Option (Option Nat×Wr))(won:Option Bool)(chk:Bool)(l:Option (List (Nat×V))):Option S:=
 match l with
 |some l=>if chk then match wr with
   |none=>some ⟨l++q0j s1.rho keep,addBlks s.heap s.nx news,s1.nx,s.mv⟩
   |some (d,wr)=>match won with
    |some true=>match evWr K s1 (addBlks s.heap s.nx news) wr with
     |some (H,v,q,nx)=>match d with
      |some d=>some ⟨(d,v) :: lose q (l++q0j s1.rho keep),loseH q H,nx,q.ids++s.mv⟩
      |none=>some ⟨lose q (l++q0j s1.rho keep),loseH q H,nx,q.ids++s.mv⟩
     |none=>none
    |some false=>some ⟨l++q0j s1.rho keep,addBlks s.heap s.nx news,s1.nx,s.mv⟩
    |none=>none
  else none
 |none=>none
theorem q0J(K s mks lets chk wr keep cnt aux wg):q2G K s ⟨mks,lets,chk,wr,keep,cnt,aux,wg,[]⟩=o1 (segL K s ⟨[],lets,chk,wr,keep,cnt,[],wg,[]⟩) (q3C K s mks):=by
 have h:∀ mv H1,z2K K s mv H1 ⟨mks,lets,chk,wr,keep,cnt,aux,wg,[]⟩:=fun mv H1 e he=>by simp at he
 have h2:q2G K s ⟨mks,lets,chk,wr,keep,cnt,aux,wg,[]⟩=q5Y K s ⟨mks,lets,chk,wr,keep,cnt,aux,wg,[]⟩:=by
  unfold q2G
  split
  ·rename_i s' he;rw[if_pos (h _ _),he]
  ·rename_i he;rw[he]
 rw[h2]
 simp only[q5Y,o1,segL];cases q3C K s mks <;> rfl
theorem q0Z(K s mks lets chk wr keep cnt aux wg late s1 news):segL K s ⟨mks,lets,chk,wr,keep,cnt,aux,wg,late⟩ (s1,news)=segW K s s1 news keep wr (wonB K s1 wg) (q8A K s1 chk) (q3K K s1 lets):=by
 simp only[segL,segW]
def segO(s:S)(d:Option Nat)(ρ:List (Nat×V))(x:Option (List (Nat×Blk)×V×Lost×Nat)):Option S:=match x with
 |some (H,v,q,nx)=>match d with
  |some d=>some ⟨(d,v) :: lose q ρ,loseH q H,nx,q.ids++s.mv⟩
  |none=>some ⟨lose q ρ,loseH q H,nx,q.ids++s.mv⟩
 |none=>none
theorem q1V(s d ρ H v q nx):segO s (some d) ρ (some (H,v,q,nx))=some ⟨(d,v) :: lose q ρ,loseH q H,nx,q.ids++s.mv⟩:=rfl
theorem q3r(s ρ H v q nx):segO s none ρ (some (H,v,q,nx))=some ⟨lose q ρ,loseH q H,nx,q.ids++s.mv⟩:=rfl
theorem q0x(K s s1 news keep won l):segW K s s1 news keep none won true (some l)=some ⟨l++q0j s1.rho keep,addBlks s.heap s.nx news,s1.nx,s.mv⟩:=rfl
theorem q1s(K s s1 news keep d wr l):segW K s s1 news keep (some (d,wr)) (some true) true (some l)=segO s d (l++q0j s1.rho keep) (evWr K s1 (addBlks s.heap s.nx news) wr):=by
 simp only[segW,segO,if_true]
theorem q40(K s s1 news keep d wr l):segW K s s1 news keep (some (d,wr)) (some false) true (some l)=some ⟨l++q0j s1.rho keep,addBlks s.heap s.nx news,s1.nx,s.mv⟩:=rfl
theorem q0y(K s):q3C K s []=some (s,[]):=rfl
def mksA(K:Cx)(s:S)(d:Nat)(r:List (Nat×Mk))(p:V×List Blk):Option (S×List Blk):=
 match q3C K ⟨put s.rho d p.1,s.heap,s.nx+p.2.length,s.mv⟩ r with
 |some (s',more)=>some (s',p.2++more)
 |none=>none
def mksB(news:List Blk)(p:S×List Blk):Option (S×List Blk):=some (p.1,news++p.2)
theorem q1Z(news s' more):mksB news (s',more)=some (s',news++more):=rfl
theorem q0U(K s d m r):q3C K s ((d,m) :: r)=o1 (mksA K s d r) (evMk K s m):=by
 simp only[q3C,o1,mksA];cases evMk K s m <;> rfl
theorem q10(K s d r v news):mksA K s d r (v,news)=o1 (mksB news) (q3C K ⟨put s.rho d v,s.heap,s.nx+news.length,s.mv⟩ r):=by
 simp only[mksA,o1];cases q3C K ⟨put s.rho d v,s.heap,s.nx+news.length,s.mv⟩ r <;> rfl
theorem q0p(K s):q3K K s []=some []:=rfl
def letC(d:Nat)(v:V)(l:List (Nat×V)):Option (List (Nat×V)):=some ((d,v) :: l)
theorem q01(d v l):letC d v l=some ((d,v) :: l):=rfl
theorem q0k(K s d e r):q3K K s ((d,e) :: r)=o2 (letC d) (ev K s e) (q3K K s r):=by
 simp only[q3K,o2,letC];cases ev K s e <;> cases q3K K s r <;> rfl
theorem q0z(K s):q8A K s []=true:=rfl
theorem q6y(K s e r):q8A K s (e :: r)=((ev K s e).isSome&&q8A K s r):=rfl
theorem q0H(K s):wonB K s []=some true:=rfl
theorem e_sl(K s t):ev K s (.sl t)=look s.rho t:=rfl
theorem q4Q(K s k n):ev K s (.int k n)=some (.int k n):=rfl
theorem z7g(K s b):ev K s (.bool b)=some (.bool b):=rfl
theorem j3M(K s l):ev K s (.str l)=some (.str l):=rfl
theorem z7f(K s k):ev K s (.nilsl k)=some (.fs true k []):=rfl
theorem j1A(K s):ev K s .nilif=some (.d false .nilif):=rfl
theorem e_un(K s o a):ev K s (.un o a)=o1 (evUn o) (ev K s a):=by
 simp only[ev,o1];cases ev K s a <;> rfl
theorem q8i(K s o a b):ev K s (.bin o a b)=o2 (evBin o) (ev K s a) (ev K s b):=by
 simp only[ev,o2];cases ev K s a <;> cases ev K s b <;> rfl
theorem e_eqs(K s n g ks a b):ev K s (.eqs n g ks a b)=o2 (q2H n g ks) (ev K s a) (ev K s b):=by
 simp only[ev,o2];cases ev K s a <;> cases ev K s b <;> rfl
def andV(x y:Option V):Option V:=match x,y with
 |some (.d _ (.bool x)),some (.d _ (.bool y))=>some (.bool (x&&y))
 |some (.d _ (.bool false)),_=>some (.bool false)
 |_,_=>none
theorem q2o(c c' x y):andV (some (.d c (.bool x))) (some (.d c' (.bool y)))=some (.bool (x&&y)):=by cases x <;> rfl
theorem q3n(c y):andV (some (.d c (.bool false))) y=some (.bool false):=by
 unfold andV;split <;> simp_all
theorem q8B(K s a b):ev K s (.and a b)=andV (ev K s a) (ev K s b):=rfl
def orV(x y:Option V):Option V:=match x,y with
 |some (.d _ (.bool x)),some (.d _ (.bool y))=>some (.bool (x||y))
 |some (.d _ (.bool true)),_=>some (.bool true)
 |_,_=>none
theorem z2A(c c' x y):orV (some (.d c (.bool x))) (some (.d c' (.bool y)))=some (.bool (x||y)):=by cases x <;> rfl
theorem z8w(c y):orV (some (.d c (.bool true))) y=some (.bool true):=by
 unfold orV;split <;> simp_all
theorem e_or(K s a b):ev K s (.or a b)=orV (ev K s a) (ev K s b):=rfl
def j3R(x a b:Option V):Option V:=match x with
 |some (.d _ (.bool x))=>if x then a else b
 |_=>none
theorem z4s(c x a b):j3R (some (.d c (.bool x))) a b=if x then a else b:=rfl
theorem j3P(K s c a b):ev K s (.cond c a b)=j3R (ev K s c) (ev K s a) (ev K s b):=rfl
theorem e_fa(K s o a):ev K s (.fa o a)=o1 (evFa o) (ev K s a):=by
 simp only[ev,o1];cases ev K s a <;> rfl
theorem e_ia(K s k a b):ev K s (.ia k a b)=o2 (evIa s.heap k) (ev K s a) (ev K s b):=by
 simp only[ev,o2];cases ev K s a <;> cases ev K s b <;> rfl
theorem e_aa(K s l k a b):ev K s (.aa l k a b)=o2 (evAa l k) (ev K s a) (ev K s b):=by
 simp only[ev,o2];cases ev K s a <;> cases ev K s b <;> rfl
theorem e_ix(K s a b):ev K s (.ix a b)=o2 evIx (ev K s a) (ev K s b):=by
 simp only[ev,o2];cases ev K s a <;> cases ev K s b <;> rfl
theorem e_ld(K s n g a):ev K s (.ld n g a)=o1 (evLd s.heap n g) (ev K s a):=by
 simp only[ev,o1];cases ev K s a <;> rfl
theorem q50(K s i a):ev K s (.ext i a)=o1 (evExt i) (ev K s a):=by
 simp only[ev,o1];cases ev K s a <;> rfl
theorem q6z(K s b a):ev K s (.len b a)=o1 (evLen b) (ev K s a):=by
 simp only[ev,o1];cases ev K s a <;> rfl
def z2V(H:List (Nat×Blk))(str bl bh bm:Bool)(k:Nat)(v l h m:V):Option V:=if str==v.isStr then z0W H bl bh bm k v l h m else none
theorem j3N(K s str bl bh bm k a lo hi mx):ev K s (.cut str bl bh bm k a lo hi mx)=o4 (z2V s.heap str bl bh bm k) (ev K s a) (ev K s lo) (ev K s hi) (ev K s mx):=by
 simp only[ev,o4,z2V];cases ev K s a <;> cases ev K s lo <;> cases ev K s hi <;> cases ev K s mx <;> rfl
def aggV:V→Option V
 |.tup vs=>some (.agg vs)
 |_=>none
theorem q4r(vs):aggV (.tup vs)=some (.agg vs):=rfl
theorem z17(K s a):ev K s (.agg a)=o1 aggV (ev K s a):=by
 simp only[ev,o1];cases ev K s a with
 |none=>rfl
 |some v=>cases v <;> rfl
theorem e_set(K s o n a b):ev K s (.set o n a b)=o2 (evSet o n) (ev K s a) (ev K s b):=by
 simp only[ev,o2];cases ev K s a <;> cases ev K s b <;> rfl
theorem j3O(K s k a):ev K s (.conv k a)=o1 (q0M k) (ev K s a):=by
 simp only[ev,o1];cases ev K s a <;> rfl
def j3S(K:Cx)(H:List (Nat×Blk))(f:FuncId):V→Option V
 |.tup vs=>q5f K H f vs
 |_=>none
theorem q08(K H f vs):j3S K H f (.tup vs)=q5f K H f vs:=rfl
theorem q2J(K s f a):ev K s (.call f a)=o1 (j3S K s.heap f) (ev K s a):=by
 simp only[ev,o1];cases ev K s a with
 |none=>rfl
 |some v=>cases v <;> rfl
def z92(K:Cx)(H:List (Nat×Blk)):V→V→Option V
 |.fn f caps,.tup vs=>q5f K H f (vs++caps)
 |_,_=>none
theorem z4v(K H f caps vs):z92 K H (.fn f caps) (.tup vs)=q5f K H f (vs++caps):=rfl
theorem j1B(K s f a):ev K s (.callv f a)=o2 (z92 K s.heap) (ev K s f) (ev K s a):=by
 simp only[ev,o2];cases ev K s f with
 |none=>rfl
 |some v=>cases ev K s a with
  |none=>cases v <;> rfl
  |some u=>cases v <;> cases u <;> rfl
theorem q38(K s):ev K s .nil=some (.tup []):=rfl
def j3Q(v:V):V→Option V
 |.tup vs=>some (.tup (v :: vs))
 |_=>none
theorem q07(v vs):j3Q v (.tup vs)=some (.tup (v :: vs)):=rfl
theorem q2I(K s a b):ev K s (.cons a b)=o2 j3Q (ev K s a) (ev K s b):=by
 simp only[ev,o2];cases ev K s a with
 |none=>rfl
 |some v=>cases ev K s b with
  |none=>rfl
  |some u=>cases u <;> rfl
def z04(own ps:Bool)(x:Option (V×List Blk)):Option V:=match x with
 |some (r,[])=>if ps then some r.renew else if own&&!r.new then none else some r
 |some (r,b :: bs)=>if own then none else view (indexed (b :: bs)) r
 |_=>none
theorem q1f(own r):z04 own false (some (r,[]))=if own&&!r.new then none else some r:=rfl
theorem z4w(own r):z04 own true (some (r,[]))=some r.renew:=rfl
def j3T(K:Cx)(f:FuncId)(own ps:Bool)(ws:List V):Option V:=z04 own ps (K.call f ws)
theorem q1n(K f own ps ws):j3T K f own ps ws=z04 own ps (K.call f ws):=rfl
theorem q04(C:Cx) (f vs):q8Q C f vs=(vs.all V.new&&!vs.all V.flatV&&C.loc f):=rfl
theorem q06(K H f vs):q5f K H f vs=o1 (j3T K f (vs.any V.own) (q8Q K f vs)) (mapO (view H) vs):=by
 unfold q5f
 cases mapO (view H) vs with
 |none=>rfl
 |some ws=>
  show _=z04 (vs.any V.own) (q8Q K f vs) (K.call f ws)
  cases hk:K.call f ws with
  |none=>simp [hk,z04]
  |some p=>obtain⟨r,news⟩:=p;cases news <;> simp [hk,z04]
def mapC{β:Type}(b:β)(bs:List β):Option (List β):=some (b :: bs)
theorem q1G{β:Type}(b:β) (bs):mapC b bs=some (b :: bs):=rfl
theorem q1b{α β:Type}(f:α→Option β):mapO f []=some []:=rfl
theorem q0X{α β:Type}(f:α→Option β) (a r):mapO f (a :: r)=o2 mapC (f a) (mapO f r):=by
 simp only[mapO,o2,mapC];cases f a <;> cases mapO f r <;> rfl
def mkBox(nx:Nat)(v:V):Option (V×List Blk):=if v.laid then some (.ptr nx 0 0,[.mix v.cells.length [v.cells]]) else none
theorem q2W(K s e):evMk K s (.box e)=o1 (mkBox s.nx) (ev K s e):=by
 simp only[evMk,o1,mkBox];cases ev K s e <;> rfl
theorem z3U:q6N []=false:=rfl
theorem z1G(t v r):q6N ((t,v) :: r)=if t=1000000000 then true else q6N r:=rfl
theorem q1F:q6m []=[]:=rfl
theorem q1p(t r):q6m (t :: r)=if t=1000000000 then [(t,.junk)] else q6m r:=rfl
def q9q(mk:Bool)(nx k:Nat)(z l c:V):Option (V×List Blk):=match z,l,c with
 |.tup zs,.d _ (.int _ n),.d _ (.int _ c)=>match mapO asD zs with
  |some ds=>if 0≤n∧n≤c∧c≤most∧ds.length=k∧0<k∧ds.all D.flat0 then some (bif mk then .bsx nx 0 n.toNat else .bsl nx 0 n.toNat,[.dat true k (List.replicate n.toNat ds)]) else none
  |none=>none
 |_,_,_=>none
def o3{β:Type}(f:V→V→V→Option β)(x y z:Option V):Option β:=x.bind fun a=>y.bind fun b=>z.bind fun c=>f a b c
theorem j0R{β:Type}(f:V→V→V→Option β)(a b c:V):o3 f (some a) (some b) (some c)=f a b c:=rfl
theorem z9i(K s k z l c):evMk K s (.mks k z l c)=o3 (q9q (q6N s.rho) s.nx k) (ev K s z) (ev K s l) (ev K s c):=by
 simp only[evMk,o3]
 cases ev K s z with
 |none=>rfl
 |some z=>cases ev K s l with
  |none=>cases z <;> rfl
  |some l=>cases ev K s c with
   |none=>
    cases z <;> try rfl
    cases l <;> try rfl
    rename_i d;cases d <;> rfl
   |some c=>
    cases z <;> try rfl
    cases l <;> try rfl
    rename_i d;cases d <;> try rfl
    cases c <;> try rfl
    rename_i d;cases d <;> rfl
def z9N(nx k:Nat):V→Option (V×List Blk)
 |.tup vs=>if vs.all (fun v=>v.laid&&v.cells.length==k)&&decide (0<k) then some (.bsl nx 0 vs.length,[mkBlk k (vs.map V.cells)]) else none
 |_=>none
theorem z3S(nx k vs):z9N nx k (.tup vs)=if vs.all (fun v=>v.laid&&v.cells.length==k)&&decide (0<k) then some (.bsl nx 0 vs.length,[mkBlk k (vs.map V.cells)]) else none:=rfl
theorem z7a(K s k e):evMk K s (.lits k e)=o1 (z9N s.nx k) (ev K s e):=by
 simp only[evMk,o1];cases ev K s e with
 |none=>rfl
 |some v=>cases v <;> rfl
def mkOR(nx:Nat)(own:Bool)(x:Option (V×List Blk)):Option (V×List Blk):=match x with
 |some (r,news)=>if news.all Blk.plain&&(!own||(r.new2&&news.all Blk.new)) then some (r.shift nx,news) else if news.all Blk.lays&&(!own||(r.new2&&news.all Blk.newM)) then some (r.shift nx,news.map (Blk.shift nx)) else none
 |none=>none
theorem q2k(nx own r news):mkOR nx own (some (r,news))=if news.all Blk.plain&&(!own||(r.new2&&news.all Blk.new)) then some (r.shift nx,news) else if news.all Blk.lays&&(!own||(r.new2&&news.all Blk.newM)) then some (r.shift nx,news.map (Blk.shift nx)) else none:=rfl
def mkOA(K:Cx)(nx:Nat)(f:FuncId)(own:Bool)(ws:List V):Option (V×List Blk):=mkOR nx own (K.call f ws)
theorem q3P(K nx f own ws):mkOA K nx f own ws=mkOR nx own (K.call f ws):=rfl
def mkO(K:Cx)(s:S)(f:FuncId):V→Option (V×List Blk)
 |.tup vs=>o1 (mkOA K s.nx f (vs.any V.own)) (mapO (view s.heap) vs)
 |_=>none
theorem q3O(K s f vs):mkO K s f (.tup vs)=o1 (mkOA K s.nx f (vs.any V.own)) (mapO (view s.heap) vs):=rfl
theorem q1X(K s f e):evMk K s (.callo f e)=o1 (mkO K s f) (ev K s e):=by
 simp only[evMk,o1];cases ev K s e with
 |none=>rfl
 |some v=>
  cases v <;> try rfl
  rename_i vs
  simp only[Option.bind_some,mkO,o1]
  cases mapO (view s.heap) vs with
  |none=>rfl
  |some ws=>simp only[Option.bind_some,mkOA,mkOR];cases K.call f ws <;> rfl
def z1g(H:List (Nat×Blk))(nx n:Nat)(a x:V):Option (List (Nat×Blk)×V×Lost×Nat):=match a with
 |.ptr b i j=>if x.laid&&x.cells.length==n then match look H b with
    |some blk=>match blk.set i j x.cells with
     |some blk'=>some (put H b blk',.junk,.none,nx)
     |none=>none
    |none=>none
   else none
 |_=>none
def stB(H:List (Nat×Blk))(nx b:Nat)(x:Option Blk):Option (List (Nat×Blk)×V×Lost×Nat):=x.bind fun k=>some (put H b k,.junk,.none,nx)
theorem q4e(H nx b k):stB H nx b (some k)=some (put H b k,.junk,.none,nx):=rfl
def stA(H:List (Nat×Blk))(nx b i j:Nat)(cs:List V)(k:Blk):Option (List (Nat×Blk)×V×Lost×Nat):=stB H nx b (k.set i j cs)
theorem q7u(H nx b i j cs k):stA H nx b i j cs k=stB H nx b (k.set i j cs):=rfl
theorem q2t(H nx n b i j x):z1g H nx n (.ptr b i j) x=if x.laid&&x.cells.length==n then o1 (stA H nx b i j x.cells) (look H b) else none:=by
 simp only[z1g]
 split
 ·cases look H b with
  |none=>rfl
  |some k=>simp only[o1,Option.bind_some,stA,stB];cases k.set i j x.cells <;> rfl
 ·rfl
theorem q2R(K s H n a v):evWr K s H (.store n a v)=o2 (z1g H s.nx n) (ev K s a) (ev K s v):=by
 simp only[evWr,o2]
 cases ev K s a with
 |none=>rfl
 |some a=>cases ev K s v with
  |none=>cases a <;> rfl
  |some v=>cases a <;> rfl
def z8b(s:S)(H:List (Nat×Blk))(k:Nat)(x:V)(rows:Rows):Option (List (Nat×Blk)×V×Lost×Nat):=match x with
 |.bsl id i len=>match look H id with
  |some blk=>if i=0∧blk.n=len∧blk.k=k∧len+rows.n≤most then some (put H id (blk.app rows),.bsl id 0 (len+rows.n),.some id,s.nx) else none
  |none=>none
 |.fs _ k' []=>if k'=k∧rows.n≤most then some ((s.nx,rows.blk k) :: H,.bsl s.nx 0 rows.n,.none,s.nx+1) else none
 |_=>none
def apA(s:S)(H:List (Nat×Blk))(k id i len:Nat)(rows:Rows)(blk:Blk):Option (List (Nat×Blk)×V×Lost×Nat):=
 if i=0∧blk.n=len∧blk.k=k∧len+rows.n≤most then some (put H id (blk.app rows),.bsl id 0 (len+rows.n),.some id,s.nx) else none
theorem z5t(s H k id i len rows):z8b s H k (.bsl id i len) rows=o1 (apA s H k id i len rows) (look H id):=by
 simp only[z8b,o1,apA];cases look H id <;> rfl
theorem z8a(s H k c rows)(h:rows.n≤most):z8b s H k (.fs c k []) rows=some ((s.nx,rows.blk k) :: H,.bsl s.nx 0 rows.n,.none,s.nx+1):=if_pos ⟨rfl,h⟩
theorem z9h(K s H k a b):evWr K s H (.app k a b)=o2 (z8b s H k) (ev K s a) (o1 (q2b H k) (ev K s b)):=by
 simp only[evWr,o2,o1]
 cases ev K s a with
 |none=>rfl
 |some x=>cases ev K s b with
  |none=>cases x <;> rfl
  |some y=>
   simp only[Option.bind_some]
   cases q2b H k y <;> rfl
def j0k(K:Cx)(nx:Nat)(H:List (Nat×Blk))(f:FuncId):V→Option (List (Nat×Blk)×V×Lost×Nat)
 |.tup vs=>match q2Y f vs with
  |some (g,ws)=>q61 K nx H g ws (q1N H (refN H+64) [] (refsL ws))
  |none=>none
 |_=>none
theorem q1U{K nx H f vs}(h:(f==4294967295)=false):j0k K nx H f (.tup vs)=q61 K nx H f vs (q1N H (refN H+64) [] (refsL vs)):=by
 simp only[j0k,q2Y,dynF,h,Bool.false_eq_true,if_false]
theorem q1y(K s H f e):evWr K s H (.calle f e)=o1 (j0k K s.nx H f) (ev K s e):=by
 simp only[evWr,o1];cases ev K s e with
 |none=>rfl
 |some v=>cases v with
  |tup vs=>rfl
  |_=>rfl
def effR(nx:Nat)(H:List (Nat×Blk))(bs:List Nat)(p:V×List Blk×List Nat):Option (List (Nat×Blk)×V×Lost×Nat):=
 if bs.length≤p.2.1.length then some (putAll (q1I (p.2.2.map (q1k bs nx)) H) (q1k bs nx) 0 p.2.1,p.1.ren (q1k bs nx),.many (p.2.2.map (q1k bs nx)),nx+(p.2.1.length - bs.length)) else none
theorem q9E(nx H bs r b m):effR nx H bs (r,b,m)=if bs.length≤b.length then some (putAll (q1I (m.map (q1k bs nx)) H) (q1k bs nx) 0 b,r.ren (q1k bs nx),.many (m.map (q1k bs nx)),nx+(b.length - bs.length)) else none:=rfl
def effA(K:Cx)(nx:Nat)(H:List (Nat×Blk))(f:FuncId)(vs:List V)(bs:List Nat)(blks:List Blk):Option (List (Nat×Blk)×V×Lost×Nat):=o1 (effR nx H bs) (K.eff f (vs.map fun v=>v.dim.ren bs.idxOf) blks)
theorem q9F(K nx H f vs bs blks):effA K nx H f vs bs blks=o1 (effR nx H bs) (K.eff f (vs.map fun v=>v.dim.ren bs.idxOf) blks):=rfl
theorem q7c(K nx H f vs bs):q61 K nx H f vs bs=if decide bs.Nodup&&vs.all (V.within bs.contains)&&closedB H bs then o1 (effA K nx H f vs bs) (handed H bs) else none:=by
 unfold q61
 split
 ·cases handed H bs with
  |none=>rfl
  |some blks=>
   simp only[q0P,effA]
   cases K.eff f (vs.map fun v=>v.dim.ren bs.idxOf) blks with
   |none=>rfl
   |some p=>obtain⟨r,b,m⟩:=p;rfl
 ·rfl
theorem q7l(bs nx i):q1k bs nx i=(bs[i]?).getD (nx+(i - bs.length)):=by
 unfold q1k;cases bs[i]? <;> rfl
def wonV(b:Bool):Option V→Option Bool
 |some (.d _ (.bool x))=>some (x==b)
 |_=>none
theorem q4v(b c x):wonV b (some (.d c (.bool x)))=some (x==b):=rfl
theorem q4T(K s e b):wonB K s [(e,b)]=wonV b (ev K s e):=by
 simp only[wonB,wonV]
 cases ev K s e with
 |none=>rfl
 |some v=>cases v with
  |d c x=>cases x <;> rfl
  |_=>rfl
theorem q44{α:Type} (t):look ([]:List (Nat×α)) t=none:=rfl
def z6k{α:Type}(v:α)(r:List (Nat×α))(t:Nat):Bool→Option α
 |true=>some v
 |false=>look r t
theorem q0m{α:Type}(v:α) (r t):z6k v r t true=some v:=rfl
theorem q0i{α:Type}(v:α) (r t):z6k v r t false=look r t:=rfl
theorem q0s{α:Type} (k v r t):look ((k,v) :: r:List (Nat×α)) t=z6k v r t (k==t):=by
 simp only[look]
 by_cases h:k=t
 ·simp [h,z6k]
 ·have:(k==t)=false:=by simpa using h
  simp [h,this,z6k]
def putB{α:Type}(k:Nat)(u:α)(r:List (Nat×α))(t:Nat)(v:α):Bool→List (Nat×α)
 |true=>(t,v) :: r
 |false=>(k,u) :: put r t v
theorem q31{α:Type}(k:Nat)(u:α) (r t v):putB k u r t v true=(t,v) :: r:=rfl
theorem q0T{α:Type}(k:Nat)(u:α) (r t v):putB k u r t v false=(k,u) :: put r t v:=rfl
theorem q1Y{α:Type} (t v):put ([]:List (Nat×α)) t v=[(t,v)]:=rfl
theorem q1u{α:Type} (k u r t v):put ((k,u) :: r:List (Nat×α)) t v=putB k u r t v (k==t):=by
 simp only[put]
 by_cases h:k=t
 ·simp [h,putB]
 ·have:(k==t)=false:=by simpa using h
  simp [h,this,putB]
def resC{α:Type}(l:List (Nat×α))(t:Nat)(r:List Nat)(x:Option α):List (Nat×α):=match x with
 |some v=>(t,v) :: q0j l r
 |none=>q0j l r
theorem q0r{α:Type}(l:List (Nat×α)) (t r v):resC l t r (some v)=(t,v) :: q0j l r:=rfl
theorem q3Z{α:Type}(l:List (Nat×α)) (t r):resC l t r none=q0j l r:=rfl
theorem q0f{α:Type}(l:List (Nat×α)):q0j l []=[]:=rfl
theorem q0d{α:Type}(l:List (Nat×α)) (t r):q0j l (t :: r)=resC l t r (look l t):=rfl
noncomputable def endF(K:Cx)(res:List E)(own:Bool)(m:Nat)(x:Option (Ex×S)):Option (V×List Blk×List Nat):=match x with
 |some (.nrm,s)=>o1 (finish m own s) ((mapO (ev K s) res).map q0b)
 |some (.ret,s)=>o1 (finish m own s) ((mapO (ev K s) res).map q0b)
 |_=>none
theorem z9m(K res own m s):endF K res own m (some (.nrm,s))=o1 (finish m own s) ((mapO (ev K s) res).map q0b):=rfl
theorem q7d(K res own m s):endF K res own m (some (.ret,s))=o1 (finish m own s) ((mapO (ev K s) res).map q0b):=rfl
theorem q5H(K body res own args blks):q0B K ⟨body,res,own⟩ args blks=endF K res own blks.length (exec K body (startS args blks)):=by
 unfold q0B endF
 simp only
 cases exec K body (startS args blks) with
 |none=>rfl
 |some p=>
  obtain⟨e,s⟩:=p
  cases e <;> try rfl
  all_goals
   simp only[o1]
   cases mapO (ev K s) res <;> rfl
theorem q6O(f:S→Option (Ex×S))(s:S):q5a f s=match f s with
  |some (.nrm,s')=>q5a f s'
  |r=>r:=by
 have key:∀ r,q5a f s=some r→(match f s with|some (.nrm,s')=>q5a f s'|r=>r)=some r:=by
  intro r h
  unfold q5a at h
  split at h
  ·rename_i hex
   generalize hex.choose=n at h
   cases n with
   |zero=>simp [iter] at h
   |succ n=>
    simp only[iter] at h
    cases hf:f s with
    |none=>simp [hf] at h
    |some p=>
     obtain⟨e,s'⟩:=p
     cases e with
     |nrm=>simp only[hf] at h⊢;exact q43 h
     |_=>simpa [hf] using h
  ·cases h
 have back:∀ r,(match f s with|some (.nrm,s')=>q5a f s'|r=>r)=some r→q5a f s=some r:=by
  intro r h
  cases hf:f s with
  |none=>simp [hf] at h
  |some p=>
   obtain⟨e,s'⟩:=p
   cases e with
   |nrm=>
    simp only[hf] at h
    have h0:=h
    unfold q5a at h
    split at h
    ·rename_i hex
     exact q43 (n:=hex.choose+1) (by simp only[iter,hf];exact h)
    ·cases h
   |exit id=>exact q43 (n:=1) (by simpa [iter,hf] using h)
   |goto id=>exact q43 (n:=1) (by simpa [iter,hf] using h)
   |ret=>exact q43 (n:=1) (by simpa [iter,hf] using h)
 cases h1:q5a f s with
 |some r=>exact(key r h1).symm
 |none=>
  cases h2:(match f s with|some (.nrm,s')=>q5a f s'|r=>r) with
  |none=>rfl
  |some r=>rw[back r h2] at h1;cases h1
noncomputable def lp(K:Cx)(m:Nat)(sl:List Nat)(body:C)(s:S):Option (Ex×S):=match exec K body s with
 |some (.nrm,s')=>exec K (.loop (.seq (.tidy m sl) body)) s'
 |r=>r
noncomputable def lpT(K:Cx)(m:Nat)(sl:List Nat)(body:C)(x:Option (Ex×S)):Option (Ex×S):=match x with
 |some (.nrm,s')=>o1 (lp K m sl body) (q6Z m sl s')
 |r=>r
theorem q7P(K m sl body s):lpT K m sl body (some (.nrm,s))=o1 (lp K m sl body) (q6Z m sl s):=rfl
theorem z8H(K m sl body n s):lpT K m sl body (some (.exit n,s))=some (.exit n,s):=rfl
theorem z6i(K m sl body s):lpT K m sl body (some (.ret,s))=some (.ret,s):=rfl
theorem z8G(K m sl body n s):lpT K m sl body (some (.goto n,s))=some (.goto n,s):=rfl
theorem z0S(K m sl body s):exec K (.loop (.seq (.tidy m sl) body)) s=o1 (lp K m sl body) (q6Z m sl s):=by
 show q5a (exec K (.seq (.tidy m sl) body)) s=_
 rw[q6O,q0A,q8a]
 cases q6Z m sl s with
 |none=>rfl
 |some s'=>
  rw[q0F,q0E,q0P]
  rfl
theorem j2g(K m sl body s):lp K m sl body s=lpT K m sl body (exec K body s):=by
 unfold lp lpT
 cases exec K body s with
 |none=>rfl
 |some p=>
  obtain⟨e,s'⟩:=p
  cases e <;> try rfl
  exact z0S K m sl body s'
theorem q0K{K m sl body body' s}(h:body=body'):lp K m sl body s=lpT K m sl body (exec K body' s):=by
 subst h;exact j2g K m sl body s
end Go.Vm
end

section
namespace Go.Vm
def nth{α:Type} [Inhabited α](l:List α)(n:Int):α:=l.getD n.toNat default
theorem q2g{α:Type} [Inhabited α](l:List α)(i:Nat):nth l (i:Int)=l.getD i default:=by simp [nth]
theorem q9p{α:Type} [Inhabited α]{l:List α}{n:Int}(h:n.toNat<l.length):l[n.toNat]? = some (nth l n):=by
 unfold nth;rw[List.getD_eq_getElem?_getD,List.getElem?_eq_getElem h];rfl
theorem q7L{α:Type} [Inhabited α]{l:List α}{n:Int}(h:n.toNat<l.length):l[n.toNat]=nth l n:=by
 have:=q9p h
 rw[List.getElem?_eq_getElem h] at this
 exact Option.some.inj this
theorem q0O{α:Type} [Inhabited α]{l:List α}{i:Nat}(h:i<l.length):l.drop i=nth l (i:Int) :: l.drop (i+1):=by
 rw[List.drop_eq_getElem_cons h,←q7L (n:=(i:Int)) (by simpa using h)]
 simp
def j0s(m:Nat)(H:List (Nat×Blk))(mv:List Nat)(ρ:List (Nat×V))(bs:List Nat):Option S:=
 if decide bs.Nodup&&decide (bs.take m=List.range m)&&ρ.all (fun p=>p.2.within bs.contains)&&closedB H bs then
  some ⟨ρ.map fun p=>(p.1,p.2.ren bs.idxOf),bs.zipIdx.filterMap fun p=>(look H p.1).map fun k=>(p.2,k.ren bs.idxOf),bs.length,(List.range m).filter mv.contains⟩
 else none
def j1T(m:Nat)(H:List (Nat×Blk))(mv:List Nat)(ρ:List (Nat×V)):Option S:=j0s m H mv ρ (q1N H (refN H+64) [] (List.range m++refsL (ρ.map (·.2))))
theorem q6f(m slots ρ H nx mv):q6Z m slots ⟨ρ,H,nx,mv⟩=j1T m H mv (q0j ρ slots):=rfl
theorem q4Y(m H mv ρ):j1T m H mv ρ=j0s m H mv ρ (q1N H (refN H+64) [] (List.range m++refsL (ρ.map (·.2)))):=rfl
theorem q4X(m H mv ρ bs):j0s m H mv ρ bs=if decide bs.Nodup&&decide (bs.take m=List.range m)&&ρ.all (fun p=>p.2.within bs.contains)&&closedB H bs then
  some ⟨ρ.map fun p=>(p.1,p.2.ren bs.idxOf),bs.zipIdx.filterMap fun p=>(look H p.1).map fun k=>(p.2,k.ren bs.idxOf),bs.length,(List.range m).filter mv.contains⟩
 else none:=rfl
theorem q2B(H n done):q1N H n done []=done:=by cases n <;> rfl
def z2y(H:List (Nat×Blk))(n:Nat)(done:List Nat)(b:Nat)(todo:List Nat):Bool→List Nat
 |true=>q1N H n done todo
 |false=>q1N H n (done++[b]) (todo++(match look H b with|some k=>k.refs|none=>[]))
def z8r:Option Blk→List Nat
 |some k=>k.refs
 |none=>[]
theorem q2A(k):z8r (some k)=k.refs:=rfl
theorem q1R(H n done b todo):q1N H (n+1) done (b :: todo)=z2y H n done b todo (done.contains b):=by
 simp only[q1N];cases done.contains b <;> rfl
theorem z1w(H n done b todo):z2y H n done b todo true=q1N H n done todo:=rfl
theorem q1z(H n done b todo):z2y H n done b todo false=q1N H n (done++[b]) (todo++z8r (look H b)):=by
 simp only[z2y,z8r]
theorem j3L(H k c rows c' kd)(n:Int):evIa H k (.d c (.sl k rows)) (.d c' (.int kd n))=if 0≤n then(rows[n.toNat]?).map (fun row=>.d c (.ptr row)) else none:=by
 simp only[evIa]
 by_cases h:0≤n <;> simp [h]
 cases rows[n.toNat]? <;> rfl
theorem q6x{α:Type} [Inhabited α] (H k c)(l:List α)(e:α→List D) (c' kd)(n:Int)(h0:0≤n)(h:n<l.length):evIa H k (.d c (.sl k (l.map e))) (.d c' (.int kd n))=some (.d c (.ptr (e (nth l n)))):=by
 rw[j3L,if_pos h0,List.getElem?_map,q9p (by omega)];rfl
def iaB(k b i len:Nat)(n:Int)(blk:Blk):Option V:=if blk.k=k∧0≤n∧n<len then some (.ptr b (i+n.toNat) 0) else none
theorem q45(H k b i len c kd)(n:Int):evIa H k (.bsl b i len) (.d c (.int kd n))=o1 (iaB k b i len n) (look H b):=by
 simp only[evIa,o1,iaB];cases look H b <;> rfl
theorem z2U(H k b i len c kd)(n:Int):evIa H k (.bsx b i len) (.d c (.int kd n))=o1 (iaB k b i len n) (look H b):=by
 simp only[evIa,o1,iaB];cases look H b <;> rfl
theorem q5p(k b i)(len:Nat)(n:Int) (c rows)(h0:0≤n)(h:n<len):iaB k b i len n (.dat c k rows)=some (.ptr b (i+n.toNat) 0):=if_pos ⟨rfl,h0,h⟩
def ldR(n:Nat)(g:Bool)(j:Nat)(row:List V):Option V:=part g n (row.drop j)
theorem q2c(n g j row):ldR n g j row=part g n (row.drop j):=rfl
def ldB(n:Nat)(g:Bool)(i j:Nat)(blk:Blk):Option V:=o1 (ldR n g j) (blk.row? i)
theorem q2d(n g i j blk):ldB n g i j blk=o1 (ldR n g j) (blk.row? i):=rfl
theorem q1d(H n g b i j):evLd H n g (.ptr b i j)=o1 (ldB n g i j) (look H b):=by
 simp only[evLd,o1,ldB,ldR]
 cases look H b with
 |none=>rfl
 |some blk=>
  show _=o1 (ldR n g j) (blk.row? i)
  cases h:blk.row? i <;> simp [h,o1,ldR]
theorem q84(H n g c cells):evLd H n g (.d c (.ptr cells))=part g n (cells.map (mkd c)):=rfl
theorem q05(n cs):part true n cs=if n≤cs.length then some (.agg (cs.take n)) else none:=rfl
theorem q3a(v cs):part false 1 (v :: cs)=some v:=rfl
theorem q1i(k rows i):(Blk.mix k rows).row? i=rows[i]?:=rfl
theorem z5H(c k rows i):(Blk.dat c k rows).row? i=(rows[i]?).map (·.map (mkd c)):=rfl
theorem q4h{α:Type} [Inhabited α] (c k)(l:List α)(e:α→List D)(i:Nat)(h:i<l.length):(Blk.dat c k (l.map e)).row? i=some ((e (nth l i)).map (mkd c)):=by
 rw[z5H,List.getElem?_map,List.getElem?_eq_getElem h,q2g,List.getD_eq_getElem?_getD,List.getElem?_eq_getElem h];rfl
theorem q4f(k row rows j cells):(Blk.mix k (row :: rows)).set 0 j cells=if j+cells.length≤row.length then some (.mix k (splice j cells row :: rows)) else none:=by
 simp [Blk.set]
def setD(c:Bool)(k:Nat)(rows:List (List D))(row:List D)(i j:Nat)(cells:List V)(x:Option (List D)):Option Blk:=match x with
 |some ds=>some (.dat (c&&cells.all V.new1) k (rows.set i (splice j ds row)))
 |none=>some (.mix k ((rows.map (·.map (mkd c))).set i (splice j cells (row.map (mkd c)))))
theorem z5E(c k rows row i j cells ds):setD c k rows row i j cells (some ds)=some (.dat (c&&cells.all V.new1) k (rows.set i (splice j ds row))):=rfl
theorem z8k{α:Type} [Inhabited α] (c k)(l:List α)(e:α→List D) (i j cells)(hi:i<l.length):(Blk.dat c k (l.map e)).set i j cells=if j+cells.length≤(e (nth l i)).length then setD c k (l.map e) (e (nth l i)) i j cells (mapO asD cells) else none:=by
 have:(l.map e)[i]? = some (e (nth l i)):=by
  rw[List.getElem?_map,List.getElem?_eq_getElem hi,q2g,List.getD_eq_getElem?_getD,List.getElem?_eq_getElem hi];rfl
 simp only[Blk.set,this,setD]
 split
 ·cases mapO asD cells <;> rfl
 ·rfl
theorem q3U{x:Int}(h1 : -9223372036854775808≤x)(h2:x≤9223372036854775807):IntKind.i64.wrap x=x:=by
 unfold IntKind.wrap
 have e1:(2:Int) ^ IntKind.i64.bits=18446744073709551616:=by decide
 have e2:(2:Int) ^ (IntKind.i64.bits - 1)=9223372036854775808:=by decide
 simp only[e1,e2]
 have:IntKind.i64.signed=true:=rfl
 simp only[this,Bool.true_and,decide_eq_true_eq]
 split <;> omega
end Go.Vm
namespace Go.Vm
theorem eq_t{a b:Int}(h:a=b):(a==b)=true:=by simpa using h
theorem eq_f{a b:Int}(h:¬ a=b):(a==b)=false:=by simpa using h
theorem ne_t{a b:Int}(h:¬ a=b):(a != b)=true:=by simpa using h
theorem ne_f{a b:Int}(h:a=b):(a != b)=false:=by simp [h]
theorem j1Z{α:Type} (H k c)(l:List α)(e:α→List D):q2b H k (.d c (.sl k (l.map e)))=some (.dat (c||q0Y (l.map e)) (l.map e)):=by simp [q2b]
theorem z0O:q0Y []=true:=rfl
theorem q9A(r rows):q0Y (r :: rows)=(r.all D.flat&&q0Y rows):=rfl
theorem z0P{α:Type}(l:List α)(e:α→List D)(h:∀ x,(e x).all D.flat=true):q0Y (l.map e)=true:=by
 simp only[q0Y,List.all_map,List.all_eq_true,Function.comp]
 exact fun x _=>by simpa using h x
theorem j1H(s H k id len rs c rows)(h:rows.length=len)(h2:len+rs.n≤most):apA s H k id 0 len rs (.dat c k rows)=some (put H id ((Blk.dat c k rows).app rs),.bsl id 0 (len+rs.n),.some id,s.nx):=if_pos ⟨rfl,h,rfl,h2⟩
theorem q2z{α:Type} (n H b i len c k)(l:List α)(e:α→List D)(hb:look H b=some (.dat c k (l.map e)))(h:i+len≤l.length):q0c (n+1) H (.bsl b i len)=some (.sl k (((l.drop i).take len).map e)):=by
 simp only[q0c,hb,List.length_map,h,if_true,List.map_take,List.map_drop]
theorem ile_T{a b:Int}(h:a≤b):(a≤b)=True:=by simpa using h
theorem ile_F{a b:Int}(h:¬ a≤b):(a≤b)=False:=by simpa using h
theorem z3Z{a b:Int}(h:a<b):(a<b)=True:=by simpa using h
theorem z8S{a b:Int}(h:¬ a<b):(a<b)=False:=by simpa using h
theorem nle_T{a b:Nat}(h:a≤b):(a≤b)=True:=by simpa using h
theorem nlt_T{a b:Nat}(h:a<b):(a<b)=True:=by simpa using h
theorem q1m{α:Type}{l:List α}{n:Nat}(h:l.length≤n):l.take n=l:=List.take_of_length_le h
theorem q6d(n:Nat):((n:Int)+1).toNat=n+1:=by omega
theorem z9k(c c' k)(s:List UInt8)(n:Int)(h0:0≤n)(h:n<s.length):evIx (.d c (.str s)) (.d c' (.int k n))=some (.int .u8 (nth s n).toNat):=by
 simp only[evIx,h0,if_true]
 rw[q9p (by omega)]
theorem z5Y{α:Type} [Inhabited α](l:List α)(n:Int):nth l ((n.toNat:Nat):Int)=nth l n:=by
 unfold nth;rw[Int.toNat_natCast]
theorem z58:most=1099511627776:=rfl
theorem q7B:List.range 0=[]:=rfl
theorem q1t:List.range 1=[0]:=rfl
end Go.Vm
end

section
namespace Go.Vm
theorem z9j(K s):evMk K s .mkm=some (.map s.nx,[.map []]):=rfl
theorem e_lkp(K s ok kk z m k):ev K s (.lkp ok kk z m k)=o3 (q8f s.heap ok kk) (ev K s z) (ev K s m) (ev K s k):=by
 simp only[ev,o3];cases ev K s z <;> cases ev K s m <;> cases ev K s k <;> rfl
def lkO(ok:Bool)(z:V):Option (Option V)→Option V
 |some (some v)=>some (if ok then .tup [v,.bool true] else v)
 |some none=>some (if ok then .tup [z,.bool false] else z)
 |none=>none
theorem z8J(z v):lkO false z (some (some v))=some v:=rfl
theorem z8K(z):lkO false z (some none)=some z:=rfl
def lkB(ok:Bool)(kk:Nat)(z:V)(k:D):Blk→Option V
 |.map es=>lkO ok z (q5V kk k es)
 |_=>none
theorem j0Y(ok kk z k es):lkB ok kk z k (.map es)=lkO ok z (q5V kk k es):=rfl
theorem z7c(H ok kk z b c k):q8f H ok kk z (.map b) (.d c k)=o1 (lkB ok kk z k) (look H b):=by
 simp only[q8f,o1]
 cases look H b with
 |none=>rfl
 |some blk=>
  cases blk with
  |map es=>
   simp only[Blk.entries,Option.bind_some,lkB,lkO]
   cases q5V kk k es with
   |none=>rfl
   |some r=>cases r <;> rfl
  |_=>rfl
def stM(H:List (Nat×Blk))(nx b:Nat)(x:Option (List (D×V))):Option (List (Nat×Blk)×V×Lost×Nat):=x.bind fun es=>some (put H b (.map es),.junk,.none,nx)
theorem z2s(H nx b es):stM H nx b (some es)=some (put H b (.map es),.junk,.none,nx):=rfl
def msB(H:List (Nat×Blk))(nx b kk:Nat)(d:D)(x:V):Blk→Option (List (Nat×Blk)×V×Lost×Nat)
 |.map es=>stM H nx b (setE kk d x es)
 |_=>none
theorem z56(H nx b kk d x es):msB H nx b kk d x (.map es)=stM H nx b (setE kk d x es):=rfl
def z5q(H:List (Nat×Blk))(nx kk:Nat)(m k x:V):Option (List (Nat×Blk)×V×Lost×Nat):=match m,k with
 |.map b,.d _ d=>if x.laid then o1 (msB H nx b kk d x) (look H b) else none
 |_,_=>none
theorem q8G(H nx kk b c d x):z5q H nx kk (.map b) (.d c d) x=if x.laid then o1 (msB H nx b kk d x) (look H b) else none:=rfl
theorem z0U(K s H kk m k v):evWr K s H (.mset kk m k v)=o3 (z5q H s.nx kk) (ev K s m) (ev K s k) (ev K s v):=by
 simp only[evWr,o3]
 cases ev K s m with
 |none=>rfl
 |some a=>cases ev K s k with
  |none=>cases a <;> rfl
  |some b=>cases ev K s v with
   |none=>cases a <;> cases b <;> rfl
   |some c=>
    cases a <;> try rfl
    cases b <;> try rfl
    simp only[Option.bind_some,z5q]
    split
    ·rename_i b c' d _
     cases look H b with
     |none=>rfl
     |some blk=>
      cases blk with
      |map es=>simp only[Blk.entries,o1,Option.bind_some,msB,stM];cases setE kk d c es <;> rfl
      |_=>rfl
    ·rfl
def mcB(H:List (Nat×Blk))(nx b:Nat):Blk→Option (List (Nat×Blk)×V×Lost×Nat)
 |.map es=>if q2a es then none else some (put H b (.map []),.junk,.none,nx)
 |_=>none
theorem z6d(H nx b es)(h:q2a es=false):mcB H nx b (.map es)=some (put H b (.map []),.junk,.none,nx):=by simp [mcB,h]
def z5r(H:List (Nat×Blk))(nx:Nat):V→Option (List (Nat×Blk)×V×Lost×Nat)
 |.map b=>o1 (mcB H nx b) (look H b)
 |_=>none
theorem z3A(H nx b):z5r H nx (.map b)=o1 (mcB H nx b) (look H b):=rfl
theorem z68(K s H m):evWr K s H (.mclr m)=o1 (z5r H s.nx) (ev K s m):=by
 simp only[evWr,o1]
 cases ev K s m with
 |none=>rfl
 |some a=>
  cases a <;> try rfl
  rename_i b
  simp only[Option.bind_some,z5r,o1]
  cases look H b with
  |none=>rfl
  |some blk=>cases blk <;> rfl
def q3s(l:List (List UInt8)):List (D×V):=l.map fun m=>(.str m,.d false (.int .i64 1))
theorem z4e(n:List UInt8)(l:List (List UInt8)):q5V 2 (.str n) (q3s l)=some (if l.contains n then some (.d false (.int .i64 1)) else none):=by
 induction l with
 |nil=>rfl
 |cons m l ih=>
  simp only[q3s,List.map_cons,q5V,q3c,List.contains_cons] at ih ⊢
  by_cases h:n=m
  ·simp [h]
  ·have:(n==m)=false:=by simpa using h
   simp only[this,Bool.false_or]
   have hd:decide (n=m)=false:=by simpa using h
   simp only[hd]
   exact ih
theorem z0i(n:List UInt8)(l:List (List UInt8))(h:l.contains n=false):setE 2 (.str n) (.d false (.int .i64 1)) (q3s l)=some (q3s (l++[n])):=by
 induction l with
 |nil=>simp [q3s,setE,q3c]
 |cons m l ih=>
  simp only[List.contains_cons,Bool.or_eq_false_iff] at h
  have hd:decide (n=m)=false:=by simpa using h.1
  have ih:=ih h.2
  simp only[q3s,List.map_cons,setE,q3c,hd,List.cons_append] at ih ⊢
  rw[ih]
theorem z0j:q3s []=[]:=rfl
theorem z5F(l:List (List UInt8)):(q3s l).flatMap (fun q=>q.2.refs)=[]:=by
 induction l with
 |nil=>rfl
 |cons m l ih=>simp [q3s,V.refs]
theorem z1u(l:List (List UInt8))(p:Nat→Bool):(q3s l).all (fun q=>q.2.within p)=true:=by
 simp [q3s,V.within]
theorem z8l(l:List (List UInt8))(g:Nat→Nat):(q3s l).map (fun q=>(q.1,q.2.ren g))=q3s l:=by
 simp [q3s,V.ren]
theorem cast7:((7:Nat):Int)=7:=rfl
theorem q9Y(c x):wonV true (some (.d c (.bool x)))=some x:=by cases x <;> rfl
theorem e_s2r(K s a):ev K s (.s2r a)=o1 z69 (ev K s a):=by
 simp only[ev,o1];cases ev K s a <;> rfl
theorem e_sh(K s l a b):ev K s (.sh l a b)=o2 (evSh l) (ev K s a) (ev K s b):=by
 simp only[ev,o2];cases ev K s a <;> cases ev K s b <;> rfl
theorem e_b2s(K s a):ev K s (.b2s a)=o1 (z4n s.heap) (ev K s a):=by
 simp only[ev];cases ev K s a <;> rfl
end Go.Vm
end

section
namespace Go.Vm
def rwB(k i len:Nat):Blk→Option Rows
 |.dat c k' rows=>if k'=k∧i+len≤rows.length then some (.dat (c||q0Y rows) ((rows.drop i).take len)) else none
 |.mix k' rows=>if k'=k∧i+len≤rows.length then some (.mix ((rows.drop i).take len)) else none
 |.map _=>none
theorem z8n(H k b i len):q2b H k (.bsl b i len)=o1 (rwB k i len) (look H b):=by
 simp only[q2b,o1]
 cases look H b with
 |none=>rfl
 |some blk=>cases blk <;> rfl
theorem j0E(k i len c rows):rwB k i len (.dat c k rows)=if i+len≤rows.length then some (.dat (c||q0Y rows) ((rows.drop i).take len)) else none:=by simp [rwB]
end Go.Vm
end

section
namespace Go.Vm
def LN0:=PLift.up (And.intro (And.intro (And.intro @List.length_map.{0,0} (And.intro @List.length_append.{0} @List.length_take.{0})) (And.intro @List.length_drop.{0} (And.intro @List.length_replicate.{0} @List.length_set.{0}))) (And.intro (And.intro @List.length_cons.{0} (And.intro @List.length_nil.{0} @Rows.n.eq_1)) (And.intro (And.intro @Rows.n.eq_2 @z58) (And.intro @Int.toNat_natCast @Nat.zero_add))))
theorem LN:type_of% LN0.down:=LN0.down
def SX0:=PLift.up (And.intro (And.intro (And.intro (And.intro (And.intro (And.intro (And.intro (And.intro @e_sl @q0s) (And.intro @q0m @q00)) (And.intro (And.intro @q0i @q0P) (And.intro @List.length_nil.{0} (And.intro @List.map_nil.{0,0} @q0y)))) (And.intro (And.intro (And.intro @List.nil_append.{0} @List.append_nil.{0}) (And.intro @q0Z @q0H)) (And.intro (And.intro @q0z @q0k) (And.intro @q0p (And.intro @q01 @q0d))))) (And.intro (And.intro (And.intro (And.intro @q0r @q0f) (And.intro @addBlks.eq_1 @addBlks.eq_2)) (And.intro (And.intro @List.map_cons.{0,0} @q0A) (And.intro @q0J (And.intro @q0x @List.cons_append.{0})))) (And.intro (And.intro (And.intro @q0I @q0F) (And.intro @q0E (And.intro @List.zipIdx_nil.{0} @q0R))) (And.intro (And.intro @q0o @q6f) (And.intro @q4Y (And.intro @refsL.eq_1 @refsL.eq_2)))))) (And.intro (And.intro (And.intro (And.intro (And.intro @q2B @q4X) (And.intro @List.nodup_nil.{0} @List.all_nil.{0})) (And.intro (And.intro @closedB.eq_1 @Blk.ren.eq_1) (And.intro @Blk.ren.eq_2 (And.intro @Blk.ren.eq_3 @List.filterMap_nil.{0,0})))) (And.intro (And.intro (And.intro @List.filter_nil.{0} @q7B) (And.intro @List.all_cons.{0} (And.intro @V.within.eq_1 @V.within.eq_2))) (And.intro (And.intro @V.within.eq_4 @V.within.eq_5) (And.intro @V.within.eq_6 (And.intro @V.within.eq_7 @V.within.eq_8))))) (And.intro (And.intro (And.intro (And.intro @V.within.eq_9 @V.within.eq_10) (And.intro @V.within.eq_11 @V.ren.eq_1)) (And.intro (And.intro @V.ren.eq_2 @V.ren.eq_4) (And.intro @V.ren.eq_5 (And.intro @V.ren.eq_6 @V.ren.eq_7)))) (And.intro (And.intro (And.intro @V.ren.eq_8 @V.ren.eq_9) (And.intro @V.ren.eq_10 (And.intro @V.ren.eq_11 @q1m))) (And.intro (And.intro @q8i @List.length_cons.{0}) (And.intro @Blk.within.eq_1 (And.intro @Blk.within.eq_2 @Blk.within.eq_3))))))) (And.intro (And.intro (And.intro (And.intro (And.intro (And.intro @q3z @Option.map_some.{0,0}) (And.intro @q4Q @q8a)) (And.intro (And.intro @q0X @q1b) (And.intro @q1G (And.intro @e_ld @q1q)))) (And.intro (And.intro (And.intro @List.drop_zero.{0} @q1u) (And.intro @List.zipIdx_cons.{0} (And.intro @q1d @q2d))) (And.intro (And.intro @q2c @q1i) (And.intro @q3a (And.intro @q0U @q10))))) (And.intro (And.intro (And.intro (And.intro @q1Y @q1Z) (And.intro @e_fa @q0T)) (And.intro (And.intro @List.drop_succ_cons.{0} @q3D) (And.intro @q4n (And.intro @q49 @q2W)))) (And.intro (And.intro (And.intro @mkBox.eq_1 @List.take_zero.{0}) (And.intro @q7d (And.intro @finish.eq_1 @q3y))) (And.intro (And.intro @q5H @startS.eq_1) (And.intro @indexed.eq_1 (And.intro @q6y @Option.isSome_some.{0})))))) (And.intro (And.intro (And.intro (And.intro (And.intro @z7g @q38) (And.intro @loseH.eq_1 @loseH.eq_2)) (And.intro (And.intro @loseH.eq_3 @Lost.ids.eq_1) (And.intro @Lost.ids.eq_2 (And.intro @Lost.ids.eq_3 @q1s)))) (And.intro (And.intro (And.intro @q31 @q3r) (And.intro @q2I (And.intro @q07 @splice.eq_1))) (And.intro (And.intro @q2R @q2t) (And.intro @q7u (And.intro @q4e @q4f))))) (And.intro (And.intro (And.intro (And.intro @q05 @q6D) (And.intro @e_ia @z3Z)) (And.intro (And.intro @mkd.eq_1 @eq_f) (And.intro @viewDepth.eq_1 (And.intro @q6x @z5x)))) (And.intro (And.intro (And.intro @q84 @List.any_cons.{0}) (And.intro @List.any_nil.{0} (And.intro @q06 @q04))) (And.intro (And.intro @q1n @z17) (And.intro @q4r (And.intro @List.length_map.{0,0} @q2J)))))))) (And.intro (And.intro (And.intro (And.intro (And.intro (And.intro (And.intro @q08 @q6z) (And.intro @q8B @q2o)) (And.intro (And.intro @q1R @List.contains_nil.{0}) (And.intro @q1z (And.intro @q2A @Blk.refs.eq_1)))) (And.intro (And.intro (And.intro @Blk.refs.eq_2 @Blk.refs.eq_3) (And.intro @List.nodup_cons.{0} @List.not_mem_nil.{0})) (And.intro (And.intro @List.idxOf_cons.{0} @List.contains_cons.{0}) (And.intro @q1f (And.intro @q3U @List.filterMap_cons.{0,0}))))) (And.intro (And.intro (And.intro (And.intro @z7f @List.flatMap_cons.{0,0}) (And.intro @List.flatMap_nil.{0,0} @withinL.eq_1)) (And.intro (And.intro @withinL.eq_2 @renL.eq_1) (And.intro @renL.eq_2 (And.intro @e_or @z2A)))) (And.intro (And.intro (And.intro @z2g @q2j) (And.intro @e_un (And.intro @List.mem_cons.{0} @z8S))) (And.intro (And.intro @ile_T @q50) (And.intro @q7P (And.intro @j3M @q45)))))) (And.intro (And.intro (And.intro (And.intro (And.intro @q5p @z6i) (And.intro @nlt_T @z0S)) (And.intro (And.intro @q4h @q44) (And.intro @q3M (And.intro @z7a @z3S)))) (And.intro (And.intro (And.intro @nle_T @Option.map_none.{0,0}) (And.intro @List.take_succ_cons.{0} (And.intro @ile_F @z6S))) (And.intro (And.intro @z8i @q1V) (And.intro @e_set (And.intro @Option.some.injEq.{0} @z8H))))) (And.intro (And.intro (And.intro (And.intro @z4w @e_eqs) (And.intro @z8k @z5E)) (And.intro (And.intro @z9h @Rows.n.eq_1) (And.intro @Rows.n.eq_2 (And.intro @e_lkp @z7c)))) (And.intro (And.intro (And.intro @j0Y @z4e) (And.intro @q4T (And.intro @ne_t @z5F))) (And.intro (And.intro @z1u @z8l) (And.intro @z8n (And.intro @j0E @q9A))))))) (And.intro (And.intro (And.intro (And.intro (And.intro (And.intro @z0O @forgetR.eq_1) (And.intro @List.filter_cons.{0} @q1y)) (And.intro (And.intro @q1U @q7c) (And.intro @handed.eq_1 (And.intro @Blk.dim.eq_1 @Blk.dim.eq_2)))) (And.intro (And.intro (And.intro @Blk.dim.eq_3 @q9F) (And.intro @V.dim.eq_1 (And.intro @V.dim.eq_2 @V.dim.eq_3))) (And.intro (And.intro @V.dim.eq_4 @V.dim.eq_5) (And.intro @V.dim.eq_6 (And.intro @V.dim.eq_7 @V.dim.eq_8))))) (And.intro (And.intro (And.intro (And.intro @V.dim.eq_10 @V.dim.eq_11) (And.intro @q9E @putAll.eq_1)) (And.intro (And.intro @putAll.eq_2 @q7l) (And.intro @Option.getD_some.{0} (And.intro @z8K @z5t)))) (And.intro (And.intro (And.intro @j1H @Blk.app.eq_1) (And.intro @Blk.app.eq_2 (And.intro @Blk.app.eq_3 @Blk.app.eq_4))) (And.intro (And.intro @restH.eq_1 @z5Y) (And.intro @z9j (And.intro @q1X @q3O)))))) (And.intro (And.intro (And.intro (And.intro (And.intro @q3P @q2k) (And.intro @Blk.plain.eq_1 @Blk.plain.eq_2)) (And.intro (And.intro @Blk.plain.eq_3 @Blk.new.eq_1) (And.intro @Blk.new.eq_2 (And.intro @Blk.new.eq_3 @z8a)))) (And.intro (And.intro (And.intro @Rows.blk.eq_1 @Rows.blk.eq_2) (And.intro @q40 (And.intro @q3n @z9i))) (And.intro (And.intro @z58 @z1w) (And.intro @z9C (And.intro @z8h @cast7))))) (And.intro (And.intro (And.intro (And.intro @ne_f @z8J) (And.intro @z68 @z3A)) (And.intro (And.intro @z6d @List.set_cons_succ.{0}) (And.intro @List.set_cons_zero.{0} (And.intro @j3P @z4s)))) (And.intro (And.intro (And.intro @List.length_drop.{0} @List.length_take.{0}) (And.intro @e_ix (And.intro @z9k @q6d))) (And.intro (And.intro @j1B @z4v) (And.intro @j1Z (And.intro @z6R @z8G)))))))))
theorem SX:type_of% SX0.down:=SX0.down
def SV0:=PLift.up (And.intro SX (And.intro (And.intro @mkBlk.eq_1 (And.intro @j0R @forgetH.eq_1)) (And.intro (And.intro @Blk.forget.eq_1 @Blk.forget.eq_2) (And.intro @Blk.forget.eq_3 @finB.eq_1))))
theorem SV:type_of% SV0.down:=SV0.down
end Go.Vm
end

section
namespace Go.Vm
theorem z98   (c x):(V.d c x).refs=[]:=rfl
theorem z7C   (c k r):(V.fs c k r).refs=[]:=rfl
theorem z3a:(V.junk).refs=[]:=rfl
theorem z4N   (b i j):(V.ptr b i j).new1=false:=rfl
theorem z4Q   (b i n):(V.bsl b i n).new1=false:=rfl
theorem z4O   (b):(V.map b).new1=false:=rfl
theorem z4R   (cs):(V.agg cs).new1=false:=rfl
theorem z4M   (vs):(V.tup vs).new1=false:=rfl
theorem z7N   (f cs):(V.fn f cs).new1=false:=rfl
theorem z08   (t v):(V.iface t v).new1=false:=rfl
theorem z3e:(V.junk).new1=false:=rfl
theorem j1L   (c x):(V.d c x).new=(V.d c x).new1:=rfl
theorem j0a   (c k r):(V.fs c k r).new=(V.fs c k r).new1:=rfl
theorem z7J   (b i j):(V.ptr b i j).new=(V.ptr b i j).new1:=rfl
theorem z7M   (b i n):(V.bsl b i n).new=(V.bsl b i n).new1:=rfl
theorem z7K   (b):(V.map b).new=(V.map b).new1:=rfl
theorem j0b   (f cs):(V.fn f cs).new=(V.fn f cs).new1:=rfl
theorem z3d   (t v):(V.iface t v).new=(V.iface t v).new1:=rfl
theorem z4L:(V.junk).new=(V.junk).new1:=rfl
theorem z4G   (b i j):(V.ptr b i j).own1=true:=rfl
theorem z4J   (b i n):(V.bsl b i n).own1=true:=rfl
theorem z4H   (b):(V.map b).own1=true:=rfl
theorem z4K   (cs):(V.agg cs).own1=true:=rfl
theorem z4F   (vs):(V.tup vs).own1=true:=rfl
theorem z7I   (f cs):(V.fn f cs).own1=true:=rfl
theorem z07   (t v):(V.iface t v).own1=true:=rfl
theorem z3c:(V.junk).own1=true:=rfl
theorem j1K   (c x):(V.d c x).own=(V.d c x).own1:=rfl
theorem z99   (c k r):(V.fs c k r).own=(V.fs c k r).own1:=rfl
theorem z7E   (b i j):(V.ptr b i j).own=(V.ptr b i j).own1:=rfl
theorem z7H   (b i n):(V.bsl b i n).own=(V.bsl b i n).own1:=rfl
theorem z7F   (b):(V.map b).own=(V.map b).own1:=rfl
theorem z7D   (vs):(V.tup vs).own=(V.tup vs).own1:=rfl
theorem z3b   (t v):(V.iface t v).own=(V.iface t v).own1:=rfl
theorem z4E:(V.junk).own=(V.junk).own1:=rfl
theorem z4Z   (c k r):(V.fs c k r).flat1=false:=rfl
theorem z3m   (b i j):(V.ptr b i j).flat1=false:=rfl
theorem z3p   (b i n):(V.bsl b i n).flat1=false:=rfl
theorem z3n   (b):(V.map b).flat1=false:=rfl
theorem z3q   (cs):(V.agg cs).flat1=false:=rfl
theorem z3l   (vs):(V.tup vs).flat1=false:=rfl
theorem z43   (f cs):(V.fn f cs).flat1=false:=rfl
theorem q9V   (t v):(V.iface t v).flat1=false:=rfl
theorem z1b:(V.junk).flat1=false:=rfl
theorem z7Q   (c x):(V.d c x).flatV=(V.d c x).flat1:=rfl
theorem z4X   (c k r):(V.fs c k r).flatV=(V.fs c k r).flat1:=rfl
theorem z3h   (b i j):(V.ptr b i j).flatV=(V.ptr b i j).flat1:=rfl
theorem z3k   (b i n):(V.bsl b i n).flatV=(V.bsl b i n).flat1:=rfl
theorem z3i   (b):(V.map b).flatV=(V.map b).flat1:=rfl
theorem z3g   (vs):(V.tup vs).flatV=(V.tup vs).flat1:=rfl
theorem z4Y   (f cs):(V.fn f cs).flatV=(V.fn f cs).flat1:=rfl
theorem q9U   (t v):(V.iface t v).flatV=(V.iface t v).flat1:=rfl
theorem z1a:(V.junk).flatV=(V.junk).flat1:=rfl
theorem z97(H)  (c x):view H (V.d c x)=(q0c viewDepth H (V.d c x)).map (.d false):=rfl
theorem z7B(H)  (c k r):view H (V.fs c k r)=(q0c viewDepth H (V.fs c k r)).map (.d false):=rfl
theorem z4A(H)  (b i j):view H (V.ptr b i j)=(q0c viewDepth H (V.ptr b i j)).map (.d false):=rfl
theorem z4D(H)  (b i n):view H (V.bsl b i n)=(q0c viewDepth H (V.bsl b i n)).map (.d false):=rfl
theorem z4B(H)  (b):view H (V.map b)=(q0c viewDepth H (V.map b)).map (.d false):=rfl
theorem z4z(H)  (vs):view H (V.tup vs)=(q0c viewDepth H (V.tup vs)).map (.d false):=rfl
theorem z06(H)  (t v):view H (V.iface t v)=(q0c viewDepth H (V.iface t v)).map (.d false):=rfl
theorem z27(H):view H (V.junk)=(q0c viewDepth H (V.junk)).map (.d false):=rfl
theorem j0c   (c x):(V.d c x).laid=(V.d c x).cell:=rfl
theorem z7O   (c k r):(V.fs c k r).laid=(V.fs c k r).cell:=rfl
theorem z4T   (b i j):(V.ptr b i j).laid=(V.ptr b i j).cell:=rfl
theorem z4W   (b i n):(V.bsl b i n).laid=(V.bsl b i n).cell:=rfl
theorem z4U   (b):(V.map b).laid=(V.map b).cell:=rfl
theorem z4S   (vs):(V.tup vs).laid=(V.tup vs).cell:=rfl
theorem z7P   (f cs):(V.fn f cs).laid=(V.fn f cs).cell:=rfl
theorem z09   (t v):(V.iface t v).laid=(V.iface t v).cell:=rfl
theorem z3f:(V.junk).laid=(V.junk).cell:=rfl
theorem z7Z   (c x):(V.d c x).cells=[(V.d c x)]:=rfl
theorem z5i   (c k r):(V.fs c k r).cells=[(V.fs c k r)]:=rfl
theorem z3u   (b i j):(V.ptr b i j).cells=[(V.ptr b i j)]:=rfl
theorem z3x   (b i n):(V.bsl b i n).cells=[(V.bsl b i n)]:=rfl
theorem z3v   (b):(V.map b).cells=[(V.map b)]:=rfl
theorem z3t   (vs):(V.tup vs).cells=[(V.tup vs)]:=rfl
theorem z5j   (f cs):(V.fn f cs).cells=[(V.fn f cs)]:=rfl
theorem q9W   (t v):(V.iface t v).cells=[(V.iface t v)]:=rfl
theorem z1e:(V.junk).cells=[(V.junk)]:=rfl
theorem j0d(z) (bs) (H)  (c x):finV z bs H (V.d c x)=finA z bs H (V.d c x):=rfl
theorem z7R(z) (bs) (H)  (c k r):finV z bs H (V.fs c k r)=finA z bs H (V.fs c k r):=rfl
theorem z44(z) (bs) (H)  (b i j):finV z bs H (V.ptr b i j)=finA z bs H (V.ptr b i j):=rfl
theorem z48(z) (bs) (H)  (b i n):finV z bs H (V.bsl b i n)=finA z bs H (V.bsl b i n):=rfl
theorem z45(z) (bs) (H)  (b):finV z bs H (V.map b)=finA z bs H (V.map b):=rfl
theorem z49(z) (bs) (H)  (cs):finV z bs H (V.agg cs)=finA z bs H (V.agg cs):=rfl
theorem z7S(z) (bs) (H)  (f cs):finV z bs H (V.fn f cs)=finA z bs H (V.fn f cs):=rfl
theorem z1c(z) (bs) (H)  (t v):finV z bs H (V.iface t v)=finA z bs H (V.iface t v):=rfl
theorem z3r(z) (bs) (H):finV z bs H (V.junk)=finA z bs H (V.junk):=rfl
theorem j0e(z) (bs) (H)  (c x):finA z bs H (V.d c x)=finC z bs H (V.d c x):=rfl
theorem z7T(z) (bs) (H)  (c k r):finA z bs H (V.fs c k r)=finC z bs H (V.fs c k r):=rfl
theorem z5b(z) (bs) (H)  (b i j):finA z bs H (V.ptr b i j)=finC z bs H (V.ptr b i j):=rfl
theorem z5e(z) (bs) (H)  (b i n):finA z bs H (V.bsl b i n)=finC z bs H (V.bsl b i n):=rfl
theorem z5c(z) (bs) (H)  (b):finA z bs H (V.map b)=finC z bs H (V.map b):=rfl
theorem z5a(z) (bs) (H)  (vs):finA z bs H (V.tup vs)=finC z bs H (V.tup vs):=rfl
theorem z1d(z) (bs) (H)  (t v):finA z bs H (V.iface t v)=finC z bs H (V.iface t v):=rfl
theorem z3s(z) (bs) (H):finA z bs H (V.junk)=finC z bs H (V.junk):=rfl
theorem z5p   (cs):(V.agg cs).cell=false:=rfl
theorem z5k   (vs):(V.tup vs).cell=false:=rfl
theorem z3y:(V.junk).cell=false:=rfl
theorem j0i   (c x):(V.d c x).cell=true:=rfl
theorem z71   (c k r):(V.fs c k r).cell=true:=rfl
theorem z5l   (b i j):(V.ptr b i j).cell=true:=rfl
theorem z5o   (b i n):(V.bsl b i n).cell=true:=rfl
theorem z4P   (b i n):(V.bsx b i n).new1=false:=rfl
theorem z7L   (b i n):(V.bsx b i n).new=(V.bsx b i n).new1:=rfl
theorem z4I   (b i n):(V.bsx b i n).own1=true:=rfl
theorem z7G   (b i n):(V.bsx b i n).own=(V.bsx b i n).own1:=rfl
theorem z3o   (b i n):(V.bsx b i n).flat1=false:=rfl
theorem z3j   (b i n):(V.bsx b i n).flatV=(V.bsx b i n).flat1:=rfl
theorem z4C(H)  (b i n):view H (V.bsx b i n)=(q0c viewDepth H (V.bsx b i n)).map (.d false):=rfl
theorem z4V   (b i n):(V.bsx b i n).laid=(V.bsx b i n).cell:=rfl
theorem z3w   (b i n):(V.bsx b i n).cells=[(V.bsx b i n)]:=rfl
theorem z47(z) (bs) (H)  (b i n):finV z bs H (V.bsx b i n)=finA z bs H (V.bsx b i n):=rfl
theorem z5d(z) (bs) (H)  (b i n):finA z bs H (V.bsx b i n)=finC z bs H (V.bsx b i n):=rfl
theorem z5n   (b i n):(V.bsx b i n).cell=true:=rfl
theorem z5m   (b):(V.map b).cell=true:=rfl
theorem z73   (f cs):(V.fn f cs).cell=true:=rfl
theorem z1f   (t v):(V.iface t v).cell=true:=rfl
theorem j0h(k n):(D.int k n).flat=true:=rfl
theorem z7Y(b):(D.bool b).flat=true:=rfl
theorem j0f(s):(D.str s).flat=true:=rfl
theorem j1M(k r):(D.sl k r).flat=false:=rfl
theorem j0g(c):(D.ptr c).flat=false:=rfl
theorem z7V:(D.nilp).flat=true:=rfl
theorem z5f:(D.nilif).flat=true:=rfl
theorem z5g:(D.nilfn).flat=true:=rfl
theorem z5h(t c):(D.iface t c).flat=false:=rfl
theorem z7U(k):(D.nils k).flat=true:=rfl
theorem z7X(k):(D.emps k).flat=true:=rfl
theorem z7W:(D.nilm).flat=true:=rfl
def SW0:=PLift.up (And.intro (And.intro (And.intro (And.intro (And.intro @z4P @z7L) (And.intro @z4I (And.intro @z7G @z3o))) (And.intro (And.intro @z3j (And.intro @z4C @z4V)) (And.intro @z3w (And.intro @z47 @z5d)))) (And.intro (And.intro (And.intro @z5n @evLen.eq_5) (And.intro @V.drop1.eq_3 (And.intro @V.ref0.eq_3 @V.refs.eq_3))) (And.intro (And.intro @V.ren.eq_3 (And.intro @V.within.eq_3 @V.dim.eq_9)) (And.intro @finC.eq_5 (And.intro @V.isNilS.eq_2 @V.shift.eq_3))))) (And.intro (And.intro @z3U (And.intro @z1G (And.intro @q1F (And.intro @q1p (And.intro @z2U (And.intro @D.flat0.eq_1 (And.intro @D.flat0.eq_2 (And.intro @D.flat0.eq_3 (And.intro @D.flat0.eq_4 (And.intro @D.flat0.eq_5 (And.intro @D.flat0.eq_6 (And.intro @D.flat0.eq_7 (And.intro @D.flat0.eq_8 (And.intro @D.flat0.eq_9 (And.intro @D.flat0.eq_10 (And.intro @D.flat0.eq_11 @D.flat0.eq_12)))))))))))))))) (And.intro (And.intro (And.intro (And.intro (And.intro (And.intro (And.intro @beq_self_eq_true.{0} (And.intro @if_true.{1} @Bool.and_self)) (And.intro (And.intro @decide_true @Nat.zero_add) (And.intro @if_false.{1} @Bool.false_eq_true))) (And.intro (And.intro @Bool.or_true (And.intro @Bool.or_self @Bool.and_false)) (And.intro (And.intro @Bool.not_true @List.getElem?_cons_zero.{0}) (And.intro @Bool.false_and @Bool.or_false)))) (And.intro (And.intro (And.intro @Nat.le_refl (And.intro @decide_false @and_self)) (And.intro (And.intro @not_false_eq_true @cond_true.{1}) (And.intro @Nat.add_zero @Bool.and_true))) (And.intro (And.intro @Bool.not_false (And.intro @List.getElem?_cons_succ.{0} @or_self)) (And.intro (And.intro @cond_false.{1} @bne_self_eq_false.{0}) (And.intro @j3N @z5V))))) (And.intro (And.intro (And.intro (And.intro @Bool.true_or (And.intro @beq_iff_eq.{0} @or_false)) (And.intro (And.intro @eq_t @or_true) (And.intro @j1A @List.length_append.{0}))) (And.intro (And.intro @Int.toNat_natCast (And.intro @and_true @true_or)) (And.intro (And.intro @j3O @z8w) (And.intro @Bool.true_and @Prod.mk.injEq.{0,0})))) (And.intro (And.intro (And.intro @evBin.eq_1 (And.intro @evBin.eq_2 @intBin.eq_1)) (And.intro (And.intro @intBin.eq_2 @intBin.eq_3) (And.intro @intBin.eq_4 @intBin.eq_5))) (And.intro (And.intro @intBin.eq_6 (And.intro @intBin.eq_7 @intBin.eq_8)) (And.intro (And.intro @intBin.eq_9 @intBin.eq_10) (And.intro @intBin.eq_11 @intBin.eq_12)))))) (And.intro (And.intro (And.intro (And.intro (And.intro @intBin.eq_13 (And.intro @intBin.eq_14 @intBin.eq_15)) (And.intro (And.intro @evLen.eq_1 @evLen.eq_2) (And.intro @evLen.eq_3 @evLen.eq_4))) (And.intro (And.intro @evFa.eq_1 (And.intro @evFa.eq_2 @strBin.eq_1)) (And.intro (And.intro @strBin.eq_2 @strBin.eq_3) (And.intro @strBin.eq_4 @strBin.eq_5)))) (And.intro (And.intro (And.intro @strBin.eq_6 (And.intro @strBin.eq_7 @evUn.eq_1)) (And.intro (And.intro @evUn.eq_2 @evExt.eq_1) (And.intro @evSet.eq_1 @asD.eq_1))) (And.intro (And.intro @asD.eq_2 (And.intro @V.refs.eq_1 @V.refs.eq_2)) (And.intro (And.intro @V.refs.eq_4 @V.refs.eq_5) (And.intro @V.refs.eq_6 @V.refs.eq_7))))) (And.intro (And.intro (And.intro (And.intro @V.refs.eq_8 (And.intro @V.new1.eq_1 @V.new1.eq_2)) (And.intro (And.intro @V.new.eq_1 @V.new.eq_2) (And.intro @V.own.eq_1 @V.own.eq_2))) (And.intro (And.intro @V.own1.eq_1 (And.intro @V.own1.eq_2 @V.flat1.eq_1)) (And.intro (And.intro @V.flatV.eq_1 @view.eq_1) (And.intro @view.eq_2 @V.laid.eq_1)))) (And.intro (And.intro (And.intro @V.cells.eq_1 (And.intro @finC.eq_1 @finC.eq_2)) (And.intro (And.intro @finC.eq_3 @finC.eq_4) (And.intro @finC.eq_6 @finC.eq_7))) (And.intro (And.intro (And.intro @finA.eq_1 @finA.eq_2) (And.intro @finV.eq_1 @z98)) (And.intro (And.intro @z7C @z3a) (And.intro @z4N @z4Q))))))) (And.intro (And.intro (And.intro (And.intro (And.intro (And.intro @z4O (And.intro @z4R @z4M)) (And.intro (And.intro @z7N @z08) (And.intro @z3e @j1L))) (And.intro (And.intro @j0a (And.intro @z7J @z7M)) (And.intro (And.intro @z7K @j0b) (And.intro @z3d @z4L)))) (And.intro (And.intro (And.intro @z4G (And.intro @z4J @z4H)) (And.intro (And.intro @z4K @z4F) (And.intro @z7I @z07))) (And.intro (And.intro @z3c (And.intro @j1K @z99)) (And.intro (And.intro @z7E @z7H) (And.intro @z7F @z7D))))) (And.intro (And.intro (And.intro (And.intro @z3b (And.intro @z4E @z4Z)) (And.intro (And.intro @z3m @z3p) (And.intro @z3n @z3q))) (And.intro (And.intro @z3l (And.intro @z43 @q9V)) (And.intro (And.intro @z1b @z7Q) (And.intro @z4X @z3h)))) (And.intro (And.intro (And.intro @z3k (And.intro @z3i @z3g)) (And.intro (And.intro @z4Y @q9U) (And.intro @z1a @z97))) (And.intro (And.intro @z7B (And.intro @z4A @z4D)) (And.intro (And.intro @z4B @z4z) (And.intro @z06 @z27)))))) (And.intro (And.intro (And.intro (And.intro (And.intro @j0c (And.intro @z7O @z4T)) (And.intro (And.intro @z4W @z4U) (And.intro @z4S @z7P))) (And.intro (And.intro @z09 (And.intro @z3f @z7Z)) (And.intro (And.intro @z5i @z3u) (And.intro @z3x @z3v)))) (And.intro (And.intro (And.intro @z3t (And.intro @z5j @q9W)) (And.intro (And.intro @z1e @j0d) (And.intro @z7R @z44))) (And.intro (And.intro @z48 (And.intro @z45 @z49)) (And.intro (And.intro @z7S @z1c) (And.intro @z3r @j0e))))) (And.intro (And.intro (And.intro (And.intro @z7T (And.intro @z5b @z5e)) (And.intro (And.intro @z5c @z5a) (And.intro @z1d @z3s))) (And.intro (And.intro @z5p (And.intro @z5k @z3y)) (And.intro (And.intro @j0i @z71) (And.intro @z5l @z5o)))) (And.intro (And.intro (And.intro @z5m (And.intro @z73 @z1f)) (And.intro (And.intro @j0h @z7Y) (And.intro @j0f @j1M))) (And.intro (And.intro (And.intro @j0g @z7V) (And.intro @z5f @z5g)) (And.intro (And.intro @z5h @z7U) (And.intro @z7X @z7W))))))))))
theorem SW:type_of% SW0.down:=SW0.down
end Go.Vm
end

section
namespace Go.Vm
theorem q0l(K sl s):exec K (.keep sl) s=some (.nrm,skipM s sl):=rfl
theorem q0t(ρ H nx mv sl):skipM ⟨ρ,H,nx,mv⟩ sl=⟨q0j ρ sl++q6m sl,H,nx,mv⟩:=rfl
noncomputable def lpk(K:Cx)(sl:List Nat)(body:C)(s:S):Option (Ex×S):=match exec K body s with
 |some (.nrm,s')=>exec K (.loop (.seq (.keep sl) body)) s'
 |r=>r
noncomputable def lpkT(K:Cx)(sl:List Nat)(body:C)(x:Option (Ex×S)):Option (Ex×S):=match x with
 |some (.nrm,s')=>lpk K sl body (skipM s' sl)
 |r=>r
theorem q12(K sl body s):lpkT K sl body (some (.nrm,s))=lpk K sl body (skipM s sl):=rfl
theorem q1H(K sl body n s):lpkT K sl body (some (.exit n,s))=some (.exit n,s):=rfl
theorem z8F(K sl body s):lpkT K sl body (some (.ret,s))=some (.ret,s):=rfl
theorem q1e(K sl body s):exec K (.loop (.seq (.keep sl) body)) s=lpk K sl body (skipM s sl):=by
 show q5a (exec K (.seq (.keep sl) body)) s=_
 rw[q6O,q0A,q0l]
 simp only[q0E]
 unfold lpk
 cases exec K body (skipM s sl) with
 |none=>rfl
 |some p=>
  obtain⟨e,s'⟩:=p
  cases e <;> rfl
theorem j0X(K sl body s):lpk K sl body s=lpkT K sl body (exec K body s):=by
 unfold lpk lpkT
 cases exec K body s with
 |none=>rfl
 |some p=>
  obtain⟨e,s'⟩:=p
  cases e <;> try rfl
  exact q1e K sl body s'
theorem q1B{K sl body body' s}(h:body=body'):lpk K sl body s=lpkT K sl body (exec K body' s):=by
 subst h;exact j0X K sl body s
theorem q2C{a b:Nat}(h:a≠b):(a==b)=false:=by simpa using h
theorem q4j{α:Type}{k t:Nat}(v:α)(r:List (Nat×α))(h:k≠t):look ((k,v) :: r) t=look r t:=by simp only[look,if_neg h]
theorem q9t{α:Type}(k:Nat)(v:α)(r:List (Nat×α)):look ((k,v) :: r) k=some v:=by simp only[look,if_true]
theorem q0e{α:Type}{k t:Nat}(v:α)(r:List (Nat×α))(h:k≠t):look (put r k v) t=look r t:=by rw[q1c,if_neg h]
theorem q0Q{α:Type}(k:Nat)(v:α)(r:List (Nat×α)):look (put r k v) k=some v:=by rw[q1c,if_pos rfl]
theorem q5l(p:Nat→Bool)(H:List (Nat×Blk))(t:Nat):look (forgetH p H) t=(look H t).map (Blk.forget p):=by
 unfold forgetH;exact q23 (Blk.forget p) H t
theorem q4B{p:Nat→Bool}{H:List (Nat×Blk)}{t k:Nat}{c:Bool}{rows:List (List D)}(h:look H t=some (.dat c k rows)):look (forgetH p H) t=some (.dat c k rows):=by rw[q5l,h];rfl
theorem q74(p b k H):forgetH p ((b,k) :: H)=(b,k.forget p) :: forgetH p H:=rfl
end Go.Vm
end

section
namespace Go.Vm
structure Instr where
 op:Int
 a:Int
 b:Int
 deriving DecidableEq,Inhabited
structure Shape where
 name:List UInt8
 fields:Int
 deriving DecidableEq,Inhabited
structure Glob where
 name:List UInt8
 arity:Int
 code:List Instr
 deriving DecidableEq,Inhabited
structure Table where
 shapes:List Shape
 globals:List Glob
 deriving DecidableEq,Inhabited
def eInt(n:Int):List D:=[.int .i64 n]
def q0C(x:Instr):List D:=[.int .i64 x.op,.int .i64 x.a,.int .i64 x.b]
def q0g(s:Shape):List D:=[.str s.name,.int .i64 s.fields]
def q0G(g:Glob):List D:=[.str g.name,.int .i64 g.arity,.sl 3 (g.code.map q0C)]
theorem q0V(n):eInt n=[.int .i64 n]:=rfl
theorem q0h(x):q0C x=[.int .i64 x.op,.int .i64 x.a,.int .i64 x.b]:=rfl
theorem q0n(s):q0g s=[.str s.name,.int .i64 s.fields]:=rfl
theorem q0D(g):q0G g=[.str g.name,.int .i64 g.arity,.sl 3 (g.code.map q0C)]:=rfl
theorem z1T(l:List Instr) (i a b c):(l.map q0C).set i [D.int .i64 a,.int .i64 b,.int .i64 c]=(l.set i ⟨a,b,c⟩).map q0C:=by rw[List.map_set];rfl
theorem q78(l:List Int) (i b):(l.map eInt).set i [D.int .i64 b]=(l.set i b).map eInt:=by rw[List.map_set];rfl
theorem z4g(n b):List.replicate n [D.int .i64 b]=(List.replicate n b).map eInt:=by rw[List.map_replicate];rfl
theorem j1d(x:Instr):Instr.mk x.op x.a x.b=x:=rfl
theorem j1b(x:Shape):Shape.mk x.name x.fields=x:=rfl
end Go.Vm
end

section
namespace Go.Vm
theorem q2w{α:Type} [Inhabited α]{l:List α}{i:Int}(h0:0≤i)(h:i<l.length):nth l i∈l:=by
 rw[←q7L (n:=i) (by omega)];exact List.getElem_mem _
def q4I(b:UInt8):Bool:=decide (32≤(b.toNat:Int))&&decide ((b.toNat:Int)≤126)
def q1w(s:List UInt8):Bool:=s.all q4I&&(decide (1≤(s.length:Int))&&decide ((s.length:Int)≤4096))
def givenS:List Shape:=[⟨[70,97,108,115,101],0⟩,⟨[84,114,117,101],0⟩,⟨[85,110,105,116],0⟩,⟨[78,105,108],0⟩,⟨[67,111,110,115],2⟩,⟨[80,97,105,114],2⟩,⟨[84,114,105,112,108,101],3⟩]
def q25:List Glob→Int→Option Int
 |[],n=>some n
 |g :: r,n=>if 8000<(g.code.length:Int) then none else q25 r (n+g.code.length)
def q37(t:Table):Bool:=match q25 t.globals 0 with
 |none=>true
 |some n=>decide (2000<(t.shapes.length:Int))||decide (2000<(t.globals.length:Int))||decide (200000<n)
theorem z0K:∀(l:List Glob)(n m:Int),q25 l n=some m→n≤m∧m≤n+8000*l.length:=by
 intro l
 induction l with
 |nil=>intro n m h;simp only[q25,Option.some.injEq] at h;subst h;simp
 |cons g l ih=>
  intro n m h
  simp only[q25] at h
  split at h
  ·cases h
  ·have:=ih _ _ h
   simp only[List.length_cons]
   omega
def q1S(ng ns nc at_ n kind:Int):Int:=
 if kind=8 then(if n≤at_∨nc≤n then 174 else 0) else
 if(if kind=0 then decide (n=0) else if kind=1 then decide (0≤n) else if kind=2 then decide (1≤n)
  else if kind=3 then decide (-4611686018427387904≤n∧n≤4611686018427387903) else if kind=4 then decide (0≤n∧n<ng)
  else if kind=5 then decide (0≤n∧n<ns) else if kind=6 then decide (1≤n∧n≤11) else if kind=7 then decide (1≤n∧n≤4) else true) then 0 else 172
def q1E(Dp:List Int)(at_ d:Int):List Int:=if nth Dp at_=0 then Dp.set at_.toNat d else Dp
def q2v(Dp:List Int)(at_ d:Int):Bool:=if nth Dp at_=0 then true else nth Dp at_==d
theorem z0w{α:Type} [Inhabited α](l:List α)(i:Int)(x:α)(h0:0≤i)(h:i<l.length):nth (l.set i.toNat x) i=x:=by
 unfold nth
 rw[List.getD_eq_getElem?_getD,List.getElem?_set_self (by omega)]
 rfl
def q1T(sh:List Shape)(a:Int):Int:=(nth sh a).fields
def q03(sh:List Shape)(x:Instr)(d:Int):Int×Bool:=
 let r:Int×Bool:=
  if x.op=1 then(d+1,decide (x.a<d)) else if x.op=2∨x.op=3 then(d+1,true)
  else if x.op=4 then(d - x.a,decide (x.a<d)) else if x.op=5 then(d - x.a,decide (x.a<d - 1))
  else if x.op=6∨x.op=12 then(d - 1,decide (2<d)) else if x.op=7 then(d - 1,decide (x.a<d))
  else if x.op=8 then(d+(if 8000<x.a then 8000 else x.a),decide (x.a≤8000))
  else if x.op=9 then(d - q1T sh x.a+1,decide (q1T sh x.a<d)) else if x.op=10 then(d - 1+q1T sh x.a,decide (1<d))
  else if x.op=11∨x.op=14∨x.op=15 then(d,decide (1<d)) else if x.op=17 then(d,decide (d=1)) else(d,true)
 (r.1,r.2&&decide (r.1≤8000))
def z6I:List (List UInt8×Int×Int):=[([],0,0),([112,117,115,104],1,0),([103,108,111,98],4,0),([105,110,116],3,0),([112,111,112],1,0),([115,108,105,100,101],1,0),([97,112,112,108,121],0,0),([117,112,100,97,116,101],2,0),
 ([97,108,108,111,99],1,0),([112,97,99,107],5,0),([115,112,108,105,116],5,0),([101,118,97,108],0,0),([97,114,105,116,104],6,0),([106,117,109,112],8,0),([116,101,115,116,99,111,110],5,8),([116,101,115,116,105,110,116],3,8),([102,97,105,108],7,0),([117,110,119,105,110,100],0,0)]
def q2D(op:Int):List UInt8×Int×Int:=if 1≤op∧op<18 then nth z6I op else([],0,0)
def z5v(f:List UInt8×Int×Int)(ok:Bool):V:=.tup [.agg [.d false (.str f.1),.d false (.int .i64 f.2.1),.d false (.int .i64 f.2.2)],.d false (.bool ok)]
def q5L(ng ns nc i:Int)(x:Instr):Int:=
 if 1≤x.op∧x.op<18 then
  let a:=q1S ng ns nc i x.a (q2D x.op).2.1
  let b:=q1S ng ns nc i x.b (q2D x.op).2.2
  if a=172∨b=172 then 172 else if a≠0∨b≠0 then 174 else 0
 else 172
def q3b(ng ns nc:Int)(l:List Instr):Nat→Nat→Int
 |0,_=>0
 |k+1,i=>if q5L ng ns nc i (nth l i)=0 then q3b ng ns nc l k (i+1) else q5L ng ns nc i (nth l i)
theorem z4d(op:Int):(0≤(q2D op).2.1∧(q2D op).2.1≤8)∧(0≤(q2D op).2.2∧(q2D op).2.2≤8):=by
 unfold q2D
 by_cases h:1≤op∧op<18
 ·rw[if_pos h]
  have:op=1∨op=2∨op=3∨op=4∨op=5∨op=6∨op=7∨op=8∨op=9∨op=10∨op=11∨op=12∨op=13∨op=14∨op=15∨op=16∨op=17:=by omega
  clear h
  rcases this with rfl|rfl|rfl|rfl|rfl|rfl|rfl|rfl|rfl|rfl|rfl|rfl|rfl|rfl|rfl|rfl|rfl <;> decide
 ·rw[if_neg h];decide
theorem q7K(ng ns nc at_ n kind:Int):q1S ng ns nc at_ n kind=0∨q1S ng ns nc at_ n kind=172∨q1S ng ns nc at_ n kind=174:=by
 have key:∀ b:Bool,(if b=true then(0:Int) else 172)=0∨(if b=true then(0:Int) else 172)=172∨(if b=true then(0:Int) else 172)=174:=by
  intro b;cases b <;> simp
 unfold q1S
 split
 ·split <;> simp
 ·exact key _
def q3E(x:Instr):Int:=if x.op=13 then x.a else if x.op=14∨x.op=15 then x.b else 0
def q73(x:Instr):Bool:=x.op != 13&&x.op != 16&&x.op != 17
def depL(sh:List Shape)(cd:List Instr):Nat→Nat→List Int→Int
 |0,_,_=>0
 |k+1,i,Dp=>
  let x:=nth cd i
  let d:=nth Dp i
  if d=0 then 174 else
  if(q03 sh x d).2=false then 173 else
  if q73 x=true then
   if(i:Int)+1=cd.length then 174 else
   if q2v Dp (i+1) (q03 sh x d).1=false then 173 else
   if 0<q3E x then
    if q2v (q1E Dp (i+1) (q03 sh x d).1) (q3E x) (q03 sh x d).1=false then 173 else depL sh cd k (i+1) (q1E (q1E Dp (i+1) (q03 sh x d).1) (q3E x) (q03 sh x d).1)
   else depL sh cd k (i+1) (q1E Dp (i+1) (q03 sh x d).1)
  else if 0<q3E x then
    if q2v Dp (q3E x) (q03 sh x d).1=false then 173 else depL sh cd k (i+1) (q1E Dp (q3E x) (q03 sh x d).1)
   else depL sh cd k (i+1) Dp
structure NumOk(ns nc i:Int)(x:Instr):Prop where
 op:1≤x.op∧x.op<18
 cnt:x.op=1∨x.op=4∨x.op=5∨x.op=8→0≤x.a
 upd:x.op=7→1≤x.a
 con:x.op=9∨x.op=10→0≤x.a∧x.a<ns
 jmp:x.op=13→i<x.a∧x.a<nc
 tst:x.op=14∨x.op=15→i<x.b∧x.b<nc
theorem z2C{ng ns nc i:Int}{x:Instr}(h:q5L ng ns nc i x=0):NumOk ns nc i x:=by
 unfold q5L at h
 by_cases g:1≤x.op∧x.op<18
 ·rw[if_pos g] at h
  have key:∀ a b:Int,(if a=172∨b=172 then(172:Int) else if a≠0∨b≠0 then 174 else 0)=0→a=0∧b=0:=by
   intro a b h
   split at h
   ·omega
   ·split at h <;> omega
  obtain⟨ha,hb⟩:=key _ _ h
  clear h
  have:x.op=1∨x.op=2∨x.op=3∨x.op=4∨x.op=5∨x.op=6∨x.op=7∨x.op=8∨x.op=9∨x.op=10∨x.op=11∨x.op=12∨x.op=13∨x.op=14∨x.op=15∨x.op=16∨x.op=17:=by omega
  obtain⟨op,a,b⟩:=x
  simp only at this ha hb g
  rcases this with rfl|rfl|rfl|rfl|rfl|rfl|rfl|rfl|rfl|rfl|rfl|rfl|rfl|rfl|rfl|rfl|rfl <;>
   simp [q2D,z6I,nth,q1S] at ha hb <;> exact⟨by simp,by simp;try omega,by simp;try omega,by simp;try omega,by simp;try omega,by simp;try omega⟩
 ·rw[if_neg g] at h;cases h
def ShOk(sh:List Shape):Prop:=∀ s∈sh,0≤s.fields∧s.fields≤8
theorem q5D{sh:List Shape}{nc i d:Int}{x:Instr}(hs:ShOk sh)(hx:NumOk sh.length nc i x)(hd:1≤d∧d≤8000)(h:(q03 sh x d).2=true):1≤(q03 sh x d).1∧(q03 sh x d).1≤8000:=by
 obtain⟨op,a,b⟩:=x
 have hf:(op=9∨op=10)→0≤q1T sh a:=fun ho=>(hs _ (q2w (hx.con ho).1 (hx.con ho).2)).1
 have h1:=hx.op
 have h2:=hx.cnt
 have h3:=hx.upd
 simp only at h1 h2 h3
 have:op=1∨op=2∨op=3∨op=4∨op=5∨op=6∨op=7∨op=8∨op=9∨op=10∨op=11∨op=12∨op=13∨op=14∨op=15∨op=16∨op=17:=by omega
 unfold q03 at h ⊢
 rcases this with rfl|rfl|rfl|rfl|rfl|rfl|rfl|rfl|rfl|rfl|rfl|rfl|rfl|rfl|rfl|rfl|rfl <;> simp at h h2 h3 hf⊢<;> (try split at h) <;> (try split) <;> omega
theorem q3f(Dp:List Int)(at_ d:Int):(q1E Dp at_ d).length=Dp.length:=by
 unfold q1E;split <;> simp
def DpOk(Dp:List Int):Prop:=∀ v∈Dp,0≤v∧v≤8000
theorem q30{Dp:List Int}{at_ d:Int}(h:DpOk Dp)(hd:0≤d∧d≤8000):DpOk (q1E Dp at_ d):=by
 unfold q1E
 split
 ·intro v hv
  rcases List.mem_or_eq_of_mem_set hv with h1|h1
  ·exact h v h1
  ·subst h1;exact hd
 ·exact h
end Go.Vm
end

section
namespace Go.Vm
/- 'sloth/slothref17.Numbers' -/
def f28:Fun:=⟨ (.seq (.reg [⟨[(2,.box (.sl 0)),(3,.box (.sl 1))],[],[(.bool false)],none,[2,3],3,[],[],[]⟩]) (.seq (.reg [⟨[],[(5,(.and (.bin .geq (.ld 1 false (.fa 1 (.sl 3))) (.int .i64 0)) (.bin .lss (.ld 1 false (.fa 1 (.sl 3))) (.len false (.ld 1 false (.fa 0 (.sl 2)))))))],[],none,[2,3],12,[],[],[]⟩]) (.seq (.reg [⟨[],[(6,(.and (.bin .geq (.ld 1 false (.fa 1 (.sl 3))) (.int .i64 (-4611686018427387904))) (.bin .leq (.ld 1 false (.fa 1 (.sl 3))) (.int .i64 4611686018427387903))))],[],none,[2,3,5],9,[],[],[]⟩]) (.seq (.seq (.reg [⟨[],[(27,(.ld 1 false (.fa 0 (.sl 3))))],[],none,[2,3,5,6],2,[],[],[]⟩]) (.block 0 (.seq (.seq (.reg [⟨[],[(28,(.bin .eql (.sl 27) (.int .i64 1)))],[],none,[2,3,5,6,27],2,[],[],[]⟩]) (.cond (.sl 28) .skip (.seq (.reg [⟨[],[(28,(.bin .eql (.sl 27) (.int .i64 4)))],[],none,[2,3,5,6,27],2,[],[],[]⟩]) (.cond (.sl 28) .skip (.seq (.reg [⟨[],[(28,(.bin .eql (.sl 27) (.int .i64 5)))],[],none,[2,3,5,6,27],2,[],[],[]⟩]) (.cond (.sl 28) .skip (.reg [⟨[],[(28,(.bin .eql (.sl 27) (.int .i64 8)))],[],none,[2,3,5,6,27],2,[],[],[]⟩]))))))) (.cond (.sl 28) (.seq (.reg [⟨[],[(4,(.and (.bin .geq (.ld 1 false (.fa 1 (.sl 3))) (.int .i64 0)) (.bin .eql (.ld 1 false (.fa 2 (.sl 3))) (.int .i64 0))))],[],none,[],9,[],[],[]⟩]) (.seq (.tidy 0 [4]) .ret)) (.seq (.reg [⟨[],[(41,(.bin .eql (.sl 27) (.int .i64 2)))],[],none,[2,3,5,6,27],2,[],[],[]⟩]) (.cond (.sl 41) (.seq (.reg [⟨[],[(4,(.and (.and (.bin .geq (.ld 1 false (.fa 1 (.sl 3))) (.int .i64 0)) (.bin .lss (.ld 1 false (.fa 1 (.sl 3))) (.len false (.ld 1 false (.fa 1 (.sl 2)))))) (.bin .eql (.ld 1 false (.fa 2 (.sl 3))) (.int .i64 0))))],[],none,[],17,[],[],[]⟩]) (.seq (.tidy 0 [4]) .ret)) (.seq (.reg [⟨[],[(59,(.bin .eql (.sl 27) (.int .i64 3)))],[],none,[3,5,6,27],2,[],[],[]⟩]) (.cond (.sl 59) (.seq (.reg [⟨[],[(4,(.and (.sl 6) (.bin .eql (.ld 1 false (.fa 2 (.sl 3))) (.int .i64 0))))],[],none,[],7,[],[],[]⟩]) (.seq (.tidy 0 [4]) .ret)) (.seq (.seq (.reg [⟨[],[(67,(.bin .eql (.sl 27) (.int .i64 6)))],[],none,[3,5,6,27],2,[],[],[]⟩]) (.cond (.sl 67) .skip (.seq (.reg [⟨[],[(67,(.bin .eql (.sl 27) (.int .i64 11)))],[],none,[3,5,6,27],2,[],[],[]⟩]) (.cond (.sl 67) .skip (.reg [⟨[],[(67,(.bin .eql (.sl 27) (.int .i64 17)))],[],none,[3,5,6,27],2,[],[],[]⟩]))))) (.cond (.sl 67) (.seq (.reg [⟨[],[(4,(.and (.bin .eql (.ld 1 false (.fa 1 (.sl 3))) (.int .i64 0)) (.bin .eql (.ld 1 false (.fa 2 (.sl 3))) (.int .i64 0))))],[],none,[],9,[],[],[]⟩]) (.seq (.tidy 0 [4]) .ret)) (.seq (.reg [⟨[],[(79,(.bin .eql (.sl 27) (.int .i64 7)))],[],none,[3,5,6,27],2,[],[],[]⟩]) (.cond (.sl 79) (.seq (.reg [⟨[],[(4,(.and (.bin .geq (.ld 1 false (.fa 1 (.sl 3))) (.int .i64 1)) (.bin .eql (.ld 1 false (.fa 2 (.sl 3))) (.int .i64 0))))],[],none,[],9,[],[],[]⟩]) (.seq (.tidy 0 [4]) .ret)) (.seq (.seq (.reg [⟨[],[(89,(.bin .eql (.sl 27) (.int .i64 9)))],[],none,[3,5,6,27],2,[],[],[]⟩]) (.cond (.sl 89) .skip (.reg [⟨[],[(89,(.bin .eql (.sl 27) (.int .i64 10)))],[],none,[3,5,6,27],2,[],[],[]⟩]))) (.cond (.sl 89) (.seq (.reg [⟨[],[(4,(.and (.sl 5) (.bin .eql (.ld 1 false (.fa 2 (.sl 3))) (.int .i64 0))))],[],none,[],7,[],[],[]⟩]) (.seq (.tidy 0 [4]) .ret)) (.seq (.reg [⟨[],[(98,(.bin .eql (.sl 27) (.int .i64 12)))],[],none,[3,5,6,27],2,[],[],[]⟩]) (.cond (.sl 98) (.seq (.reg [⟨[],[(4,(.and (.and (.bin .geq (.ld 1 false (.fa 1 (.sl 3))) (.int .i64 1)) (.bin .leq (.ld 1 false (.fa 1 (.sl 3))) (.int .i64 11))) (.bin .eql (.ld 1 false (.fa 2 (.sl 3))) (.int .i64 0))))],[],none,[],14,[],[],[]⟩]) (.seq (.tidy 0 [4]) .ret)) (.seq (.reg [⟨[],[(113,(.bin .eql (.sl 27) (.int .i64 13)))],[],none,[3,5,6,27],2,[],[],[]⟩]) (.cond (.sl 113) (.seq (.reg [⟨[],[(4,(.bin .eql (.ld 1 false (.fa 2 (.sl 3))) (.int .i64 0)))],[],none,[],4,[],[],[]⟩]) (.seq (.tidy 0 [4]) .ret)) (.seq (.reg [⟨[],[(118,(.bin .eql (.sl 27) (.int .i64 14)))],[],none,[3,5,6,27],2,[],[],[]⟩]) (.cond (.sl 118) (.seq (.reg [⟨[],[(4,(.sl 5))],[],none,[],2,[],[],[]⟩]) (.seq (.tidy 0 [4]) .ret)) (.seq (.reg [⟨[],[(121,(.bin .eql (.sl 27) (.int .i64 15)))],[],none,[3,6,27],2,[],[],[]⟩]) (.cond (.sl 121) (.seq (.reg [⟨[],[(4,(.sl 6))],[],none,[],2,[],[],[]⟩]) (.seq (.tidy 0 [4]) .ret)) (.seq (.reg [⟨[],[(124,(.bin .eql (.sl 27) (.int .i64 16)))],[],none,[3],2,[],[],[]⟩]) (.cond (.sl 124) (.seq (.reg [⟨[],[(4,(.and (.and (.bin .geq (.ld 1 false (.fa 1 (.sl 3))) (.int .i64 1)) (.bin .leq (.ld 1 false (.fa 1 (.sl 3))) (.int .i64 4))) (.bin .eql (.ld 1 false (.fa 2 (.sl 3))) (.int .i64 0))))],[],none,[],14,[],[],[]⟩]) (.seq (.tidy 0 [4]) .ret)) .skip)))))))))))))))))))))))) (.seq (.reg [⟨[],[(4,(.bool false))],[],none,[],1,[],[],[]⟩]) (.seq (.tidy 0 [4]) .ret)))))), [(.sl 4)],false⟩
theorem j3w:q09 Go.Proofs.Tryz.prog 28 0 2 f28=true:=by kernel_rfl
/- 'sloth/slothref17.Needs' -/
def f29:Fun:=⟨ (.seq (.reg [⟨[(3,.box (.sl 0)),(4,.box (.sl 1))],[],[(.bool false)],none,[2,3,4],3,[],[],[]⟩]) (.seq (.seq (.reg [⟨[],[(8,(.ld 1 false (.fa 0 (.sl 4))))],[],none,[2,3,4],2,[],[],[]⟩]) (.block 0 (.seq (.seq (.reg [⟨[],[(9,(.bin .eql (.sl 8) (.int .i64 1)))],[],none,[2,3,4,8],2,[],[],[]⟩]) (.cond (.sl 9) .skip (.seq (.reg [⟨[],[(9,(.bin .eql (.sl 8) (.int .i64 4)))],[],none,[2,3,4,8],2,[],[],[]⟩]) (.cond (.sl 9) .skip (.reg [⟨[],[(9,(.bin .eql (.sl 8) (.int .i64 7)))],[],none,[2,3,4,8],2,[],[],[]⟩]))))) (.cond (.sl 9) (.seq (.reg [⟨[],[(6,(.bin .lss (.ld 1 false (.fa 1 (.sl 4))) (.sl 2)))],[],none,[],5,[],[],[]⟩]) (.seq (.tidy 0 [6]) .ret)) (.seq (.reg [⟨[],[(17,(.bin .eql (.sl 8) (.int .i64 5)))],[],none,[2,3,4,8],2,[],[],[]⟩]) (.cond (.sl 17) (.seq (.reg [⟨[],[(6,(.bin .lss (.ld 1 false (.fa 1 (.sl 4))) (.bin .sub (.sl 2) (.int .i64 1))))],[],none,[],6,[],[],[]⟩]) (.seq (.tidy 0 [6]) .ret)) (.seq (.seq (.reg [⟨[],[(24,(.bin .eql (.sl 8) (.int .i64 6)))],[],none,[2,3,4,8],2,[],[],[]⟩]) (.cond (.sl 24) .skip (.reg [⟨[],[(24,(.bin .eql (.sl 8) (.int .i64 12)))],[],none,[2,3,4,8],2,[],[],[]⟩]))) (.cond (.sl 24) (.seq (.reg [⟨[],[(6,(.bin .gtr (.sl 2) (.int .i64 2)))],[],none,[],3,[],[],[]⟩]) (.seq (.tidy 0 [6]) .ret)) (.seq (.reg [⟨[],[(29,(.bin .eql (.sl 8) (.int .i64 9)))],[],none,[2,3,4,8],2,[],[],[]⟩]) (.cond (.sl 29) (.seq (.reg [⟨[],[(6,(.bin .lss (.ld 1 false (.fa 1 (.ia 2 (.ld 1 false (.fa 0 (.sl 3))) (.ld 1 false (.fa 1 (.sl 4)))))) (.sl 2)))],[],none,[],10,[],[],[]⟩]) (.seq (.tidy 0 [6]) .ret)) (.seq (.seq (.reg [⟨[],[(40,(.bin .eql (.sl 8) (.int .i64 10)))],[],none,[2,8],2,[],[],[]⟩]) (.cond (.sl 40) .skip (.seq (.reg [⟨[],[(40,(.bin .eql (.sl 8) (.int .i64 11)))],[],none,[2,8],2,[],[],[]⟩]) (.cond (.sl 40) .skip (.seq (.reg [⟨[],[(40,(.bin .eql (.sl 8) (.int .i64 14)))],[],none,[2,8],2,[],[],[]⟩]) (.cond (.sl 40) .skip (.reg [⟨[],[(40,(.bin .eql (.sl 8) (.int .i64 15)))],[],none,[2,8],2,[],[],[]⟩]))))))) (.cond (.sl 40) (.seq (.reg [⟨[],[(6,(.bin .gtr (.sl 2) (.int .i64 1)))],[],none,[],3,[],[],[]⟩]) (.seq (.tidy 0 [6]) .ret)) (.seq (.reg [⟨[],[(47,(.bin .eql (.sl 8) (.int .i64 17)))],[],none,[2],2,[],[],[]⟩]) (.cond (.sl 47) (.seq (.reg [⟨[],[(6,(.bin .eql (.sl 2) (.int .i64 1)))],[],none,[],3,[],[],[]⟩]) (.seq (.tidy 0 [6]) .ret)) .skip)))))))))))))) (.seq (.reg [⟨[],[(6,(.bool true))],[],none,[],1,[],[],[]⟩]) (.seq (.tidy 0 [6]) .ret)))), [(.sl 6)],false⟩
theorem j3v:q09 Go.Proofs.Tryz.prog 29 0 3 f29=true:=by kernel_rfl
/- 'sloth/slothref17.Ends' -/
def f30:Fun:=⟨ (.seq (.reg [⟨[(1,.box (.sl 0))],[],[(.bool false)],none,[1],2,[],[],[]⟩]) (.seq (.reg [⟨[],[(2,(.or (.bin .eql (.ld 1 false (.fa 0 (.sl 1))) (.int .i64 16)) (.bin .eql (.ld 1 false (.fa 0 (.sl 1))) (.int .i64 17))))],[],none,[],9,[],[],[]⟩]) (.seq (.tidy 0 [2]) .ret))), [(.sl 2)],false⟩
theorem j3u:q09 Go.Proofs.Tryz.prog 30 0 1 f30=true:=by kernel_rfl
/- 'sloth/slothref17.Behind' -/
def f31:Fun:=⟨ (.seq (.reg [⟨[(3,.box (.sl 0)),(4,.box (.sl 1))],[],[(.int .i64 0)],none,[2,3,4],3,[],[],[]⟩]) (.seq (.seq (.reg [⟨[],[(8,(.ld 1 false (.fa 0 (.sl 4))))],[],none,[2,3,4],2,[],[],[]⟩]) (.block 0 (.seq (.seq (.reg [⟨[],[(9,(.bin .eql (.sl 8) (.int .i64 1)))],[],none,[2,3,4,8],2,[],[],[]⟩]) (.cond (.sl 9) .skip (.seq (.reg [⟨[],[(9,(.bin .eql (.sl 8) (.int .i64 2)))],[],none,[2,3,4,8],2,[],[],[]⟩]) (.cond (.sl 9) .skip (.reg [⟨[],[(9,(.bin .eql (.sl 8) (.int .i64 3)))],[],none,[2,3,4,8],2,[],[],[]⟩]))))) (.cond (.sl 9) (.seq (.reg [⟨[],[(6,(.bin .add (.sl 2) (.int .i64 1)))],[],none,[],3,[],[],[]⟩]) (.seq (.tidy 0 [6]) .ret)) (.seq (.seq (.reg [⟨[],[(15,(.bin .eql (.sl 8) (.int .i64 4)))],[],none,[2,3,4,8],2,[],[],[]⟩]) (.cond (.sl 15) .skip (.reg [⟨[],[(15,(.bin .eql (.sl 8) (.int .i64 5)))],[],none,[2,3,4,8],2,[],[],[]⟩]))) (.cond (.sl 15) (.seq (.reg [⟨[],[(6,(.bin .sub (.sl 2) (.ld 1 false (.fa 1 (.sl 4)))))],[],none,[],5,[],[],[]⟩]) (.seq (.tidy 0 [6]) .ret)) (.seq (.seq (.reg [⟨[],[(22,(.bin .eql (.sl 8) (.int .i64 6)))],[],none,[2,3,4,8],2,[],[],[]⟩]) (.cond (.sl 22) .skip (.seq (.reg [⟨[],[(22,(.bin .eql (.sl 8) (.int .i64 7)))],[],none,[2,3,4,8],2,[],[],[]⟩]) (.cond (.sl 22) .skip (.reg [⟨[],[(22,(.bin .eql (.sl 8) (.int .i64 12)))],[],none,[2,3,4,8],2,[],[],[]⟩]))))) (.cond (.sl 22) (.seq (.reg [⟨[],[(6,(.bin .sub (.sl 2) (.int .i64 1)))],[],none,[],3,[],[],[]⟩]) (.seq (.tidy 0 [6]) .ret)) (.seq (.reg [⟨[],[(28,(.bin .eql (.sl 8) (.int .i64 8)))],[],none,[2,3,4,8],2,[],[],[]⟩]) (.cond (.sl 28) (.seq (.reg [⟨[],[(6,(.bin .add (.sl 2) (.cond (.and (.bin .eql (.bin .and (.int .i64 8000) (.int .i64 0)) (.bin .and (.int .i64 8000) (.int .i64 0))) (.bin .lss (.int .i64 8000) (.ld 1 false (.fa 1 (.sl 4))))) (.int .i64 8000) (.ld 1 false (.fa 1 (.sl 4))))))],[(.ld 1 false (.fa 1 (.sl 4)))],none,[],6,[],[],[]⟩]) (.seq (.tidy 0 [6]) .ret)) (.seq (.reg [⟨[],[(35,(.bin .eql (.sl 8) (.int .i64 9)))],[],none,[2,3,4,8],2,[],[],[]⟩]) (.cond (.sl 35) (.seq (.reg [⟨[],[(6,(.bin .add (.bin .sub (.sl 2) (.ld 1 false (.fa 1 (.ia 2 (.ld 1 false (.fa 0 (.sl 3))) (.ld 1 false (.fa 1 (.sl 4))))))) (.int .i64 1)))],[],none,[],11,[],[],[]⟩]) (.seq (.tidy 0 [6]) .ret)) (.seq (.reg [⟨[],[(47,(.bin .eql (.sl 8) (.int .i64 10)))],[],none,[2,3,4],2,[],[],[]⟩]) (.cond (.sl 47) (.seq (.reg [⟨[],[(6,(.bin .add (.bin .sub (.sl 2) (.int .i64 1)) (.ld 1 false (.fa 1 (.ia 2 (.ld 1 false (.fa 0 (.sl 3))) (.ld 1 false (.fa 1 (.sl 4))))))))],[],none,[],11,[],[],[]⟩]) (.seq (.tidy 0 [6]) .ret)) .skip)))))))))))))) (.seq (.reg [⟨[],[(6,(.sl 2))],[],none,[],2,[],[],[]⟩]) (.seq (.tidy 0 [6]) .ret)))), [(.sl 6)],false⟩
theorem j3t:q09 Go.Proofs.Tryz.prog 31 0 3 f31=true:=by kernel_rfl
/- 'sloth/slothref17.Target' -/
def f32:Fun:=⟨ (.seq (.reg [⟨[(1,.box (.sl 0))],[],[(.int .i64 0)],none,[1],2,[],[],[]⟩]) (.seq (.seq (.reg [⟨[],[(4,(.ld 1 false (.fa 0 (.sl 1))))],[],none,[1],2,[],[],[]⟩]) (.block 0 (.seq (.reg [⟨[],[(5,(.bin .eql (.sl 4) (.int .i64 13)))],[],none,[1,4],2,[],[],[]⟩]) (.cond (.sl 5) (.seq (.reg [⟨[],[(2,(.ld 1 false (.fa 1 (.sl 1))))],[],none,[],3,[],[],[]⟩]) (.seq (.tidy 0 [2]) .ret)) (.seq (.seq (.reg [⟨[],[(9,(.bin .eql (.sl 4) (.int .i64 14)))],[],none,[1,4],2,[],[],[]⟩]) (.cond (.sl 9) .skip (.reg [⟨[],[(9,(.bin .eql (.sl 4) (.int .i64 15)))],[],none,[1],2,[],[],[]⟩]))) (.cond (.sl 9) (.seq (.reg [⟨[],[(2,(.ld 1 false (.fa 2 (.sl 1))))],[],none,[],3,[],[],[]⟩]) (.seq (.tidy 0 [2]) .ret)) .skip)))))) (.seq (.reg [⟨[],[(2,(.int .i64 (-1)))],[],none,[],1,[],[],[]⟩]) (.seq (.tidy 0 [2]) .ret)))), [(.sl 2)],false⟩
theorem j3s:q09 Go.Proofs.Tryz.prog 32 0 1 f32=true:=by kernel_rfl
/- 'sloth/slothref17.jumps' -/
def f84:Fun:=⟨ (.seq (.reg [⟨[(1,.box (.sl 0))],[],[(.bool false)],none,[1],2,[],[],[]⟩]) (.seq (.reg [⟨[],[(2,(.or (.or (.bin .eql (.ld 1 false (.fa 0 (.sl 1))) (.int .i64 13)) (.bin .eql (.ld 1 false (.fa 0 (.sl 1))) (.int .i64 14))) (.bin .eql (.ld 1 false (.fa 0 (.sl 1))) (.int .i64 15))))],[],none,[],14,[],[],[]⟩]) (.seq (.tidy 0 [2]) .ret))), [(.sl 2)],false⟩
theorem j2P:q09 Go.Proofs.Tryz.prog 84 0 1 f84=true:=by kernel_rfl
def q2U(ng ns:Int)(x:Instr):Bool:=
  if x.op=1∨x.op=4∨x.op=5∨x.op=8 then decide (0≤x.a)&&x.b==0
  else if x.op=2 then decide (0≤x.a)&&decide (x.a<ng)&&x.b==0
  else if x.op=3 then decide (-4611686018427387904≤x.a)&&decide (x.a≤4611686018427387903)&&x.b==0
  else if x.op=6∨x.op=11∨x.op=17 then x.a==0&&x.b==0
  else if x.op=7 then decide (1≤x.a)&&x.b==0
  else if x.op=9∨x.op=10 then decide (0≤x.a)&&decide (x.a<ns)&&x.b==0
  else if x.op=12 then decide (1≤x.a)&&decide (x.a≤11)&&x.b==0
  else if x.op=13 then x.b==0
  else if x.op=14 then decide (0≤x.a)&&decide (x.a<ns)
  else if x.op=15 then decide (-4611686018427387904≤x.a)&&decide (x.a≤4611686018427387903)
  else if x.op=16 then decide (1≤x.a)&&decide (x.a≤4)&&x.b==0
  else false
def q3F(sh:List Shape)(gl:List Glob):V:=.agg [.d false (.sl 2 (sh.map q0g)),.d false (.sl 3 (gl.map q0G))]
def insA(x:Instr):V:=.agg [.d false (.int .i64 x.op),.d false (.int .i64 x.a),.d false (.int .i64 x.b)]
theorem z5T{op:Int}(g:1≤op∧op<18):op=1∨op=2∨op=3∨op=4∨op=5∨op=6∨op=7∨op=8∨op=9∨op=10∨op=11∨op=12∨op=13∨op=14∨op=15∨op=16∨op=17:=by omega
theorem opx{op:Int}(g:¬(1≤op∧op<18)):(op==1)=false∧(op==2)=false∧(op==3)=false∧(op==4)=false∧(op==5)=false∧(op==6)=false∧(op==7)=false∧(op==8)=false∧(op==9)=false∧(op==10)=false∧(op==11)=false∧(op==12)=false∧(op==13)=false∧(op==14)=false∧(op==15)=false∧(op==16)=false∧(op==17)=false:=by
  simp only[beq_eq_false_iff_ne,ne_eq]
  omega
theorem opn{op:Int}(g:¬(1≤op∧op<18)):op≠1∧op≠2∧op≠3∧op≠4∧op≠5∧op≠6∧op≠7∧op≠8∧op≠9∧op≠10∧op≠11∧op≠12∧op≠13∧op≠14∧op≠15∧op≠16∧op≠17:=by omega
set_option maxHeartbeats 4000000 in
theorem z4k(K:Cx)(sh:List Shape)(gl:List Glob)(x:Instr):q0B K f28 [q3F sh gl,insA x] []=some (.d false (.bool (q2U gl.length sh.length x)),[],[]):=by
  obtain⟨op,a,b⟩:=x
  unfold q3F insA
  by_cases g:1≤op∧op<18
  · have:=z5T g
    clear g
    rcases this with rfl|rfl|rfl|rfl|rfl|rfl|rfl|rfl|rfl|rfl|rfl|rfl|rfl|rfl|rfl|rfl|rfl
    all_goals
      simp(disch:=first|decide|omega|(simp only[LN];first|done|omega)) only[SV,SW,f28,Int.reduceNeg,Nat.reduceAdd,Nat.reduceBEq,q0b]
      simp [q2U]
  · obtain⟨e1,e2,e3,e4,e5,e6,e7,e8,e9,e10,e11,e12,e13,e14,e15,e16,e17⟩:=opx g
    have hn:=opn g
    have hr:q2U gl.length sh.length ⟨op,a,b⟩=false:=by
      simp [q2U,hn]
    rw[hr]
    clear g hn hr
    simp(disch:=first|decide|omega|(simp only[LN];first|done|omega)) only[SV,SW,f28,Int.reduceNeg,Nat.reduceAdd,Nat.reduceBEq,e1,e4,e5,e8,e2,e3,e6,e11,e17,e7,e9,e10,e12,e13,e14,e15,e16,q0b]
def q7V(x:Instr):Bool:=x.op==13||x.op==14||x.op==15
theorem z89(K:Cx)(x:Instr):q0B K f84 [insA x] []=some (.d false (.bool (q7V x)),[],[]):=by
  unfold insA q7V
  simp(disch:=first|decide|omega|(simp only[LN];first|done|omega)) only[SV,SW,f84,Nat.reduceAdd,Nat.reduceBEq,q0b]
def q2f(x:Instr):Int:=if x.op=13 then x.a else if x.op=14∨x.op=15 then x.b else -1
theorem z66(K:Cx)(x:Instr):q0B K f32 [insA x] []=some (.d false (.int .i64 (q2f x)),[],[]):=by
  obtain⟨op,a,b⟩:=x
  unfold insA q2f
  by_cases h1:op=13
  · subst h1;simp(disch:=first|decide|omega|(simp only[LN];first|done|omega)) only[SV,SW,f32,Int.reduceNeg,Nat.reduceAdd,Nat.reduceBEq,q0b,Int.reduceEq]
  · have e1:(op==13)=false:=by simpa using h1
    by_cases h2:op=14
    · subst h2;simp(disch:=first|decide|omega|(simp only[LN];first|done|omega)) only[SV,SW,f32,Int.reduceNeg,Nat.reduceAdd,Nat.reduceBEq,q0b,Int.reduceEq]
    · have e2:(op==14)=false:=by simpa using h2
      by_cases h3:op=15
      · subst h3;simp(disch:=first|decide|omega|(simp only[LN];first|done|omega)) only[SV,SW,f32,Int.reduceNeg,Nat.reduceAdd,Nat.reduceBEq,q0b,Int.reduceEq]
      · have e3:(op==15)=false:=by simpa using h3
        have hr:(if op=13 then a else if op=14∨op=15 then b else -1)=-1:=by simp [h1,h2,h3]
        simp only[hr]
        clear h1 h2 h3 hr
        simp(disch:=first|decide|omega|(simp only[LN];first|done|omega)) only[SV,SW,f32,Int.reduceNeg,Nat.reduceAdd,Nat.reduceBEq,e1,e2,e3,q0b]
def q62(x:Instr):Bool:=x.op==16||x.op==17
theorem j1w(K:Cx)(x:Instr):q0B K f30 [insA x] []=some (.d false (.bool (q62 x)),[],[]):=by
  unfold insA q62
  simp(disch:=first|decide|omega|(simp only[LN];first|done|omega)) only[SV,SW,f30,Nat.reduceAdd,Nat.reduceBEq,q0b]
def q5c(sh:List Shape)(x:Instr)(d:Int):Bool:=
  if x.op=1∨x.op=4∨x.op=7 then decide (x.a<d)
  else if x.op=5 then decide (x.a<d - 1)
  else if x.op=6∨x.op=12 then decide (2<d)
  else if x.op=9 then decide (q1T sh x.a<d)
  else if x.op=10∨x.op=11∨x.op=14∨x.op=15 then decide (1<d)
  else if x.op=17 then d==1
  else true
set_option maxHeartbeats 4000000 in
theorem z9g(K:Cx)(sh:List Shape)(gl:List Glob)(x:Instr)(d:Int)(hd:1≤d∧d≤8000)(hx:x.op=9→0≤x.a∧x.a<sh.length):q0B K f29 [q3F sh gl,insA x,.d false (.int .i64 d)] []=some (.d false (.bool (q5c sh x d)),[],[]):=by
  obtain⟨op,a,b⟩:=x
  obtain⟨d1,d2⟩:=hd
  unfold q3F insA
  by_cases g:1≤op∧op<18
  · have:=z5T g
    clear g
    by_cases g9:op=9
    · subst g9
      obtain⟨a1,a2⟩:=hx rfl
      simp only at a1 a2
      clear this hx
      simp(disch:=first|decide|omega|(simp only[LN];first|done|omega)) only[SV,SW,f29,Nat.reduceAdd,Nat.reduceBEq,q0n,q0b]
      simp [q5c,q1T]
      congr
    · clear hx
      rcases this with rfl|rfl|rfl|rfl|rfl|rfl|rfl|rfl|rfl|rfl|rfl|rfl|rfl|rfl|rfl|rfl|rfl
      all_goals first|exact absurd rfl g9|clear g9
      all_goals
        simp(disch:=first|decide|omega|(simp only[LN];first|done|omega)) only[SV,SW,f29,Nat.reduceAdd,Nat.reduceBEq,q0b]
        try simp [q5c]
  · obtain⟨e1,e2,e3,e4,e5,e6,e7,e8,e9,e10,e11,e12,e13,e14,e15,e16,e17⟩:=opx g
    have hn:=opn g
    have hr:q5c sh ⟨op,a,b⟩ d=true:=by
      simp [q5c,hn]
    rw[hr]
    clear g hn hr hx
    simp(disch:=first|decide|omega|(simp only[LN];first|done|omega)) only[SV,SW,f29,Nat.reduceAdd,Nat.reduceBEq,e1,e4,e7,e5,e6,e12,e9,e10,e11,e14,e15,e17,q0b]
def q2h(sh:List Shape)(x:Instr)(d:Int):Int:=
  if x.op=1∨x.op=2∨x.op=3 then d+1
  else if x.op=4∨x.op=5 then d - x.a
  else if x.op=6∨x.op=7∨x.op=12 then d - 1
  else if x.op=8 then d+(if 8000<x.a then 8000 else x.a)
  else if x.op=9 then d - q1T sh x.a+1
  else if x.op=10 then d - 1+q1T sh x.a
  else d
set_option maxHeartbeats 4000000 in
theorem z67(K:Cx)(sh:List Shape)(gl:List Glob)(x:Instr)(d:Int)(hd:1≤d∧d≤8000)(ha:x.op=4∨x.op=5∨x.op=8→0≤x.a∧x.a≤9223372036854775807)(hx:x.op=9∨x.op=10→0≤x.a∧x.a<sh.length∧0≤q1T sh x.a∧q1T sh x.a≤8) :
    q0B K f31 [q3F sh gl,insA x,.d false (.int .i64 d)] []=some (.d false (.int .i64 (q2h sh x d)),[],[]):=by
  obtain⟨op,a,b⟩:=x
  obtain⟨d1,d2⟩:=hd
  unfold q3F insA
  by_cases g:1≤op∧op<18
  · have:=z5T g
    clear g
    simp only at ha hx
    by_cases g9:op=9∨op=10
    · obtain⟨a1,a2,a3,a4⟩:=hx g9
      clear this hx ha
      unfold q1T at a3 a4
      generalize hf:(nth sh a).fields=fl at a3 a4
      rcases g9 with rfl|rfl
      · simp(disch:=first|decide|omega|(simp only[LN];first|done|omega)) only[SV,SW,f31,Nat.reduceAdd,Nat.reduceBEq,q0n,hf,q0b]
        simp [q2h,q1T,hf]
      · simp(disch:=first|decide|omega|(simp only[LN];first|done|omega)) only[SV,SW,f31,Nat.reduceAdd,Nat.reduceBEq,q0n,hf,q0b]
        simp [q2h,q1T,hf]
    · clear hx
      by_cases g4:op=4∨op=5∨op=8
      · obtain⟨a1,a2⟩:=ha g4
        clear this ha g9
        rcases g4 with rfl|rfl|rfl
        · simp(disch:=first|decide|omega|(simp only[LN];first|done|omega)) only[SV,SW,f31,Nat.reduceAdd,Nat.reduceBEq,q0b]
          simp [q2h]
        · simp(disch:=first|decide|omega|(simp only[LN];first|done|omega)) only[SV,SW,f31,Nat.reduceAdd,Nat.reduceBEq,q0b]
          simp [q2h]
        · by_cases k:8000<a
          · simp(disch:=first|decide|omega|(simp only[LN];first|done|omega)) only[SV,SW,f31,Nat.reduceAdd,Nat.reduceBEq,q0b]
            simp [q2h,k]
          · simp(disch:=first|decide|omega|(simp only[LN];first|done|omega)) only[SV,SW,f31,Nat.reduceAdd,Nat.reduceBEq,q0b]
            simp [q2h,k]
      · clear ha
        rcases this with rfl|rfl|rfl|rfl|rfl|rfl|rfl|rfl|rfl|rfl|rfl|rfl|rfl|rfl|rfl|rfl|rfl
        all_goals first|(exact absurd (by decide) g9)|(exact absurd (by decide) g4)|clear g9 g4
        all_goals
          simp(disch:=first|decide|omega|(simp only[LN];first|done|omega)) only[SV,SW,f31,Nat.reduceAdd,Nat.reduceBEq,q0b]
          try simp [q2h]
  · obtain⟨e1,e2,e3,e4,e5,e6,e7,e8,e9,e10,e11,e12,e13,e14,e15,e16,e17⟩:=opx g
    have hn:=opn g
    have hr:q2h sh ⟨op,a,b⟩ d=d:=by
      simp [q2h,hn]
    rw[hr]
    clear g hn hr hx ha
    simp(disch:=first|decide|omega|(simp only[LN];first|done|omega)) only[SV,SW,f31,Nat.reduceAdd,Nat.reduceBEq,e1,e2,e3,e4,e5,e6,e7,e12,e8,e9,e10,q0b]
end Go.Vm
end

section
namespace Go.Vm
set_option maxRecDepth 20000
open Go.Proofs
/- 'sloth/slothref17.put' -/
def f43_L0:C:= (.seq (.seq (.reg [⟨[],[(9,(.bin .lss (.sl 5) (.len true (.sl 1))))],[],none,[0,1,5],4,[],[],[]⟩]) (.cond (.sl 9) .skip (.seq (.tidy 1 [0]) (.exit 0)))) (.seq (.block 1 (.reg [⟨[(16,.lits 1 (.cons (.ix (.sl 1) (.sl 5)) .nil))],[],[],some (some 17,.app 1 (.sl 0) (.sl 16)),[1,5],6,[],[],[]⟩,⟨[],[(0,(.sl 17))],[],none,[1,5],1,[],[],[]⟩])) (.reg [⟨[],[(5,(.bin .add (.sl 5) (.int .i64 1)))],[],none,[0,1],3,[],[],[]⟩])))
def f43:Fun:=⟨ (.seq (.reg [⟨[],[],[(.nilsl 1)],none,[0,1],1,[],[],[]⟩]) (.seq (.seq (.reg [⟨[],[(5,(.int .i64 0))],[],none,[0,1],1,[],[],[]⟩]) (.block 0 (.seq (.tidy 1 [0,1,5]) (.loop (.seq (.tidy 1 [0,1,5]) f43_L0))))) (.seq (.reg [⟨[],[(4,(.sl 0))],[],none,[],2,[],[],[]⟩]) (.seq (.tidy 1 [4]) .ret)))), [(.sl 4)],false⟩
theorem j3i:q09 Go.Proofs.Tryz.prog 43 1 2 f43=true:=by kernel_rfl
/- 'sloth/slothref17.quoted' -/
/- 'sloth/slothref17.digits' -/
abbrev Bs:=List UInt8
def eU(c:UInt8):List D:=[.int .u8 c.toNat]
theorem z9o(c):eU c=[.int .u8 c.toNat]:=rfl
theorem q5e(l:Bs):q0Y (l.map eU)=true:=z0P l eU fun _=>rfl
theorem q6W:∀ l:Bs,q4S (l.map eU)=some l
  |[]=>rfl
  |c :: l=>by
    simp only[List.map_cons,eU,q4S,q6W l]
    simp
theorem fUA(l:Bs)(c:UInt8):l.map eU++[[D.int .u8 c.toNat]]=(l++[c]).map eU:=by simp [eU]
theorem z8s(K:Cx)(s:Bs)(hs:s.length≤1000000000)(a c:Bool):∀(k i:Nat)(l:Bs)(mv:List Nat),i+k=s.length→l.length≤1000000000000+i→(mv=[]∨mv=[0])→
    lp K 1 [0,1,5] f43_L0 ⟨[(0,.bsl 0 0 l.length),(1,.d a (.str s)),(5,.d false (.int .i64 i))],[(0,.dat c 1 (l.map eU))],1,mv⟩ =
      some (.exit 0,⟨[(0,.bsl 0 0 (l++s.drop i).length)],[(0,.dat c 1 ((l++s.drop i).map eU))],1,if k=0 then mv else [0]⟩):=by
  intro k
  induction k with
  |zero=>
    intro i l mv hi hl hm
    obtain rfl:i=s.length:=by omega
    rw[q0K f43_L0.eq_1,List.drop_length,List.append_nil]
    rcases hm with rfl|rfl
    · simp(disch:=first|decide|omega|(simp only[LN];first|done|omega)) only[SV,SW,Nat.reduceBEq,q1t]
    · simp(disch:=first|decide|omega|(simp only[LN];first|done|omega)) only[SV,SW,Nat.reduceBEq,q1t]
  |succ k ih=>
    intro i l mv hi hl hm
    have hd:s.drop i=nth s i :: s.drop (i+1):=q0O (by omega)
    have ih:=ih (i+1) (l++[nth s i]) [0] (by omega) (by simp;omega) (.inr rfl)
    rw[hd,show l++nth s i :: s.drop (i+1)=(l++[nth s i])++s.drop (i+1) by simp]
    rw[if_neg (by omega)]
    rw[show(if k=0 then [0] else [0])=([0]:List Nat) by split <;> rfl] at ih
    rw[←ih]
    clear ih hd
    generalize hx:nth s (i:Int)=x at *
    rw[q0K f43_L0.eq_1]
    rcases hm with rfl|rfl
    · simp(disch:=first|decide|omega|(simp only[LN];first|done|omega)) only[SV,SW,Nat.reduceBEq,hx,Nat.reduceAdd,fUA,lose,V.forget,V.drop1,V.ref0,q1t]
      rfl
    · simp(disch:=first|decide|omega|(simp only[LN];first|done|omega)) only[SV,SW,Nat.reduceBEq,hx,Nat.reduceAdd,fUA,lose,V.forget,V.drop1,V.ref0,q1t]
      rfl
theorem j3I(K:Cx)(a c:Bool)(l s:Bs)(hl:l.length≤1000000000000)(hs:s.length≤1000000000)(h0:s≠[]) :
    q0B K f43 [.bsl 0 0 l.length,.d a (.str s)] [.dat c 1 (l.map eU)]=some (.bsl 0 0 (l++s).length,[.dat c 1 ((l++s).map eU)],[0]):=by
  have hp:=List.length_pos_iff.2 h0
  have l0:=z8s K s hs a c s.length 0 l [] (by omega) (by omega) (.inl rfl)
  rw[if_neg (by omega)] at l0
  simp only[Int.natCast_zero,List.drop_zero] at l0
  clear h0 hp
  simp(disch:=first|decide|omega|(simp only[LN];first|done|omega)) only[SV,SW,f43,Nat.reduceAdd,Nat.reduceBEq,q1t,l0,q0b,hNew,V.forget,V.drop1,V.ref0,V.newR,q0c]
theorem u8k2{a c:UInt8}:((a.toNat:Int)=(c.toNat:Int))↔a=c:=by
  constructor
  · intro h;exact UInt8.toNat_inj.1 (by omega)
  · rintro rfl;rfl
end Go.Vm
end

section
namespace Go.Vm
mutual
def D.eqb:D→D→Bool
 |.int k n,.int k' n'=>decide (k=k')&&decide (n=n')
 |.bool b,.bool b'=>b==b'
 |.str s,.str s'=>decide (s=s')
 |.sl k rows,.sl k' rows'=>decide (k=k')&&q8C rows rows'
 |.ptr cs,.ptr cs'=>dRow cs cs'
 |.nilp,.nilp=>true
 |.nilif,.nilif=>true
 |.nilfn,.nilfn=>true
 |.nilm,.nilm=>true
 |.nils k,.nils k'=>decide (k=k')
 |.emps k,.emps k'=>decide (k=k')
 |.iface t cs,.iface t' cs'=>decide (t=t')&&dRow cs cs'
 |_,_=>false
def dRow:List D→List D→Bool
 |[],[]=>true
 |a :: r,b :: s=>a.eqb b&&dRow r s
 |_,_=>false
def q8C:List (List D)→List (List D)→Bool
 |[],[]=>true
 |a :: r,b :: s=>dRow a b&&q8C r s
 |_,_=>false
end
mutual
theorem D.eqb_ok:∀ {x y:D},x.eqb y=true→x=y:=by
 intro x y h
 cases x <;> cases y <;> simp only[D.eqb,Bool.and_eq_true,decide_eq_true_eq,beq_iff_eq,reduceCtorEq,Bool.false_eq_true] at h <;> try rfl
 ·obtain⟨rfl,rfl⟩:=h;rfl
 ·subst h;rfl
 ·subst h;rfl
 ·obtain⟨rfl,h⟩:=h;rw[q7e h]
 ·rw[q9M h]
 ·obtain⟨rfl,h⟩:=h;rw[q9M h]
 ·subst h;rfl
 ·subst h;rfl
theorem q9M:∀ {x y:List D},dRow x y=true→x=y:=by
 intro x y h
 cases x with
 |nil=>cases y with
  |nil=>rfl
  |cons b s=>simp [dRow] at h
 |cons a r=>cases y with
  |nil=>simp [dRow] at h
  |cons b s=>
   simp only[dRow,Bool.and_eq_true] at h
   rw[D.eqb_ok h.1,q9M h.2]
theorem q7e:∀ {x y:List (List D)},q8C x y=true→x=y:=by
 intro x y h
 cases x with
 |nil=>cases y with
  |nil=>rfl
  |cons b s=>simp [q8C] at h
 |cons a r=>cases y with
  |nil=>simp [q8C] at h
  |cons b s=>
   simp only[q8C,Bool.and_eq_true] at h
   rw[q9M h.1,q7e h.2]
end
def V.eqb1:V→V→Bool
 |.d c x,.d c' x'=>c==c'&&x.eqb x'
 |.fs c k r,.fs c' k' r'=>c==c'&&decide (k=k')&&q8C r r'
 |_,_=>false
def vRow:List V→List V→Bool
 |[],[]=>true
 |a :: r,b :: s=>a.eqb1 b&&vRow r s
 |_,_=>false
def V.eqb:V→V→Bool
 |.agg cs,.agg cs'=>vRow cs cs'
 |v,u=>v.eqb1 u
theorem V.eqb1_ok{v u:V}(h:v.eqb1 u=true):v=u∧v.own1=false:=by
 cases v <;> cases u <;> simp only[V.eqb1,Bool.and_eq_true,decide_eq_true_eq,beq_iff_eq,Bool.false_eq_true] at h
 ·obtain⟨rfl,h⟩:=h;rw[D.eqb_ok h];exact⟨rfl,rfl⟩
 ·obtain⟨⟨rfl,rfl⟩,h⟩:=h;rw[q7e h];exact⟨rfl,rfl⟩
theorem j0l:∀ {x y:List V},vRow x y=true→x=y∧x.any V.own1=false:=by
 intro x
 induction x with
 |nil=>intro y h;cases y with
  |nil=>exact⟨rfl,rfl⟩
  |cons b s=>simp [vRow] at h
 |cons a r ih=>intro y h;cases y with
  |nil=>simp [vRow] at h
  |cons b s=>
   simp only[vRow,Bool.and_eq_true] at h
   obtain⟨h1,h2⟩:=V.eqb1_ok h.1
   obtain⟨h3,h4⟩:=ih h.2
   rw[←h1,←h3]
   exact⟨rfl,by simp [h2,h4]⟩
theorem V.eqb_ok{v u:V}(h:v.eqb u=true):v=u∧v.own=false:=by
 cases v with
 |agg cs=>cases u with
  |agg cs'=>
   simp only[V.eqb] at h
   obtain⟨h1,h2⟩:=j0l h
   exact⟨by rw[h1],h2⟩
  |_=>simp [V.eqb,V.eqb1] at h
 |d c x=>exact V.eqb1_ok (v:=.d c x) (by cases u <;> exact h)
 |fs c k r=>exact V.eqb1_ok (v:=.fs c k r) (by cases u <;> exact h)
 |_=>cases u <;> simp [V.eqb,V.eqb1] at h
def q9u(mv:List Nat):V→V→Bool
 |.ptr b i j,.ptr b' i' j'=>b==b'&&i==i'&&j==j'&&!mv.contains b
 |.bsl b i j,.bsl b' i' j'=>b==b'&&i==i'&&j==j'&&!mv.contains b
 |.map b,.map b'=>b==b'&&!mv.contains b
 |v,u=>v.eqb u
theorem z2M{mv:List Nat}{v u:V}(h:q9u mv v u=true):v=u∧q5n mv v:=by
 have other:v.eqb u=true→v=u∧q5n mv v:=fun h=>by
  obtain⟨h1,h2⟩:=V.eqb_ok h
  refine⟨h1,?_⟩
  cases v with
  |ptr b i j=>simp [V.own,V.own1] at h2
  |bsl b i j=>simp [V.own,V.own1] at h2
  |bsx b i j=>simp [V.own,V.own1] at h2
  |map b=>simp [V.own,V.own1] at h2
  |_=>exact h2
 unfold q9u at h
 split at h
 ·simp only[Bool.and_eq_true,beq_iff_eq,Bool.not_eq_true'] at h
  obtain⟨⟨⟨rfl,rfl⟩,rfl⟩,h⟩:=h
  exact⟨rfl,h⟩
 ·simp only[Bool.and_eq_true,beq_iff_eq,Bool.not_eq_true'] at h
  obtain⟨⟨⟨rfl,rfl⟩,rfl⟩,h⟩:=h
  exact⟨rfl,h⟩
 ·simp only[Bool.and_eq_true,beq_iff_eq,Bool.not_eq_true'] at h
  obtain⟨rfl,h⟩:=h
  exact⟨rfl,h⟩
 ·exact other h
def z0D(X:Cx)(s:S)(mv:List Nat)(H1:List (Nat×Blk))(g:Seg):Bool:=g.late.isEmpty||match q3C X s g.mks with
 |none=>true
 |some (s1,_)=>g.late.all fun e=>match ev X (q4u mv (q4F X s g mv H1) s1) e,ev X s1 e with
  |some v,some u=>q9u mv v u
  |_,_=>false
theorem z2L{X:Cx}{s:S}{mv:List Nat}{H1:List (Nat×Blk)}{g:Seg}(h:z0D X s mv H1 g=true):z2K X s mv H1 g:=by
 intro e he s1 news hm
 unfold z0D at h
 rw[hm] at h
 simp only[Bool.or_eq_true,List.isEmpty_iff,List.all_eq_true] at h
 rcases h with h|h
 ·rw[h] at he;simp at he
 ·have:=h e he
  cases h1:ev X (q4u mv (q4F X s g mv H1) s1) e with
  |none=>rw[h1] at this;simp at this
  |some v=>cases h2:ev X s1 e with
   |none=>rw[h1,h2] at this;simp at this
   |some u=>
    rw[h1,h2] at this
    obtain⟨rfl,h3⟩:=z2M this
    exact⟨v,rfl,rfl,h3⟩
def q6S(X:Cx)(s:S)(g:Seg):Option S:=match q5Y X s g with
 |some s'=>if z0D X s (q14 s s') s'.heap g then some s' else none
 |none=>none
theorem q5X{X:Cx}{g:Seg}{s s':S}(h:q6S X s g=some s'):q2G X s g=some s':=by
 unfold q6S at h
 unfold q2G
 cases h0:q5Y X s g with
 |none=>rw[h0] at h;cases h
 |some s1=>
  rw[h0] at h
  simp only at h ⊢
  by_cases hl:z0D X s (q14 s s1) s1.heap g=true
  ·rw[if_pos hl] at h
   rw[if_pos (z2L hl)]
   exact h
  ·rw[if_neg hl] at h;cases h
def q8c(X:Cx)(s:S):List Seg→Option S
 |[]=>some s
 |g :: r=>match q6S X s g with
  |some s'=>q8c X s' r
  |none=>none
theorem z4l{X:Cx}:∀ {l:List Seg}{s s':S},q8c X s l=some s'→q26 X s l=some s':=by
 intro l
 induction l with
 |nil=>intro s s' h;exact h
 |cons g l ih=>
  intro s s' h
  simp only[q8c] at h
  simp only[q26]
  cases h0:q6S X s g with
  |none=>rw[h0] at h;cases h
  |some s1=>rw[h0] at h;rw[q5X h0];exact ih h
def q9C(C:Cx)(s:S)(p:Pre)(g:Seg):Option S:=match p.sg with
 |none=>q6S C s g
 |some (t,b)=>match look s.rho t with
  |some (.d _ (.bool x))=>if x=b then q6S C s g else some (z0f s (z1K g))
  |_=>none
theorem z4m{X:Cx}{p:Pre}{g:Seg}{s s':S}(h:q9C X s p g=some s'):q8d X s p g=some s':=by
 unfold q9C at h
 unfold q8d
 split at h
 ·rename_i e;rw[e];exact q5X h
 ·rename_i t b e
  rw[e]
  simp only
  split at h
  ·rename_i c x hl
   rw[hl]
   simp only
   split at h
   ·rename_i hx;rw[if_pos hx];exact q5X h
   ·rename_i hx;rw[if_neg hx];exact h
  ·cases h
def q5W(m:Nat)(C:Cx)(s:S):List (Pre×Seg)→Option S
 |[]=>some s
 |(p,g) :: r=>match q9C C (frzL m p.fz s) p g with
  |some s'=>q5W m C s' r
  |none=>none
theorem z1Z{X:Cx}{m:Nat}:∀ {l:List (Pre×Seg)}{s s':S},q5W m X s l=some s'→q3B m X s l=some s':=by
 intro l
 induction l with
 |nil=>intro s s' h;exact h
 |cons q l ih=>
  intro s s' h
  obtain⟨p,g⟩:=q
  simp only[q5W] at h
  simp only[q3B]
  cases h0:q9C X (frzL m p.fz s) p g with
  |none=>rw[h0] at h;cases h
  |some s1=>rw[h0] at h;rw[z4m h0];exact ih h
def z0k(X:Cx)(s s2:S)(g:Seg):Bool:=g.late.isEmpty||match q3C X s g.mks with
 |some (s1,_)=>g.late.all fun e=>match ev X s2 e,ev X s1 e with
  |some v,some u=>q9u [] v u
  |_,_=>false
 |none=>true
theorem z2w{X:Cx}{s s2:S}{g:Seg}(h:z0k X s s2 g=true):z9M X s s2 g:=by
 intro e he s1 news hm
 unfold z0k at h
 rw[hm] at h
 simp only[Bool.or_eq_true,List.isEmpty_iff,List.all_eq_true] at h
 rcases h with h|h
 ·rw[h] at he;simp at he
 ·have:=h e he
  cases h1:ev X s2 e with
  |none=>simp [h1] at this
  |some v=>
   cases h2:ev X s1 e with
   |none=>simp [h1,h2] at this
   |some u=>
    rw[h1,h2] at this
    rw[(z2M this).1]
def q4o(C:Cx)(s:S):List Seg→Option S
 |[]=>some s
 |g :: r=>match q6S C s g with
  |some s'=>if r.isEmpty||z0k C s s' g then q4o C s' r else none
  |none=>none
theorem q8b{X:Cx}:∀ {l:List Seg}{s s':S},q4o X s l=some s'→q1J X s l=some s':=by
 intro l
 induction l with
 |nil=>intro s s' h;exact h
 |cons g l ih=>
  intro s s' h
  simp only[q4o] at h
  simp only[q1J]
  cases h0:q6S X s g with
  |none=>rw[h0] at h;cases h
  |some s1=>
   rw[h0] at h
   rw[q5X h0]
   simp only at h ⊢
   split at h
   ·rename_i hc
    rw[if_pos ?_]
    ·exact ih h
    ·simp only[Bool.or_eq_true,List.isEmpty_iff] at hc
     exact hc.imp id z2w
   ·cases h
def execC(N:Nat)(X:Cx):C→S→Option (Ex×S)
 |.skip,s=>some (.nrm,s)
 |.regg m l,s=>match q5W m X s l with
  |some s'=>some (.nrm,s')
  |none=>none
 |.regl l,s=>match q4o X s l with
  |some s'=>some (.nrm,s')
  |none=>none
 |.regp _ l,s=>match q4o X s l with
  |some s'=>some (.nrm,s')
  |none=>none
 |.ownc t j k,s=>some (.nrm,z8v t j k s)
 |.reg l,s=>match q8c X s l with
  |some s'=>some (.nrm,s')
  |none=>none
 |.seq a b,s=>match execC N X a s with
  |some (.nrm,s')=>execC N X b s'
  |r=>r
 |.cond e a b,s=>match ev X s e with
  |some (.d _ (.bool x))=>if x then execC N X a s else execC N X b s
  |_=>none
 |.block id c,s=>match execC N X c s with
  |some (.exit i,s')=>if i=id then some (.nrm,s') else some (.exit i,s')
  |r=>r
 |.loop c,s=>iter (execC N X c) N s
 |.exit id,s=>some (.exit id,s)
 |.scope c ls,s=>q3H (fun l=>labelled N X ls l) N (execC N X c s)
 |.lnil,_=>none
 |.lcons _ _ _,_=>none
 |.label _,s=>some (.nrm,s)
 |.goto l,s=>some (.goto l,s)
 |.ret,s=>some (.ret,s)
 |.tidy m slots,s=>match q6Z m slots s with
  |some s'=>some (.nrm,s')
  |none=>none
 |.own t k,s=>match look s.rho t with
  |some (.fs _ k' [])=>if k'=k then some (.nrm,⟨put s.rho t (.bsl s.nx 0 0),(s.nx,.dat true k []) :: s.heap,s.nx+1,s.mv⟩) else some (.nrm,s)
  |_=>some (.nrm,s)
 |.frz m t j,s=>some (.nrm,frzS m t j s)
 |.keep sl,s=>some (.nrm,skipM s sl)
 |.stuck,_=>none
 where
 labelled (N:Nat) (X:Cx):C→Nat→Option (S→Option (Ex×S))
  |.lcons l c ls,l'=>if l=l' then some (execC N X c) else labelled N X ls l'
  |_,_=>none
theorem j02{f g:S→Option (Ex×S)}(h:∀ s r,f s=some r→g s=some r):∀(n:Nat)(s:S)(r:Ex×S),iter f n s=some r→iter g n s=some r:=by
 intro n
 induction n with
 |zero=>intro s r h;cases h
 |succ n ih=>
  intro s r hr
  simp only[iter] at hr ⊢
  cases hf:f s with
  |none=>rw[hf] at hr;cases hr
  |some q=>
   rw[h s q hf]
   rw[hf] at hr
   obtain⟨e,s'⟩:=q
   cases e with
   |nrm=>exact ih s' r hr
   |_=>exact hr
theorem z8Q{f g:Nat→Option (S→Option (Ex×S))}(h:∀ l k,f l=some k→∃ k',g l=some k'∧∀ s r,k s=some r→k' s=some r):∀(n:Nat)(q q':Option (Ex×S))(r:Ex×S),(∀ x,q=some x→q'=some x)→q3H f n q=some r→q3H g n q'=some r:=by
 intro n
 induction n with
 |zero=>intro q q' r _ h;cases h
 |succ n ih=>
  intro q q' r hq hr
  cases q with
  |none=>simp [q3H] at hr
  |some x=>
   rw[hq x rfl]
   obtain⟨e,s⟩:=x
   cases e with
   |goto l=>
    simp only[q3H] at hr ⊢
    cases hl:f l with
    |none=>rw[hl] at hr;cases hr
    |some k=>
     obtain⟨k',h1,h2⟩:=h l k hl
     rw[hl] at hr
     rw[h1]
     exact ih _ _ r (fun x hx=>h2 s x hx) hr
   |_=>exact hr
theorem q7b(N:Nat)(X:Cx):∀ c:C,(∀ s r,execC N X c s=some r→exec X c s=some r)∧∀ l k,execC.labelled N X c l=some k→∃ k',exec.labelled X c l=some k'∧∀ s r,k s=some r→k' s=some r:=by
 intro c
 induction c with
 |skip=>exact⟨fun s r h=>h,fun l k h=>by simp [execC.labelled] at h⟩
 |reg l=>
  refine⟨fun s r h=>?_,fun l k h=>by simp [execC.labelled] at h⟩
  simp only[execC] at h
  simp only[exec]
  cases hs:q8c X s l with
  |none=>rw[hs] at h;cases h
  |some s'=>rw[hs] at h;rw[z4l hs];exact h
 |seq a b iha ihb=>
  refine⟨fun s r h=>?_,fun l k h=>by simp [execC.labelled] at h⟩
  simp only[execC] at h
  simp only[exec]
  cases hs:execC N X a s with
  |none=>rw[hs] at h;cases h
  |some q=>
   rw[hs] at h
   rw[iha.1 s q hs]
   obtain⟨e,s'⟩:=q
   cases e with
   |nrm=>exact ihb.1 s' r h
   |_=>exact h
 |cond e a b iha ihb=>
  refine⟨fun s r h=>?_,fun l k h=>by simp [execC.labelled] at h⟩
  simp only[execC] at h
  simp only[exec]
  split at h
  ·rename_i x hx
   rw[hx]
   simp only
   cases x with
   |true=>exact iha.1 s r h
   |false=>exact ihb.1 s r h
  ·cases h
 |block id c ih=>
  refine⟨fun s r h=>?_,fun l k h=>by simp [execC.labelled] at h⟩
  simp only[execC] at h
  simp only[exec]
  cases hs:execC N X c s with
  |none=>rw[hs] at h;cases h
  |some q=>
   rw[hs] at h
   rw[ih.1 s q hs]
   exact h
 |loop c ih=>
  refine⟨fun s r h=>?_,fun l k h=>by simp [execC.labelled] at h⟩
  simp only[execC] at h
  simp only[exec]
  exact q43 (j02 ih.1 N s r h)
 |exit id=>exact⟨fun s r h=>h,fun l k h=>by simp [execC.labelled] at h⟩
 |scope c ls ihc ihl=>
  refine⟨fun s r h=>?_,fun l k h=>by simp [execC.labelled] at h⟩
  simp only[execC] at h
  simp only[exec]
  exact z5G (z8Q ihl.2 N _ _ r (fun x hx=>ihc.1 s x hx) h)
 |lnil=>exact⟨fun s r h=>by simp [execC] at h,fun l k h=>by simp [execC.labelled] at h⟩
 |lcons l c ls ihc ihl=>
  refine⟨fun s r h=>by simp [execC] at h,fun l' k h=>?_⟩
  simp only[execC.labelled] at h
  simp only[exec.labelled]
  by_cases e:l=l'
  ·rw[if_pos e] at h ⊢
   obtain rfl:=Option.some.inj h
   exact⟨_,rfl,ihc.1⟩
  ·rw[if_neg e] at h ⊢
   exact ihl.2 l' k h
 |label l=>exact⟨fun s r h=>h,fun l k h=>by simp [execC.labelled] at h⟩
 |goto l=>exact⟨fun s r h=>h,fun l k h=>by simp [execC.labelled] at h⟩
 |ret=>exact⟨fun s r h=>h,fun l k h=>by simp [execC.labelled] at h⟩
 |tidy m slots=>exact⟨fun s r h=>h,fun l k h=>by simp [execC.labelled] at h⟩
 |own t k=>exact⟨fun s r h=>h,fun l k h=>by simp [execC.labelled] at h⟩
 |stuck=>exact⟨fun s r h=>by simp [execC] at h,fun l k h=>by simp [execC.labelled] at h⟩
 |keep sl=>exact⟨fun s r h=>h,fun l k h=>by simp [execC.labelled] at h⟩
 |frz m t j=>exact⟨fun s r h=>h,fun l k h=>by simp [execC.labelled] at h⟩
 |ownc t j k=>exact⟨fun s r h=>h,fun l k h=>by simp [execC.labelled] at h⟩
 |regl l=>
  refine⟨fun s r h=>?_,fun l k h=>by simp [execC.labelled] at h⟩
  simp only[execC] at h
  simp only[exec]
  cases h0:q4o X s l with
  |none=>rw[h0] at h;cases h
  |some s1=>rw[h0] at h;rw[q8b h0];exact h
 |regp π l=>
  refine⟨fun s r h=>?_,fun l k h=>by simp [execC.labelled] at h⟩
  simp only[execC] at h
  simp only[exec]
  cases h0:q4o X s l with
  |none=>rw[h0] at h;cases h
  |some s1=>rw[h0] at h;rw[q8b h0];exact h
 |regg m l=>
  refine⟨fun s r h=>?_,fun l k h=>by simp [execC.labelled] at h⟩
  simp only[execC] at h
  simp only[exec]
  cases h0:q5W m X s l with
  |none=>rw[h0] at h;cases h
  |some s1=>rw[h0] at h;rw[z1Z h0];exact h
def q7z(N:Nat)(K:Cx)(g:Fun)(args:List V)(blks:List Blk):Option (V×List Blk×List Nat):=
 match execC N K g.body (startS args blks) with
 |some (.nrm,s)=>match mapO (ev K s) g.res with
  |some vs=>finish blks.length g.own s (q0b vs)
  |none=>none
 |some (.ret,s)=>match mapO (ev K s) g.res with
  |some vs=>finish blks.length g.own s (q0b vs)
  |none=>none
 |_=>none
theorem q6j{N:Nat}{K:Cx}{g:Fun}{args:List V}{blks:List Blk}{r:V×List Blk×List Nat}(h:q7z N K g args blks=some r):q0B K g args blks=some r:=by
 unfold q7z at h
 unfold q0B
 cases hs:execC N K g.body (startS args blks) with
 |none=>rw[hs] at h;cases h
 |some q=>
  rw[hs] at h
  rw[(q7b N K g.body).1 _ _ hs]
  exact h
structure Row where
 f:FuncId
 m:Nat
 n:Nat
 g:Fun
variable {P:Program}
end Go.Vm
end

section
namespace Go.Vm
structure Sp where
 α:Type
 f:FuncId
 ok:α→Prop
 args:α→List V
 res:α→V×List Blk
 inj:∀ a b,ok a→ok b→args a=args b→res a=res b
structure Se where
 α:Type
 f:FuncId
 ok:α→Prop
 args:α→List V
 blks:α→List Blk
 res:α→V×List Blk×List Nat
 inj:∀ a b,ok a→ok b→args a=args b→blks a=blks b→res a=res b
open Classical in
noncomputable def q8o:List Sp→FuncId→List V→Option (V×List Blk)
 |[],_,_=>none
 |s :: L,f,vs=>if s.f=f then(if h:∃ a,s.ok a∧s.args a=vs then some (s.res h.choose) else none) else q8o L f vs
open Classical in
noncomputable def z16:List Se→FuncId→List V→List Blk→Option (V×List Blk×List Nat)
 |[],_,_,_=>none
 |s :: L,f,vs,bs=>if s.f=f then(if h:∃ a,s.ok a∧s.args a=vs∧s.blks a=bs then some (s.res h.choose) else none) else z16 L f vs bs
noncomputable def cx(G:Nat→Option (List D))(L:List Sp)(E:List Se):Cx:=⟨q8o L,z16 E,G,fun _=>false,[]⟩
def Has(L:List Sp)(s:Sp):Prop:=∀ a,s.ok a→q8o L s.f (s.args a)=some (s.res a)
def HasE(L:List Se)(s:Se):Prop:=∀ a,s.ok a→z16 L s.f (s.args a) (s.blks a)=some (s.res a)
theorem q0w(s:Sp)(L:List Sp):Has (s :: L) s:=by
 intro a ha
 have h:∃ b,s.ok b∧s.args b=s.args a:=⟨a,ha,rfl⟩
 simp only[q8o,if_true]
 rw[dif_pos h]
 exact congrArg some (s.inj _ _ h.choose_spec.1 ha h.choose_spec.2)
theorem q0v{s t:Sp}{L:List Sp}(h:Has L s)(hne:t.f≠s.f):Has (t :: L) s:=by
 intro a ha
 simp only[q8o]
 rw[if_neg hne]
 exact h a ha
theorem q1W(s:Se)(L:List Se):HasE (s :: L) s:=by
 intro a ha
 have h:∃ b,s.ok b∧s.args b=s.args a∧s.blks b=s.blks a:=⟨a,ha,rfl,rfl⟩
 simp only[z16,if_true]
 rw[dif_pos h]
 exact congrArg some (s.inj _ _ h.choose_spec.1 ha h.choose_spec.2.1 h.choose_spec.2.2)
variable {P:Program}{G:Nat→Option (List D)}
def Sp.Holds(P:Program)(G:Nat→Option (List D))(s:Sp):Prop:=∀ a,s.ok a→q0S P s.f=true∧q2s P G s.f (s.args a) (s.res a).1 (s.res a).2
def Se.Holds(P:Program)(G:Nat→Option (List D))(s:Se):Prop:=∀ a,s.ok a→q0S P s.f=true∧q5x P G s.f (s.args a) (s.blks a) (s.res a).1 (s.res a).2.1 (s.res a).2.2
theorem q8n:∀(L:List Sp)(f:FuncId)(vs:List V)(p:V×List Blk),q8o L f vs=some p→∃ s∈L,s.f=f∧∃ a,s.ok a∧s.args a=vs∧s.res a=p
 |[],f,vs,p,h=>by cases h
 |s :: L,f,vs,p,h=>by
  simp only[q8o] at h
  split at h
  ·rename_i hf
   split at h
   ·rename_i hx
    obtain⟨h1,h2⟩:=hx.choose_spec
    exact⟨s,by simp,hf,_,h1,h2,Option.some.inj h⟩
   ·cases h
  ·obtain⟨t,ht,r⟩:=q8n L f vs p h
   exact⟨t,List.mem_cons_of_mem _ ht,r⟩
theorem q85:∀(L:List Se)(f:FuncId)(vs:List V)(bs:List Blk)(p:V×List Blk×List Nat),z16 L f vs bs=some p→∃ s∈L,s.f=f∧∃ a,s.ok a∧s.args a=vs∧s.blks a=bs∧s.res a=p
 |[],f,vs,bs,p,h=>by cases h
 |s :: L,f,vs,bs,p,h=>by
  simp only[z16] at h
  split at h
  ·rename_i hf
   split at h
   ·rename_i hx
    obtain⟨h1,h2,h3⟩:=hx.choose_spec
    exact⟨s,by simp,hf,_,h1,h2,h3,Option.some.inj h⟩
   ·cases h
  ·obtain⟨t,ht,r⟩:=q85 L f vs bs p h
   exact⟨t,List.mem_cons_of_mem _ ht,r⟩
theorem z9v{L:List Sp}{E:List Se}(h1:∀ s∈L,s.Holds P G)(h2:∀ s∈E,s.Holds P G):(cx G L E).Sound P:=by
 refine⟨fun f args r news h=>?_,fun f args r news hl _=>absurd hl (by simp [cx]),fun f args blks r blks' mv h=>?_⟩
 ·obtain⟨s,hs,rfl,a,ha,rfl,hr⟩:=q8n L f args (r,news) h
  have:=h1 s hs a ha
  rw[hr] at this
  exact this
 ·obtain⟨s,hs,rfl,a,ha,rfl,rfl,hr⟩:=q85 E f args blks (r,blks',mv) h
  have:=h2 s hs a ha
  rw[hr] at this
  exact this
theorem z8T{L:List Sp}{E:List Se}(hm:P.follows .mixedOrders=true)(hK:(cx G L E).Sound P){s:Sp}{g:Fun}(hok:∀ a,s.ok a→q09 P s.f 0 (s.args a).length g=true)
  (hev:∀ a,s.ok a→∃ mv,q0B (cx G L E) g (s.args a) []=some ((s.res a).1,(s.res a).2,mv)):s.Holds P G:=by
 intro a ha
 obtain⟨mv,h⟩:=hev a ha
 exact q42 hm hK (hok a ha) h
theorem z6y{L:List Sp}{E:List Se}(hm:P.follows .mixedOrders=true)(hK:(cx G L E).Sound P){s:Se}{g:Fun}(hok:∀ a,s.ok a→q09 P s.f (s.blks a).length (s.args a).length g=true)
  (hev:∀ a,s.ok a→q0B (cx G L E) g (s.args a) (s.blks a)=some (s.res a)):s.Holds P G:=by
 intro a ha
 exact z0Y hm hK (hok a ha) (hev a ha)
structure Known(P:Program)(G:Nat→Option (List D))(L:List Sp)(E:List Se):Prop where
 one:∀ s∈L,s.Holds P G
 eff:∀ s∈E,s.Holds P G
theorem Known.sound{L:List Sp}{E:List Se}(h:Known P G L E):(cx G L E).Sound P:=z9v h.one h.eff
theorem Known.nil:Known P G [] []:=⟨fun s h=>by simp at h,fun s h=>by simp at h⟩
theorem Known.add{L:List Sp}{E:List Se}(h:Known P G L E)(hm:P.follows .mixedOrders=true){s:Sp}{g:Fun}(hok:∀ a,s.ok a→q09 P s.f 0 (s.args a).length g=true)
  (hev:∀ a,s.ok a→∃ mv,q0B (cx G L E) g (s.args a) []=some ((s.res a).1,(s.res a).2,mv)):Known P G (s :: L) E:=by
 refine⟨fun t ht=>?_,h.eff⟩
 rcases List.mem_cons.1 ht with rfl|ht
 ·exact z8T hm h.sound hok hev
 ·exact h.one t ht
theorem Known.addE{L:List Sp}{E:List Se}(h:Known P G L E)(hm:P.follows .mixedOrders=true){s:Se}{g:Fun}(hok:∀ a,s.ok a→q09 P s.f (s.blks a).length (s.args a).length g=true)
  (hev:∀ a,s.ok a→q0B (cx G L E) g (s.args a) (s.blks a)=some (s.res a)):Known P G L (s :: E):=by
 refine⟨h.one,fun t ht=>?_⟩
 rcases List.mem_cons.1 ht with rfl|ht
 ·exact z6y hm h.sound hok hev
 ·exact h.eff t ht
theorem Known.put{L:List Sp}{E:List Se}(h:Known P G L E){s:Sp}(hs:s.Holds P G):Known P G (s :: L) E:=by
 refine⟨fun t ht=>?_,h.eff⟩
 rcases List.mem_cons.1 ht with rfl|ht
 ·exact hs
 ·exact h.one t ht
theorem q18{s t:Se}{L:List Se}(h:HasE L s)(hne:t.f≠s.f):HasE (t :: L) s:=by
 intro a ha
 simp only[z16]
 rw[if_neg hne]
 exact h a ha
end Go.Vm
end

section
namespace Go.Vm
open Go.RowKit
section
variable {P:Program}{w:World}
def Same(w:World)(v v':Value):Prop:=v'.ownBlock=v.ownBlock∨∃ g,v'.ownBlock=some g∧w.heap.size≤g
theorem z2i(t ty e:TypeId)(i:TypeInfo)(ht:P.underlying t=some (.slice e))(hi:P.info? e=some i)(hz:i.zero=some (.int .u8 0))(hsize:i.size=1)(hby:i.bytes=1)
  (v:Value) (n:Nat) (xs:List Value) (hown:w.ownsRowF 0 e 1 v n xs)
  (a:Addr) (m c:Nat) (news:List Value) (hl:news.length=m) (hnews:∀ j u,news[j]? = some u→w.cell? (a.add j)=some u) (h1:∀ u∈news,u.oneCell'=true) (h63:n+m≤maxLen) (hbytes:n+m≤140737488355328) :
  ∃ v' w',(Builtin.append_ #[t,t] ty #[v,.slice (some a) m c]).run P w=.ok v' w'∧w'.ownsRowF 0 e 1 v' (n+m) (xs++news)∧w.grownBy w' v.ownBlock∧(v'=.slice none 0 0↔v=.slice none 0 0∧m=0)∧Same w v v':=by
 obtain⟨v',w',r1,r2,r3,r4⟩:=run_append_ownF (P:=P) w 0 t ty e i (.int .u8 0) 1 1 ht hi hz hsize hby rfl (by decide) v n xs hown a m c news (by omega) hnews h1 h63 (by omega) (Nat.zero_le _)
 refine⟨v',w',r1,r2,r3,r4,?_⟩
 rcases hown.2 with⟨rfl,rfl⟩|⟨g,cap,cur,fz,rfl,hbg,hg,hfz,hnc,hcm,hcs,htake⟩
 ·obtain⟨v2,w2,q1,q2,q3,q4⟩:=run_append_ownF (P:=P) w w.heap.size t ty e i (.int .u8 0) 1 1 ht hi hz hsize hby rfl (by decide) (.slice none 0 0) 0 xs ⟨hown.1,.inl ⟨rfl,rfl⟩⟩ a m c news (by omega) hnews h1 h63 (by omega) (Nat.le_refl _)
  rw[r1] at q1
  obtain⟨rfl,rfl⟩:v'=v2∧w'=w2:=by injection q1 with e1 e2;exact⟨e1,e2⟩
  cases ho:v'.ownBlock with
  |none=>exact .inl (by rw[ho];rfl)
  |some g=>exact .inr ⟨g,ho,(q2.lt g ho).1⟩
 ·by_cases hroom:n+m≤cap
  ·have hr:=run_append_roomF (P:=P) w t ty e i ht hi g n cap cur fz hg (by rw[hsize];exact hfz) a m c news (by rw[hsize];omega) hnews h1 hroom (by rw[hsize];omega)
   rw[r1] at hr
   obtain⟨rfl,_⟩:v'=.slice (some ⟨g,0,none⟩) (n+m) cap∧True:=by injection hr with e1 e2;exact⟨e1,trivial⟩
   exact .inl rfl
  ·have holds:∀ j u,xs[j]? = some u→w.cell? ((⟨g,0,none⟩:Addr).add j)=some u:=hown.cells (g:=g) rfl
   have hsmall:n+m≤9223372036854775807:=by simp only[maxLen] at h63;omega
   have hr:=run_append_grow (P:=P) w t ty e i (.int .u8 0) ht hi hz ⟨g,0,none⟩ n cap xs (by rw[hsize];exact hown.1) holds a m c news (by rw[hsize];omega) hnews (by omega) (by omega) (growslice_fits (by omega) (by rw[hby];omega))
   rw[r1] at hr
   obtain⟨rfl,_⟩:v'=.slice (some ⟨w.heap.size,0,none⟩) (n+m) (grownCap w (n+m) cap e)∧True:=by injection hr with e1 e2;exact⟨e1,trivial⟩
   exact .inr ⟨w.heap.size,rfl,Nat.le_refl _⟩
theorem q8r(t u ty e:TypeId)(i:TypeInfo)(ht:P.underlying t=some (.slice e))(hu:P.underlying u=some .string)(hi:P.info? e=some i)(hz:i.zero=some (.int .u8 0))(hsize:i.size=1)(hby:i.bytes=1)
  (v:Value) (n:Nat) (xs:List Value) (hown:w.ownsRowF 0 e 1 v n xs) (s:ByteArray) (h63:n+s.size≤maxLen) (hbytes:n+s.size≤140737488355328) :
  ∃ v' w',(Builtin.append_ #[t,u] ty #[v,.string s]).run P w=.ok v' w'∧w'.ownsRowF 0 e 1 v' (n+s.size) (xs++Lib.strCells s)∧w.grownBy w' v.ownBlock∧(v'=.slice none 0 0↔v=.slice none 0 0∧s.size=0)∧Same w v v':=by
 obtain⟨v',w',r1,r2,r3,r4⟩:=Lib.run_append_own_stringF (P:=P) w 0 t u ty e i ht hu hi hz hsize hby v n xs hown s h63 hbytes (Nat.zero_le _)
 refine⟨v',w',r1,r2,r3,r4,?_⟩
 rcases hown.2 with⟨rfl,rfl⟩|⟨g,cap,cur,fz,rfl,hbg,hg,hfz,hnc,hcm,hcs,htake⟩
 ·obtain⟨v2,w2,q1,q2,q3,q4⟩:=Lib.run_append_own_stringF (P:=P) w w.heap.size t u ty e i ht hu hi hz hsize hby (.slice none 0 0) 0 xs ⟨hown.1,.inl ⟨rfl,rfl⟩⟩ s h63 hbytes (Nat.le_refl _)
  rw[r1] at q1
  obtain⟨rfl,rfl⟩:v'=v2∧w'=w2:=by injection q1 with e1 e2;exact⟨e1,e2⟩
  cases ho:v'.ownBlock with
  |none=>exact .inl (by rw[ho];rfl)
  |some g=>exact .inr ⟨g,ho,(q2.lt g ho).1⟩
 ·by_cases hroom:n+s.size≤cap
  ·have hr:=Lib.run_append_room_stringF (P:=P) w t u ty e i ht hu hi hsize g n cap cur fz hg (by omega) s hroom (by omega)
   rw[r1] at hr
   obtain⟨rfl,_⟩:v'=.slice (some ⟨g,0,none⟩) (n+s.size) cap∧True:=by injection hr with e1 e2;exact⟨e1,trivial⟩
   exact .inl rfl
  ·have holds:∀ j u,xs[j]? = some u→w.cell? ((⟨g,0,none⟩:Addr).add j)=some u:=hown.cells (g:=g) rfl
   have hsmall:n+s.size≤9223372036854775807:=by simp only[maxLen] at h63;omega
   have hr:=Lib.run_append_grow_string (P:=P) w t u ty e i (.int .u8 0) ht hu hi hz ⟨g,0,none⟩ n cap xs (by rw[hsize];exact hown.1) holds s (by omega) (by omega) (growslice_fits (by omega) (by rw[hby];omega))
   rw[r1] at hr
   obtain⟨rfl,_⟩:v'=.slice (some ⟨w.heap.size,0,none⟩) (n+s.size) (grownCap w (n+s.size) cap e)∧True:=by injection hr with e1 e2;exact⟨e1,trivial⟩
   exact .inr ⟨w.heap.size,rfl,Nat.le_refl _⟩
theorem q8v{ops:Array Oper}{rest:List Oper}{o:Oper}{a:Act}{Q:Exit→Act→World→Prop}(hgd:o.guard=none)(s x:Operand)(t:TypeId)
  (ho:o.op=.call { callee:=.builtin .append,args:=#[s,x],argTypes:=#[t,t] })
  (e:TypeId) (i:TypeInfo) (ht:P.underlying t=some (.slice e)) (hi:P.info? e=some i) (hz:i.zero=some (.int .u8 0)) (hsize:i.size=1) (hby:i.bytes=1)
  (v:Value) (n:Nat) (xs:List Value) (hs:a.eval s=v) (hown:w.ownsRowF 0 e 1 v n xs)
  (ad:Addr) (m c:Nat) (news:List Value) (hx:a.eval x=.slice (some ad) m c) (hl:news.length=m) (hnews:∀ j u,news[j]? = some u→w.cell? (ad.add j)=some u) (h1:∀ u∈news,u.oneCell'=true) (h63:n+m≤maxLen) (hbytes:n+m≤140737488355328)
  (h:∀ v' w',w'.ownsRowF 0 e 1 v' (n+m) (xs++news)→w.grownBy w' v.ownBlock→(v'=.slice none 0 0↔v=.slice none 0 0∧m=0)→Same w v v'→wpList P ops Q rest (a.put o.dst v') w'):wpList P ops Q (o :: rest) a w:=by
 refine wpList_plain hgd fun K hK=>?_
 obtain⟨v',w',hr,h2,h3,h4,h5⟩:=z2i (P:=P) (w:=w) t o.type e i ht hi hz hsize hby v n xs hown ad m c news hl hnews h1 h63 hbytes
 unfold Oper.wp execOp
 simp only[ho,resolve,invoke,builtin,Sem.run_bind,Sem.run_pure,Result.andThen_ok,List.map_toArray,List.map_cons,List.map_nil,hs,hx,hr]
 exact hK _ _ (h v' w' h2 h3 h4 h5)
theorem q5y{ops:Array Oper}{rest:List Oper}{o:Oper}{a:Act}{Q:Exit→Act→World→Prop}(hgd:o.guard=none)(sl x:Operand)(t u:TypeId)
  (ho:o.op=.call { callee:=.builtin .append,args:=#[sl,x],argTypes:=#[t,u] })
  (e:TypeId) (i:TypeInfo) (ht:P.underlying t=some (.slice e)) (hu:P.underlying u=some .string) (hi:P.info? e=some i) (hz:i.zero=some (.int .u8 0)) (hsize:i.size=1) (hby:i.bytes=1)
  (v:Value) (n:Nat) (xs:List Value) (hs:a.eval sl=v) (hown:w.ownsRowF 0 e 1 v n xs) (s:ByteArray) (hx:a.eval x=.string s) (h63:n+s.size≤maxLen) (hbytes:n+s.size≤140737488355328)
  (h:∀ v' w',w'.ownsRowF 0 e 1 v' (n+s.size) (xs++Lib.strCells s)→w.grownBy w' v.ownBlock→(v'=.slice none 0 0↔v=.slice none 0 0∧s.size=0)→Same w v v'→wpList P ops Q rest (a.put o.dst v') w'):wpList P ops Q (o :: rest) a w:=by
 refine wpList_plain hgd fun K hK=>?_
 obtain⟨v',w',hr,h2,h3,h4,h5⟩:=q8r (P:=P) (w:=w) t u o.type e i ht hu hi hz hsize hby v n xs hown s h63 hbytes
 unfold Oper.wp execOp
 simp only[ho,resolve,invoke,builtin,Sem.run_bind,Sem.run_pure,Result.andThen_ok,List.map_toArray,List.map_cons,List.map_nil,hs,hx,hr]
 exact hK _ _ (h v' w' h2 h3 h4 h5)
end
end Go.Vm
end

section
set_option linter.unusedVariables false
namespace Go.Vm
open Go.RowKit Go.Shelf Go.Proofs
section
variable {P:Program}{ρ:Ren}
structure BAt(T e:TypeId)(w:World)(b:Nat)(p v:Value)(bs:List Value):Prop where
 hp:p=.pointer none∨p=.pointer (some ⟨b,0,none⟩)
 hb:w.heap[b]? = some (.cells #[p,v] T (0,0))
 own:w.ownsRowF 0 e 1 v bs.length bs
 ne:v.ownBlock≠some b
theorem BAt.isB{T e:TypeId}{w:World}{b:Nat}{p v:Value}{bs:List Value}(h:BAt T e w b p v bs):Lib.IsBuilderF T e 0 b bs w:=by
 rcases h.hp with rfl|rfl
 ·exact .inl ⟨Nat.zero_le _,v,h.hb,h.own,h.ne⟩
 ·exact .inr ⟨Nat.zero_le _,v,h.hb,h.own,h.ne⟩
theorem BAt.lt{T e:TypeId}{w:World}{b:Nat}{p v:Value}{bs:List Value}(h:BAt T e w b p v bs):b<w.heap.size:=by
 rcases Nat.lt_or_ge b w.heap.size with h'|h'
 ·exact h'
 ·have:=h.hb;simp [Array.getElem?_eq_none h'] at this
structure Kept(w w':World)(b:Nat)(v v':Value):Prop where
 os:w'.os=w.os
 tape:w'.tape=w.tape
 output:w'.output=w.output
 size:w.heap.size≤w'.heap.size
 blk:∀ k,k<w.heap.size→k≠b→some k≠v.ownBlock→w'.heap[k]? = w.heap[k]?
 same:Same w v v'
def SizeEq(w1 w:World):Prop:=w1.heap.size=w.heap.size
theorem SizeEq.eq{w1 w:World}(h:SizeEq w1 w):w1.heap.size=w.heap.size:=h
theorem z7p{T e:TypeId}{w w1 w2:World}{b:Nat}{v v':Value}{bs':List Value}(hTe:T≠e)(hsz:w1.heap.size=w.heap.size∨w1.heap.size=w.heap.size+1)(hos:w1.os=w.os∧w1.tape=w.tape∧w1.output=w.output)(hold:∀ k,k<w.heap.size→k≠b→w1.heap[k]? = w.heap[k]?)
  (hb2:w2.heap[b]? = some (.cells #[.pointer (some ⟨b,0,none⟩),v] T (0,0))) (hgrow:w1.grownBy w2 v.ownBlock) (hown:w2.ownsRowF 0 e 1 v' bs'.length bs') (hs:Same w1 v v') (hv:∀ g,v.ownBlock=some g→g<w.heap.size) :
  BAt T e (w2.setCell ⟨b,1,none⟩ v') b (.pointer (some ⟨b,0,none⟩)) v' bs'∧Kept w (w2.setCell ⟨b,1,none⟩ v') b v v':=by
 have hne:=Lib.ownBlock_neF hown hb2 hTe
 refine⟨⟨.inr rfl,?_,?_,hne⟩,⟨hgrow.os.trans hos.1,hgrow.tape.trans hos.2.1,hgrow.output.trans hos.2.2,by have:=hgrow.size;simp;omega,fun k hk h1 h2=>?_,?_⟩⟩
 ·simp [World.setCell,Array.getElem?_modify,hb2]
 ·exact hown.kept (row:=some b) ⟨rfl,rfl,rfl,by simp [World.setCell],fun k _ hk=>Below.heap_setCell _ _ _ _ (fun e=>hk (by simp [e]))⟩ (Or.inr hne)
 ·rw[Below.heap_setCell _ _ _ _ h1,hgrow.block k (by omega) h2,hold k hk h1]
 ·rcases hs with h|⟨g,h1,h2⟩
  ·exact .inl h
  ·exact .inr ⟨g,h1,by omega⟩
end
end Go.Vm
end

section
set_option linter.unusedVariables false
namespace Go.Vm
open Go.RowKit Go.Shelf Go.Proofs
section
variable {P:Program}{ρ:Ren}
theorem q5T(w:World)(a:Addr)(n k:Nat)(h:k≠a.block):(w.freeze a n).heap[k]? = w.heap[k]?:=by
 unfold World.freeze
 split
 ·rfl
 ·simp [Array.getElem?_modify,h.symm]
set_option maxHeartbeats 2000000 in
set_option maxRecDepth 100000 in
theorem q8D(L:Lays.n169 P ρ)(X:Builder.Extra P ρ){w:World}{b:Nat}{p:Value}(h:BAt (ρ.t 72) (ρ.t 5) w b p (.slice none 0 0) []) :
  Calls P (ρ.f 169) #[.pointer (some ⟨b,0,none⟩)] w fun e w'=>e=.returned (.string ⟨#[]⟩)∧w'=w.drew:=by
 have hUS:=Any.unsafeString_none L X
 have c1:w.drew.cell? ⟨b,1,none⟩=some (.slice none 0 0):=by
  have:w.drew.heap[b]? = some (.cells #[p,.slice none 0 0] (ρ.t 72) (0,0)):=h.hb
  rw[Lib.cell_of_heap this];rfl
 have hSD:(Builtin.unsafeSliceData_ #[(ρ.t 37)] (ρ.t 127) #[.slice none 0 0]).run P w.drew=.ok (.pointer none) w.drew:=rfl
 have mixed:=L.mixed
 have t72:=L.t72;have a72:=L.a72;have z72:=L.z72;have v72:=L.v72;have u72:=run_underlying L.t72
 have t70:=L.t70;have a70:=L.a70;have z70:=L.z70;have v70:=L.v70;have u70:=run_underlying L.t70
 have t37:=L.t37;have a37:=L.a37;have z37:=L.z37;have v37:=L.v37;have u37:=run_underlying L.t37
 have t127:=L.t127;have a127:=L.a127;have z127:=L.z127;have v127:=L.v127;have u127:=run_underlying L.t127
 have t3:=L.t3;have a3:=L.a3;have z3:=L.z3;have v3:=L.v3;have u3:=run_underlying L.t3
 have t9:=L.t9;have a9:=L.a9;have z9:=L.z9;have v9:=L.v9;have u9:=run_underlying L.t9
 have t5:=X.t5;have a5:=X.a5;have z5:=X.z5;have v5:=X.v5;have u5:=run_underlying X.t5
 go_enter L.f169,Body.n169_ntmps ρ
 go_wp2
 go_region_o
 all_goals(go_wp2;go_ret;exact⟨rfl,rfl⟩)
set_option maxHeartbeats 2000000 in
set_option maxRecDepth 100000 in
theorem q8q(L:Lays.n169 P ρ)(X:Builder.Extra P ρ){w:World}{b g cap:Nat}{p:Value}{l:List UInt8}(h0:l≠[])(h:BAt (ρ.t 72) (ρ.t 5) w b p (.slice (some ⟨g,0,none⟩) l.length cap) (Lib.byteCells l)) :
  Calls P (ρ.f 169) #[.pointer (some ⟨b,0,none⟩)] w fun e w'=>e=.returned (.string ⟨l.toArray⟩)∧w'=w.drew.freeze ⟨g,0,none⟩ l.length:=by
 have hl0:l.length≠0:=by simpa using h0
 have hbk:=h.hb
 have hown:=h.own
 rw[Lib.byteCells_length] at hown
 obtain⟨cur,fz,hg,hfz,hnc,hcm,hcs,htake⟩:∃ cur fz,w.heap[g]? = some (.cells cur (ρ.t 5) fz)∧fz.2≤l.length*1∧l.length≤cap∧cap≤maxLen∧cur.size=cap*1∧cur.toList.take (l.length*1)=Lib.byteCells l:=by
  rcases hown.2 with⟨_,hz⟩|⟨g',cap',cur,fz,hv,hB,r⟩
  ·exact absurd hz hl0
  ·injection hv with e1 e2 e3
   injection e1 with e1
   injection e1 with e1 _
   subst e1;subst e3
   exact⟨cur,fz,r⟩
 have c1:w.drew.cell? ⟨b,1,none⟩=some (.slice (some ⟨g,0,none⟩) l.length cap):=by
  have:w.drew.heap[b]? = some (.cells #[p,.slice (some ⟨g,0,none⟩) l.length cap] (ρ.t 72) (0,0)):=hbk
  rw[Lib.cell_of_heap this];rfl
 have hSD:(Builtin.unsafeSliceData_ #[(ρ.t 37)] (ρ.t 127) #[.slice (some ⟨g,0,none⟩) l.length cap]).run P w.drew=.ok (.pointer (some ⟨g,0,none⟩)) w.drew:=
  Lib.run_unsafeSliceData_row _ _ _ _ _ _ (by omega)
 have hUS:(Builtin.unsafeString_ #[(ρ.t 127),(ρ.t 3)] (ρ.t 9) #[.pointer (some ⟨g,0,none⟩),.int .i64 l.length]).run P w.drew=.ok (.string ⟨l.toArray⟩) (w.drew.freeze ⟨g,0,none⟩ l.length):=by
  refine Lib.run_unsafeString_row w.drew (ρ.t 127) (ρ.t 3) (ρ.t 9) (ρ.t 5) L.t127 X.cellsByte g cur.size (by have hg':w.drew.heap[g]? = some (.cells cur (ρ.t 5) fz):=hg;simp [World.shape?,hg']) l h0 (by omega) (by unfold maxLen at hcm;omega) ?_
  intro j x hx
  have:=hown.cells (g:=g) rfl j (.int .u8 x.toNat) (by simp [Lib.byteCells,hx])
  exact this
 have mixed:=L.mixed
 have t72:=L.t72;have a72:=L.a72;have z72:=L.z72;have v72:=L.v72;have u72:=run_underlying L.t72
 have t70:=L.t70;have a70:=L.a70;have z70:=L.z70;have v70:=L.v70;have u70:=run_underlying L.t70
 have t37:=L.t37;have a37:=L.a37;have z37:=L.z37;have v37:=L.v37;have u37:=run_underlying L.t37
 have t127:=L.t127;have a127:=L.a127;have z127:=L.z127;have v127:=L.v127;have u127:=run_underlying L.t127
 have t3:=L.t3;have a3:=L.a3;have z3:=L.z3;have v3:=L.v3;have u3:=run_underlying L.t3
 have t9:=L.t9;have a9:=L.a9;have z9:=L.z9;have v9:=L.v9;have u9:=run_underlying L.t9
 have t5:=X.t5;have a5:=X.a5;have z5:=X.z5;have v5:=X.v5;have u5:=run_underlying X.t5
 go_enter L.f169,Body.n169_ntmps ρ
 go_wp2
 go_region_o
 all_goals(go_wp2;go_ret;exact⟨rfl,rfl⟩)
end
end Go.Vm
end

section
set_option linter.unusedVariables false
namespace Go.Vm
open Go.RowKit Go.Shelf Go.Proofs
@[reducible] def bldB (T b n:Nat):Blk:=.map [(.nils T,.bsl b 0 n)]
@[reducible] def bufB (e:Nat) (bytes:List UInt8):Blk:=.map [(.emps e,.d false .nilp),(.str bytes,.d false .nilp)]
section
variable {P:Program}{ρ:Ren}{w w':World}{F:Nat→Prop}{σ:Nat→Option Loc}
theorem q1h(l:List UInt8):(q2K l).length=l.length:=by simp [q2K]
theorem q7k{T e:Nat}{bytes:List UInt8}(hH:HeapRel w F (OwnB σ) w.heap.size σ 2 (indexed [bldB T 1 bytes.length,bufB e bytes])) :
  ∃ l0 p v,σ 0=some l0∧l0.k=0∧BAt T e w l0.blk p v (q2K bytes)∧(bytes=[]→v=.slice none 0 0)∧∀ g,v.ownBlock=some g→∃ l,σ 1=some l∧l.blk=g:=by
 have h0:=hH.blk 0 (bldB T 1 bytes.length) rfl
 have h1:=hH.blk 1 (bufB e bytes) rfl
 rcases h0 with⟨hn,_⟩|⟨l0,es,ck,ds,hds,hs0,hm,hk,_,_⟩|⟨_,_,_,_,_,_,_,_,_,he⟩
 ·simp [Blk.n,q8S,z52] at hn
 ·obtain rfl:[(D.nils T,V.bsl 1 0 bytes.length)]=ds:=by injection hds
  rcases hm with⟨_,_,ht⟩|⟨T',p,v,x,hx,hw,hp,hv⟩|⟨T',cur,fz,bs,hx,_⟩
  ·simp [q2a] at ht
  ·simp only[List.cons.injEq,Prod.mk.injEq,D.nils.injEq,and_true] at hx
   obtain⟨rfl,rfl⟩:=hx
   obtain⟨_,hv⟩:=hv
   refine⟨l0,p,v,hs0,hk,?_⟩
   rcases hv with⟨hb,rfl⟩|⟨l,hl,hpos,rfl⟩
   ·obtain rfl:bytes=[]:=List.eq_nil_of_length_eq_zero hb
    exact⟨⟨hp,hw,World.ownsRowF_nil _ _ _ _,by simp [Value.ownBlock]⟩,fun _=>rfl,fun g hg=>by simp [Value.ownBlock] at hg⟩
   ·rcases h1 with⟨_,hn⟩|⟨l1,es1,ck1,ds1,hds1,hs1,hm1,hk1,_,_⟩|⟨_,_,_,_,_,_,_,_,_,he⟩
    ·rw[hl] at hn;cases hn
    ·obtain rfl:[(D.emps e,V.d false .nilp),(.str bytes,.d false .nilp)]=ds1:=by injection hds1
     rw[hl] at hs1
     obtain rfl:=Option.some.inj hs1
     rcases hm1 with⟨_,_,ht⟩|⟨T',p',v',x',hx,_⟩|⟨T',cur,fz,bs,hx,hg,f1,f2,f3,f4,f5⟩
     ·simp [q2a] at ht
     ·simp at hx
     ·simp only[List.map_cons,List.map_nil,List.cons.injEq,D.emps.injEq,D.str.injEq,and_true] at hx
      obtain⟨rfl,rfl⟩:=hx
      refine⟨⟨hp,hw,⟨by simp,.inr ⟨l.blk,l.ext,cur,fz,by rw[q1h],Nat.zero_le _,hg,by rw[q1h];omega,by rw[q1h];exact f2,f4,by omega,?_⟩⟩,?_⟩,fun h=>?_,fun g hg=>⟨l,hl,?_⟩⟩
      ·rw[q1h,Nat.mul_one];exact f5
      ·intro h
       simp only[Value.ownBlock,Option.some.injEq] at h
       have:=hH.inj 0 1 l0 l hs0 hl h.symm
       cases this
      ·rw[h] at hpos;simp at hpos
      ·simpa [Value.ownBlock] using hg
    ·simp [Blk.entries] at he
  ·simp at hx
 ·simp [Blk.entries] at he
theorem q58{T e:Nat}{l0:Loc}{p' v v':Value}{bytes':List UInt8}{H:List (Nat×Blk)}(hH:HeapRel w F (OwnB σ) w.heap.size σ 2 H)(hs0:σ 0=some l0)(hk0:l0.k=0)(hv:∀ g,v.ownBlock=some g→∃ l,σ 1=some l∧l.blk=g)
  (hb:BAt T e w' l0.blk p' v' (q2K bytes')) (hK:Kept w w' l0.blk v v') (hnil:bytes'=[]→v'=.slice none 0 0) :
  ∃ σ',Frame (OwnB σ) w.heap.size w w'∧HeapRel w' F (OwnB σ) w.heap.size σ' 2 (indexed [bldB T 1 bytes'.length,bufB e bytes'])∧∀ i l,i<2→σ i=some l→i∉[1]→σ' i=some l:=by
 have hF:∀ b,F b→b<w'.heap.size:=fun b hf=>Nat.lt_of_lt_of_le (hH.fro b hf) hK.size
 have hframe:Frame (OwnB σ) w.heap.size w w':=⟨hK.os,hK.tape,hK.output,hK.size,fun k hk hX=>hK.blk k hk (fun h=>hX 0 ⟨l0,hs0,h.symm⟩) (fun h=>by
  obtain⟨l,h1,h2⟩:=hv k h.symm
  exact hX 1 ⟨l,h1,h2⟩)⟩
 obtain⟨o1,o2,o3,o4⟩:=hH.own 0 l0 hs0
 have hlt0:=hb.lt
 rcases hb.own.2 with⟨rfl,hz⟩|⟨g,cap,cur,fz,rfl,_,hg,f1,f2,f3,f4,f5⟩
 ·-- no buffer
  have hz':bytes'=[]:=by rw[q1h] at hz;exact List.eq_nil_of_length_eq_zero hz
  subst hz'
  refine⟨fun i=>if i=0 then some l0 else none,hframe,⟨fun i blk hi=>?_,fun i j l l' h1 h2 _=>?_,fun i l h=>?_,hF⟩,fun i l hi hl hm=>?_⟩
  ·have:(i=0∧blk=bldB T 1 0)∨(i=1∧blk=bufB e []):=by
    simp only[indexed,List.zipIdx_cons,List.zipIdx_nil,List.map_cons,List.map_nil,look,List.length_nil] at hi
    split at hi
    ·rename_i h;exact .inl ⟨h.symm,(Option.some.inj hi).symm⟩
    ·split at hi
     ·rename_i h;exact .inr ⟨by omega,(Option.some.inj hi).symm⟩
     ·cases hi
   rcases this with⟨rfl,rfl⟩|⟨rfl,rfl⟩
   ·exact .inr (.inl ⟨l0,#[⟨.slice none 0 0,.slice none 0 0,0⟩],0,_,rfl,rfl,.inr (.inl ⟨T,p',.slice none 0 0,_,rfl,hb.hb,hb.hp,rfl,.inl ⟨rfl,rfl⟩⟩),hk0,trivial,rfl,fun i e p he hp=>by
     match i,he,hp with
     |0,he,hp=>
      simp at he hp
      subst he;subst hp
      exact⟨rfl,.nils T,.bsl0 none 1 0⟩
     |i+1,he,hp=>simp at he⟩)
   ·exact .inl ⟨rfl,rfl⟩
  ·split at h1
   ·split at h2
    ·omega
    ·cases h2
   ·cases h1
  ·split at h
   ·rename_i h0
    subst h0
    obtain rfl:=Option.some.inj h
    exact⟨by omega,o2,o3,hlt0⟩
   ·cases h
  ·have:i=0:=by simp at hm;omega
   subst this
   show some l0=some l
   rw[←hs0];exact hl
 ·have hgne:g≠l0.blk:=fun h=>hb.ne (by simp [Value.ownBlock,h])
  have hpos:0<bytes'.length:=by
   rcases Nat.eq_zero_or_pos bytes'.length with h|h
   ·have:=hnil (List.eq_nil_of_length_eq_zero h)
    simp at this
   ·exact h
  have hgl:g<w'.heap.size:=by
   rcases Nat.lt_or_ge g w'.heap.size with h'|h'
   ·exact h'
   ·simp [Array.getElem?_eq_none h'] at hg
  rw[q1h,Nat.mul_one] at f1 f5
  rw[q1h] at f2
  -- where the buffer is
  have gown:¬ F g∧(w.heap.size≤g∨OwnB σ 1 g):=by
   rcases hK.same with h|⟨g',h1,h2⟩
   ·obtain⟨l,h1,h2⟩:=hv g (by rw[←h];rfl)
    obtain⟨q1,q2,q3,q4⟩:=hH.own 1 l h1
    rw[h2] at q2
    exact⟨q2,.inr ⟨l,h1,h2⟩⟩
   ·simp only[Value.ownBlock,Option.some.injEq] at h1
    subst h1
    exact⟨fun hf=>by have:=hH.fro _ hf;omega,.inl h2⟩
  let l1:Loc:=⟨g,0,cap⟩
  refine⟨fun i=>if i=0 then some l0 else if i=1 then some l1 else none,hframe,⟨fun i blk hi=>?_,fun i j l l' h1 h2 he=>?_,fun i l h=>?_,hF⟩,fun i l hi hl hm=>?_⟩
  ·have:(i=0∧blk=bldB T 1 bytes'.length)∨(i=1∧blk=bufB e bytes'):=by
    simp only[indexed,List.zipIdx_cons,List.zipIdx_nil,List.map_cons,List.map_nil,look] at hi
    split at hi
    ·rename_i h;exact .inl ⟨h.symm,(Option.some.inj hi).symm⟩
    ·split at hi
     ·rename_i h;exact .inr ⟨by omega,(Option.some.inj hi).symm⟩
     ·cases hi
   rcases this with⟨rfl,rfl⟩|⟨rfl,rfl⟩
   ·refine .inr (.inl ⟨l0,#[⟨.slice none 0 0,.slice (some ⟨g,0,none⟩) bytes'.length cap,0⟩],0,_,rfl,rfl,.inr (.inl ⟨T,p',_,_,rfl,hb.hb,hb.hp,rfl,.inr ⟨l1,rfl,hpos,by rw[q1h]⟩⟩),hk0,trivial,rfl,fun i e p he hp=>?_⟩)
    match i,he,hp with
    |0,he,hp=>
     simp at he hp
     subst he;subst hp
     exact⟨rfl,.nils T,by
      have:=RepV.bsl (w:=w') (F:=F) (base:=w.heap.size) (σ:=fun i=>if i=0 then some l0 else if i=1 then some l1 else none) 1 0 bytes'.length cap l1 rfl f2 (by simp [l1])
      simpa [l1] using this⟩
    |i+1,he,hp=>simp at he
   ·refine .inr (.inl ⟨l1,#[⟨.slice (some ⟨0,0,none⟩) 0 0,.pointer none,0⟩,⟨.string ⟨bytes'.toArray⟩,.pointer none,0⟩],0,_,rfl,rfl,.inr (.inr ⟨e,cur,fz,bytes',rfl,hg,f1,f2,by simpa using f4,f3,f5⟩),rfl,trivial,rfl,fun i e' p he hp=>?_⟩)
    match i,he,hp with
    |0,he,hp=>
     simp at he hp
     subst he;subst hp
     exact⟨rfl,.emps _ _ e,.d _ _ _ .nilp⟩
    |1,he,hp=>
     simp at he hp
     subst he;subst hp
     exact⟨rfl,.str ⟨bytes'.toArray⟩,.d _ _ _ .nilp⟩
    |i+2,he,hp=>simp at he
  ·have two:∀ {i:Nat} {l:Loc},(if i=0 then some l0 else if i=1 then some l1 else none)=some l→(i=0∧l=l0)∨(i=1∧l=l1):=by
    intro i l h
    split at h
    ·rename_i h0;exact .inl ⟨h0,(Option.some.inj h).symm⟩
    ·split at h
     ·rename_i h0;exact .inr ⟨h0,(Option.some.inj h).symm⟩
     ·cases h
   rcases two h1 with⟨rfl,rfl⟩|⟨rfl,rfl⟩ <;> rcases two h2 with⟨rfl,rfl⟩|⟨rfl,rfl⟩
   ·rfl
   ·exact absurd he.symm hgne
   ·exact absurd he hgne
   ·rfl
  ·split at h
   ·rename_i h0
    subst h0
    obtain rfl:=Option.some.inj h
    exact⟨by omega,o2,o3,hlt0⟩
   ·split at h
    ·rename_i h0
     subst h0
     obtain rfl:=Option.some.inj h
     exact⟨by omega,gown.1,gown.2,hgl⟩
    ·cases h
  ·have:i=0:=by simp at hm;omega
   subst this
   show some l0=some l
   rw[←hs0];exact hl
theorem q65{base:Nat}{v:Value}{l0:Loc}(hs0:σ 0=some l0)(h:RepV w F base σ v (.ptr 0 0 0)):v=.pointer (some ⟨l0.blk,0,none⟩):=by
 cases h with
 |ptr _ _ _ l hl=>
  rw[hs0] at hl
  obtain rfl:=Option.some.inj hl
  simp
variable {G:Nat→Option (List D)}
def WbOk(P:Program)(f:FuncId)(T e:TypeId):Prop:=∀ {w:World}{b:Nat}{p v:Value}{bs:List Value},BAt T e w b p v bs→∀(c:Int),bs.length+1≤140737488355328→
  Calls P f #[.pointer (some ⟨b,0,none⟩),.int .u8 c] w fun x w'=>x=.returned .nilIface∧∃ v',BAt T e w' b (.pointer (some ⟨b,0,none⟩)) v' (bs++[.int .u8 c])∧Kept w w' b v v'
def WsOk(P:Program)(f:FuncId)(T e:TypeId):Prop:=∀ {w:World}{b:Nat}{p v:Value}{bs:List Value},BAt T e w b p v bs→∀(s:ByteArray),bs.length+s.size≤140737488355328→
  Calls P f #[.pointer (some ⟨b,0,none⟩),.string s] w fun x w'=>x=.returned (.tuple #[.int .i64 s.size,.nilIface])∧∃ v',BAt T e w' b (.pointer (some ⟨b,0,none⟩)) v' (bs++Lib.strCells s)∧Kept w w' b v v'∧(v=.slice none 0 0→s.size=0→v'=.slice none 0 0)
theorem q9D{f T e:Nat}(hW:WbOk P f T e)(bytes:List UInt8)(c:UInt8)(hlen:bytes.length+1≤140737488355328) :
  q5x P G f [.ptr 0 0 0,.d false (.int .u8 c.toNat)] [bldB T 1 bytes.length,bufB e bytes] (.d false .nilif) [bldB T 1 (bytes++[c]).length,bufB e (bytes++[c])] [1]:=by
 intro w F σ vals hG hH hR
 obtain⟨l0,p,v,hs0,hk0,hB,hn0,hv⟩:=q7k hH
 obtain⟨hsz,hval⟩:=hR
 obtain⟨l⟩:=vals
 match l,hsz,hval with
 |[v0,v1],hsz,hval=>
  have e0:=q65 hs0 (hval 0 v0 (.ptr 0 0 0) rfl rfl)
  have e1:=(hval 1 v1 (.d false (.int .u8 c.toNat)) rfl rfl).int_inv
  subst e0;subst e1
  refine(hW hB c.toNat (by rw[q1h];exact hlen)).mono ?_
  rintro x w' ⟨rfl,v',hB',hK⟩
  have hB'':BAt T e w' l0.blk (.pointer (some ⟨l0.blk,0,none⟩)) v' (q2K (bytes++[c])):=by
   have:q2K (bytes++[c])=q2K bytes++[.int .u8 c.toNat]:=by simp [q2K]
   rw[this];exact hB'
  obtain⟨σ',h1,h2,h3⟩:=q58 hH hs0 hk0 hv hB'' hK (fun h=>by simp at h)
  exact⟨.nilIface,F,σ',rfl,h1,fun _ h=>h,fun _ h=>.inl h,.d _ _ _ .nilif,h2,h3⟩
 |[],hsz,_=>simp at hsz
 |[_],hsz,_=>simp at hsz
 |_ :: _ :: _ :: _,hsz,_=>simp at hsz
theorem q8h{f T e:Nat}(hW:WsOk P f T e)(bytes s:List UInt8)(hlen:bytes.length+s.length≤140737488355328) :
  q5x P G f [.ptr 0 0 0,.d false (.str s)] [bldB T 1 bytes.length,bufB e bytes] (.tup [.d false (.int .i64 s.length),.d false .nilif]) [bldB T 1 (bytes++s).length,bufB e (bytes++s)] [1]:=by
 intro w F σ vals hG hH hR
 obtain⟨l0,p,v,hs0,hk0,hB,hn0,hv⟩:=q7k hH
 obtain⟨hsz,hval⟩:=hR
 obtain⟨l⟩:=vals
 match l,hsz,hval with
 |[v0,v1],hsz,hval=>
  have e0:=q65 hs0 (hval 0 v0 (.ptr 0 0 0) rfl rfl)
  obtain⟨t,e1,e2⟩:=(hval 1 v1 (.d false (.str s)) rfl rfl).str_inv
  subst e0;subst e1;subst e2
  have hst:t.size=t.data.toList.length:=rfl
  refine(hW hB t (by rw[q1h,hst];exact hlen)).mono ?_
  rintro x w' ⟨rfl,v',hB',hK,hnil⟩
  have hB'':BAt T e w' l0.blk (.pointer (some ⟨l0.blk,0,none⟩)) v' (q2K (bytes++t.data.toList)):=by
   have:q2K (bytes++t.data.toList)=q2K bytes++Lib.strCells t:=by simp [q2K,Lib.strCells]
   rw[this];exact hB'
  obtain⟨σ',h1,h2,h3⟩:=q58 hH hs0 hk0 hv hB'' hK (fun h=>by
   rw[List.append_eq_nil_iff] at h
   exact hnil (hn0 h.1) (by rw[hst,h.2];rfl))
  refine⟨_,F,σ',rfl,h1,fun _ h=>h,fun _ h=>.inl h,.tup _ _ rfl (fun j u x hu hx=>?_),h2,h3⟩
  match j,hu,hx with
  |0,hu,hx=>simp at hu hx;subst hu;subst hx;rw[hst];exact .d _ _ _ (.int _ _)
  |1,hu,hx=>simp at hu hx;subst hu;subst hx;exact .d _ _ _ .nilif
  |j+2,hu,hx=>simp at hu
 |[],hsz,_=>simp at hsz
 |[_],hsz,_=>simp at hsz
 |_ :: _ :: _ :: _,hsz,_=>simp at hsz
theorem j1z(L:Lays.n170 P ρ)(bytes:List UInt8) :
  q5x P G (ρ.f 170) [.ptr 0 0 0] [bldB (ρ.t 72) 1 bytes.length,bufB (ρ.t 5) bytes] (.d false (.int .i64 bytes.length)) [bldB (ρ.t 72) 1 bytes.length,bufB (ρ.t 5) bytes] []:=by
 intro w F σ vals hG hH hR
 obtain⟨l0,p,v,hs0,hk0,hB,hn0,hv⟩:=q7k hH
 obtain⟨hsz,hval⟩:=hR
 obtain⟨l⟩:=vals
 match l,hsz,hval with
 |[v0],hsz,hval=>
  have e0:=q65 hs0 (hval 0 v0 (.ptr 0 0 0) rfl rfl)
  subst e0
  refine(Any.Builder_Len_f L 0 l0.blk (q2K bytes) w hB.isB).mono ?_
  rintro e w' ⟨rfl,rfl⟩
  exact⟨_,F,σ,rfl,.refl _ _ _,fun _ h=>h,fun _ h=>.inl h,by rw[q1h];exact .d _ _ _ (.int _ _),hH,fun _ _ _ h _=>h⟩
 |[],hsz,_=>simp at hsz
 |_ :: _ :: _,hsz,_=>simp at hsz
theorem z4o(L:Lays.n169 P ρ)(X:Builder.Extra P ρ)(bytes:List UInt8) :
  q5x P G (ρ.f 169) [.ptr 0 0 0] [bldB (ρ.t 72) 1 bytes.length,bufB (ρ.t 5) bytes] (.d false (.str bytes)) [bldB (ρ.t 72) 1 bytes.length,bufB (ρ.t 5) bytes] [1]:=by
 intro w F σ vals hG hH hR
 obtain⟨l0,p,v,hs0,hk0,hB,hn0,hv⟩:=q7k hH
 obtain⟨hsz,hval⟩:=hR
 obtain⟨l⟩:=vals
 match l,hsz,hval with
 |[v0],hsz,hval=>
  have e0:=q65 hs0 (hval 0 v0 (.ptr 0 0 0) rfl rfl)
  subst e0
  by_cases h0:bytes=[]
  ·subst h0
   have:=hn0 rfl
   subst this
   refine(q8D L X hB).mono ?_
   rintro e w' ⟨rfl,rfl⟩
   have hB':BAt (ρ.t 72) (ρ.t 5) w.drew l0.blk p (.slice none 0 0) (q2K []):=⟨hB.hp,hB.hb,hB.own,hB.ne⟩
   have hK:Kept w w.drew l0.blk (.slice none 0 0) (.slice none 0 0):=⟨rfl,rfl,rfl,Nat.le_refl _,fun _ _ _ _=>rfl,.inl rfl⟩
   obtain⟨σ',h1,h2,h3⟩:=q58 hH hs0 hk0 hv hB' hK (fun _=>rfl)
   exact⟨_,F,σ',rfl,h1,fun _ h=>h,fun _ h=>.inl h,.d _ _ _ (.str ⟨#[]⟩),h2,h3⟩
  ·obtain⟨g,cap,rfl⟩:∃ g cap,v=.slice (some ⟨g,0,none⟩) bytes.length cap:=by
    rcases hB.own.2 with⟨_,hz⟩|⟨g,cap,cur,fz,hv,_⟩
    ·rw[q1h] at hz;exact absurd (List.eq_nil_of_length_eq_zero hz) h0
    ·rw[q1h] at hv;exact⟨g,cap,hv⟩
   refine(q8q L X h0 hB).mono ?_
   rintro e w' ⟨rfl,rfl⟩
   have hlen:(q2K bytes).length=bytes.length:=q1h _
   have hA:Lib.BuilderAtF (ρ.t 72) (ρ.t 5) 0 l0.blk p (q2K bytes) w.drew:=⟨Nat.zero_le _,_,hB.hb,hB.own,hB.ne⟩
   have c1:w.drew.cell? ⟨l0.blk,1,none⟩=some (.slice (some ⟨g,0,none⟩) (q2K bytes).length cap):=by
    have:w.drew.heap[l0.blk]? = some (.cells #[p,.slice (some ⟨g,0,none⟩) bytes.length cap] (ρ.t 72) (0,0)):=hB.hb
    rw[Lib.cell_of_heap this,hlen];rfl
   have hne:g≠l0.blk:=fun h=>hB.ne (by simp [Value.ownBlock,h])
   have hF':=hA.froze (g:=g) (cap:=cap) c1
   rw[hlen] at hF'
   have hbk:(w.drew.freeze ⟨g,0,none⟩ bytes.length).heap[l0.blk]? = some (.cells #[p,.slice (some ⟨g,0,none⟩) bytes.length cap] (ρ.t 72) (0,0)):=by
    rw[q5T _ _ _ _ (fun h=>hne h.symm)];exact hB.hb
   have hB':BAt (ρ.t 72) (ρ.t 5) (w.drew.freeze ⟨g,0,none⟩ bytes.length) l0.blk p (.slice (some ⟨g,0,none⟩) bytes.length cap) (q2K bytes):=by
    obtain⟨_,v2,hb2,hown2,hne2⟩:=hF'
    rw[hbk] at hb2
    have:v2=.slice (some ⟨g,0,none⟩) bytes.length cap:=by
     injection hb2 with e1
     injection e1 with e2
     have e2':=congrArg Array.toList e2
     simp at e2'
     exact e2'.symm
    subst this
    exact⟨hB.hp,hbk,hown2,hne2⟩
   have hsz':(w.drew.freeze ⟨g,0,none⟩ bytes.length).heap.size=w.heap.size:=by
    unfold World.freeze
    split
    ·rfl
    ·show(w.heap.modify _ _).size=_
     simp only[Array.size_modify]
   have hos:(w.drew.freeze ⟨g,0,none⟩ bytes.length).os=w.os∧(w.drew.freeze ⟨g,0,none⟩ bytes.length).tape=w.tape∧(w.drew.freeze ⟨g,0,none⟩ bytes.length).output=w.output:=by
    unfold World.freeze
    split <;> exact⟨rfl,rfl,rfl⟩
   have hK:Kept w (w.drew.freeze ⟨g,0,none⟩ bytes.length) l0.blk (.slice (some ⟨g,0,none⟩) bytes.length cap) (.slice (some ⟨g,0,none⟩) bytes.length cap):=
    ⟨hos.1,hos.2.1,hos.2.2,by rw[hsz'];exact Nat.le_refl _,fun k _ _ hk=>by rw[q5T _ _ _ _ (fun h=>hk (by simp [Value.ownBlock,h]))];rfl,.inl rfl⟩
   obtain⟨σ',h1,h2,h3⟩:=q58 hH hs0 hk0 hv hB' hK (fun h=>absurd h h0)
   exact⟨_,F,σ',rfl,h1,fun _ h=>h,fun _ h=>.inl h,.d _ _ _ (.str ⟨bytes.toArray⟩),h2,h3⟩
 |[],hsz,_=>simp at hsz
 |_ :: _ :: _,hsz,_=>simp at hsz
end
end Go.Vm
end

section
namespace Go.Proofs
open Go.Shelf
def Tryz.lays170_ren:Go.Shelf.Ren:=⟨fun|170=>51|n=>n,fun|70=>76|3=>3|0=>0|72=>78|37=>40|5=>5|n=>n,fun|n=>n⟩
theorem Tryz.lays170:Go.Proofs.Lays.n170 Tryz.prog Tryz.lays170_ren:={
 mixed:=by kernel_rfl
 f170:=Tryz.func51.trans (congrArg some (by kernel_rfl))
 t0:=Tryz.underlying0
 a0:=Tryz.isAgg0
 z0:=Tryz.sizeOf0
 v0:=Tryz.zeroValue0
 t3:=Tryz.underlying3
 a3:=Tryz.isAgg3
 z3:=Tryz.sizeOf3
 v3:=Tryz.zeroValue3
 t37:=Tryz.underlying40
 a37:=Tryz.isAgg40
 z37:=Tryz.sizeOf40
 v37:=Tryz.zeroValue40
 t70:=Tryz.underlying76
 a70:=Tryz.isAgg76
 z70:=Tryz.sizeOf76
 v70:=Tryz.zeroValue76
 t72:=Tryz.underlying78
 a72:=Tryz.isAgg78
 z72:=Tryz.sizeOf78
 v72:=Tryz.zeroValue78 }
def Tryz.lays169_ren:Go.Shelf.Ren:=⟨fun|169=>52|n=>n,fun|70=>76|9=>9|0=>0|72=>78|37=>40|127=>131|3=>3|5=>5|n=>n,fun|n=>n⟩
theorem Tryz.lays169:Go.Proofs.Lays.n169 Tryz.prog Tryz.lays169_ren:={
 mixed:=by kernel_rfl
 f169:=Tryz.func52.trans (congrArg some (by kernel_rfl))
 t0:=Tryz.underlying0
 a0:=Tryz.isAgg0
 z0:=Tryz.sizeOf0
 v0:=Tryz.zeroValue0
 t3:=Tryz.underlying3
 a3:=Tryz.isAgg3
 z3:=Tryz.sizeOf3
 v3:=Tryz.zeroValue3
 t9:=Tryz.underlying9
 a9:=Tryz.isAgg9
 z9:=Tryz.sizeOf9
 v9:=Tryz.zeroValue9
 t37:=Tryz.underlying40
 a37:=Tryz.isAgg40
 z37:=Tryz.sizeOf40
 v37:=Tryz.zeroValue40
 t70:=Tryz.underlying76
 a70:=Tryz.isAgg76
 z70:=Tryz.sizeOf76
 v70:=Tryz.zeroValue76
 t72:=Tryz.underlying78
 a72:=Tryz.isAgg78
 z72:=Tryz.sizeOf78
 v72:=Tryz.zeroValue78
 t127:=Tryz.underlying131
 a127:=Tryz.isAgg131
 z127:=Tryz.sizeOf131
 v127:=Tryz.zeroValue131 }
theorem Tryz.Builder_Extra_169:Builder.Extra Tryz.prog Tryz.lays169_ren:={
 sizeBuilder:=by kernel_rfl
 liesBuilder:=by kernel_rfl
 t5:=Tryz.underlying5
 a5:=Tryz.isAgg5
 z5:=Tryz.sizeOf5
 v5:=Tryz.zeroValue5
 infoByte:=by kernel_rfl
 cellsByte:=by kernel_rfl
 sizeByte:=by kernel_rfl
 neB5:=by decide }
def Tryz.lays137_ren:Go.Shelf.Ren:=⟨fun|137=>123|217=>137|266=>149|n=>n,fun|9=>9|5=>5|3=>3|n=>n,fun|n=>n⟩
theorem Tryz.lays137:Go.Proofs.Lays.n137 Tryz.prog Tryz.lays137_ren:={
 mixed:=by kernel_rfl
 f137:=Tryz.func123.trans (congrArg some (by kernel_rfl))
 f217:=Tryz.func137.trans (congrArg some (by kernel_rfl))
 f266:=Tryz.func149.trans (congrArg some (by kernel_rfl))
 t3:=Tryz.underlying3
 a3:=Tryz.isAgg3
 z3:=Tryz.sizeOf3
 v3:=Tryz.zeroValue3
 t5:=Tryz.underlying5
 a5:=Tryz.isAgg5
 z5:=Tryz.sizeOf5
 v5:=Tryz.zeroValue5
 t9:=Tryz.underlying9
 a9:=Tryz.isAgg9
 z9:=Tryz.sizeOf9
 v9:=Tryz.zeroValue9 }
open Go.RowKit in
theorem Tryz.strings_IndexByte(s:ByteArray)(c:Int)(w:World) :
  Calls Tryz.prog 123 #[.string s,.int .u8 c] w fun e w'=>e=.returned (.int .i64 (Lib.indexByte s.data.toList c.toNat.toUInt8))∧w'=w:=Any.strings_IndexByte Tryz.lays137 s c w
def Tryz.lays172_ren:Go.Shelf.Ren:=⟨fun|172=>111|244=>124|245=>125|247=>138|279=>139|280=>140|281=>141|282=>142|287=>150|316=>151|171=>49|205=>152|321=>154|322=>155|243=>89|246=>107|283=>119|284=>120|285=>121|286=>122|129=>133|317=>132|318=>134|319=>135|320=>136|337=>147|338=>148|n=>n,fun|9=>9|3=>3|75=>80|76=>81|4=>4|5=>5|167=>171|37=>40|0=>0|85=>172|2=>2|168=>174|53=>105|175=>183|46=>109|210=>186|127=>131|145=>195|143=>193|21=>21|171=>156|173=>159|212=>167|51=>107|20=>20|213=>168|232=>190|233=>191|80=>84|n=>n,fun|15=>4|16=>5|17=>0|18=>6|19=>7|n=>n⟩
theorem Tryz.lays172:Go.Proofs.Lays.n172 Tryz.prog Tryz.lays172_ren:={
 mixed:=by kernel_rfl
 f129:=Tryz.func133.trans (congrArg some (by kernel_rfl))
 f171:=Tryz.func49.trans (congrArg some (by kernel_rfl))
 f172:=Tryz.func111.trans (congrArg some (by kernel_rfl))
 f205:=Tryz.func152.trans (congrArg some (by kernel_rfl))
 f243:=Tryz.func89.trans (congrArg some (by kernel_rfl))
 f244:=Tryz.func124.trans (congrArg some (by kernel_rfl))
 f245:=Tryz.func125.trans (congrArg some (by kernel_rfl))
 f246:=Tryz.func107.trans (congrArg some (by kernel_rfl))
 f247:=Tryz.func138.trans (congrArg some (by kernel_rfl))
 f279:=Tryz.func139.trans (congrArg some (by kernel_rfl))
 f280:=Tryz.func140.trans (congrArg some (by kernel_rfl))
 f281:=Tryz.func141.trans (congrArg some (by kernel_rfl))
 f282:=Tryz.func142.trans (congrArg some (by kernel_rfl))
 f283:=Tryz.func119.trans (congrArg some (by kernel_rfl))
 f284:=Tryz.func120.trans (congrArg some (by kernel_rfl))
 f285:=Tryz.func121.trans (congrArg some (by kernel_rfl))
 f286:=Tryz.func122.trans (congrArg some (by kernel_rfl))
 f287:=Tryz.func150.trans (congrArg some (by kernel_rfl))
 f316:=Tryz.func151.trans (congrArg some (by kernel_rfl))
 f317:=Tryz.func132.trans (congrArg some (by kernel_rfl))
 f318:=Tryz.func134.trans (congrArg some (by kernel_rfl))
 f319:=Tryz.func135.trans (congrArg some (by kernel_rfl))
 f320:=Tryz.func136.trans (congrArg some (by kernel_rfl))
 f321:=Tryz.func154.trans (congrArg some (by kernel_rfl))
 f322:=Tryz.func155.trans (congrArg some (by kernel_rfl))
 f337:=Tryz.func147.trans (congrArg some (by kernel_rfl))
 f338:=Tryz.func148.trans (congrArg some (by kernel_rfl))
 t0:=Tryz.underlying0
 a0:=Tryz.isAgg0
 z0:=Tryz.sizeOf0
 v0:=Tryz.zeroValue0
 t2:=Tryz.underlying2
 a2:=Tryz.isAgg2
 z2:=Tryz.sizeOf2
 v2:=Tryz.zeroValue2
 t3:=Tryz.underlying3
 a3:=Tryz.isAgg3
 z3:=Tryz.sizeOf3
 v3:=Tryz.zeroValue3
 t4:=Tryz.underlying4
 a4:=Tryz.isAgg4
 z4:=Tryz.sizeOf4
 v4:=Tryz.zeroValue4
 t5:=Tryz.underlying5
 a5:=Tryz.isAgg5
 z5:=Tryz.sizeOf5
 v5:=Tryz.zeroValue5
 t9:=Tryz.underlying9
 a9:=Tryz.isAgg9
 z9:=Tryz.sizeOf9
 v9:=Tryz.zeroValue9
 t20:=Tryz.underlying20
 a20:=Tryz.isAgg20
 z20:=Tryz.sizeOf20
 v20:=Tryz.zeroValue20
 t21:=Tryz.underlying21
 a21:=Tryz.isAgg21
 z21:=Tryz.sizeOf21
 v21:=Tryz.zeroValue21
 t37:=Tryz.underlying40
 a37:=Tryz.isAgg40
 z37:=Tryz.sizeOf40
 v37:=Tryz.zeroValue40
 t46:=Tryz.underlying109
 a46:=Tryz.isAgg109
 z46:=Tryz.sizeOf109
 v46:=Tryz.zeroValue109
 t51:=Tryz.underlying107
 a51:=Tryz.isAgg107
 z51:=Tryz.sizeOf107
 v51:=Tryz.zeroValue107
 t53:=Tryz.underlying105
 a53:=Tryz.isAgg105
 z53:=Tryz.sizeOf105
 v53:=Tryz.zeroValue105
 t75:=Tryz.underlying80
 a75:=Tryz.isAgg80
 z75:=Tryz.sizeOf80
 v75:=Tryz.zeroValue80
 t76:=Tryz.underlying81
 a76:=Tryz.isAgg81
 z76:=Tryz.sizeOf81
 v76:=Tryz.zeroValue81
 t85:=Tryz.underlying172
 a85:=Tryz.isAgg172
 z85:=Tryz.sizeOf172
 v85:=Tryz.zeroValue172
 t127:=Tryz.underlying131
 a127:=Tryz.isAgg131
 z127:=Tryz.sizeOf131
 v127:=Tryz.zeroValue131
 t143:=Tryz.underlying193
 a143:=Tryz.isAgg193
 z143:=Tryz.sizeOf193
 v143:=Tryz.zeroValue193
 t145:=Tryz.underlying195
 a145:=Tryz.isAgg195
 z145:=Tryz.sizeOf195
 v145:=Tryz.zeroValue195
 t167:=Tryz.underlying171
 a167:=Tryz.isAgg171
 z167:=Tryz.sizeOf171
 v167:=Tryz.zeroValue171
 t168:=Tryz.underlying174
 a168:=Tryz.isAgg174
 z168:=Tryz.sizeOf174
 v168:=Tryz.zeroValue174
 t171:=Tryz.underlying156
 a171:=Tryz.isAgg156
 z171:=Tryz.sizeOf156
 v171:=Tryz.zeroValue156
 t173:=Tryz.underlying159
 a173:=Tryz.isAgg159
 z173:=Tryz.sizeOf159
 v173:=Tryz.zeroValue159
 t175:=Tryz.underlying183
 a175:=Tryz.isAgg183
 z175:=Tryz.sizeOf183
 v175:=Tryz.zeroValue183
 t210:=Tryz.underlying186
 a210:=Tryz.isAgg186
 z210:=Tryz.sizeOf186
 v210:=Tryz.zeroValue186
 t212:=Tryz.underlying167
 a212:=Tryz.isAgg167
 z212:=Tryz.sizeOf167
 v212:=Tryz.zeroValue167
 t213:=Tryz.underlying168
 a213:=Tryz.isAgg168
 z213:=Tryz.sizeOf168
 t232:=Tryz.underlying190
 a232:=Tryz.isAgg190
 z232:=Tryz.sizeOf190
 v232:=Tryz.zeroValue190
 t233:=Tryz.underlying191
 a233:=Tryz.isAgg191
 z233:=Tryz.sizeOf191
 v233:=Tryz.zeroValue191
 g15:=by kernel_rfl
 g16:=by kernel_rfl
 g17:=by kernel_rfl
 g18:=by kernel_rfl
 g19:=by kernel_rfl }
open Go.RowKit in
theorem Tryz.strconv_Atoi(s:ByteArray)(n:Int)(hl:s.size≤18)(h:Lib.atoi s.data.toList=some n)(w:World) :
  Calls Tryz.prog 111 #[.string s] w fun e w'=>e=.returned (.tuple #[.int .i64 n,.nilIface])∧∃ t,w'=Lib.bytesWorld w 5 t:=Any.strconv_Atoi Tryz.lays172 s n hl h w
def Tryz.laysM171_ren:Go.Shelf.Ren:=⟨fun|171=>49|243=>89|246=>107|283=>119|284=>120|285=>121|286=>122|129=>133|317=>132|318=>134|319=>135|320=>136|337=>147|338=>148|n=>n,fun|3=>3|9=>9|2=>2|4=>4|171=>156|0=>0|53=>105|37=>40|5=>5|173=>159|212=>167|51=>107|20=>20|213=>168|46=>109|232=>190|233=>191|n=>n,fun|17=>0|18=>6|19=>7|n=>n⟩
theorem Tryz.laysM171:Go.Proofs.LaysM.n171 Tryz.prog Tryz.laysM171_ren:={
 mixed:=by kernel_rfl
 f129:=Tryz.func133.trans (congrArg some (by kernel_rfl))
 f171:=Tryz.func49.trans (congrArg some (by kernel_rfl))
 f243:=Tryz.func89.trans (congrArg some (by kernel_rfl))
 f246:=Tryz.func107.trans (congrArg some (by kernel_rfl))
 f283:=Tryz.func119.trans (congrArg some (by kernel_rfl))
 f284:=Tryz.func120.trans (congrArg some (by kernel_rfl))
 f285:=Tryz.func121.trans (congrArg some (by kernel_rfl))
 f286:=Tryz.func122.trans (congrArg some (by kernel_rfl))
 f317:=Tryz.func132.trans (congrArg some (by kernel_rfl))
 f318:=Tryz.func134.trans (congrArg some (by kernel_rfl))
 f319:=Tryz.func135.trans (congrArg some (by kernel_rfl))
 f320:=Tryz.func136.trans (congrArg some (by kernel_rfl))
 f337:=Tryz.func147.trans (congrArg some (by kernel_rfl))
 f338:=Tryz.func148.trans (congrArg some (by kernel_rfl))
 t0:=Tryz.underlying0
 a0:=Tryz.isAgg0
 z0:=Tryz.sizeOf0
 v0:=Tryz.zeroValue0
 t2:=Tryz.underlying2
 a2:=Tryz.isAgg2
 z2:=Tryz.sizeOf2
 v2:=Tryz.zeroValue2
 t3:=Tryz.underlying3
 a3:=Tryz.isAgg3
 z3:=Tryz.sizeOf3
 v3:=Tryz.zeroValue3
 t4:=Tryz.underlying4
 a4:=Tryz.isAgg4
 z4:=Tryz.sizeOf4
 v4:=Tryz.zeroValue4
 t5:=Tryz.underlying5
 a5:=Tryz.isAgg5
 z5:=Tryz.sizeOf5
 v5:=Tryz.zeroValue5
 t9:=Tryz.underlying9
 a9:=Tryz.isAgg9
 z9:=Tryz.sizeOf9
 v9:=Tryz.zeroValue9
 t20:=Tryz.underlying20
 a20:=Tryz.isAgg20
 z20:=Tryz.sizeOf20
 v20:=Tryz.zeroValue20
 t37:=Tryz.underlying40
 a37:=Tryz.isAgg40
 z37:=Tryz.sizeOf40
 v37:=Tryz.zeroValue40
 t46:=Tryz.underlying109
 a46:=Tryz.isAgg109
 z46:=Tryz.sizeOf109
 v46:=Tryz.zeroValue109
 t51:=Tryz.underlying107
 a51:=Tryz.isAgg107
 z51:=Tryz.sizeOf107
 v51:=Tryz.zeroValue107
 t53:=Tryz.underlying105
 a53:=Tryz.isAgg105
 z53:=Tryz.sizeOf105
 v53:=Tryz.zeroValue105
 t171:=Tryz.underlying156
 a171:=Tryz.isAgg156
 z171:=Tryz.sizeOf156
 v171:=Tryz.zeroValue156
 t173:=Tryz.underlying159
 a173:=Tryz.isAgg159
 z173:=Tryz.sizeOf159
 v173:=Tryz.zeroValue159
 t212:=Tryz.underlying167
 a212:=Tryz.isAgg167
 z212:=Tryz.sizeOf167
 v212:=Tryz.zeroValue167
 t213:=Tryz.underlying168
 a213:=Tryz.isAgg168
 z213:=Tryz.sizeOf168
 t232:=Tryz.underlying190
 a232:=Tryz.isAgg190
 z232:=Tryz.sizeOf190
 v232:=Tryz.zeroValue190
 t233:=Tryz.underlying191
 a233:=Tryz.isAgg191
 z233:=Tryz.sizeOf191
 v233:=Tryz.zeroValue191
 g17:=by kernel_rfl
 g18:=by kernel_rfl
 g19:=by kernel_rfl
 i0:=by kernel_rfl
 i2:=by kernel_rfl
 i3:=by kernel_rfl
 i4:=by kernel_rfl
 i5:=by kernel_rfl
 i9:=by kernel_rfl
 i20:=by kernel_rfl
 i37:=by kernel_rfl
 i46:=by kernel_rfl
 i51:=by kernel_rfl
 i53:=by kernel_rfl
 i171:=by kernel_rfl
 i173:=by kernel_rfl
 i212:=by kernel_rfl
 i232:=by kernel_rfl
 i233:=by kernel_rfl
 m17:=by kernel_rfl
 m18:=by kernel_rfl
 m19:=by kernel_rfl }
open Go.RowKit Go.Sort Go.Lib in
theorem Tryz.strconv_Itoa(n:Int)(h0 : -9223372036854775808≤n)(h1:n≤9223372036854775807)(w:World)(htab:Lib.TabIs Tryz.prog w "internal/strconv.uint64pow10" .u64 Lib.pow10Tab) :
  Calls Tryz.prog 49 #[.int .i64 n] w fun e w'=>e=.returned (.string ⟨(Lib.itoa n).toArray⟩)∧∃ k os,w'=grow (w.drewN k) os:=Any.strconv_Itoa Tryz.laysM171 n h0 h1 w htab
def Tryz.lays138_ren:Go.Shelf.Ren:=⟨fun|138=>115|195=>127|218=>128|143=>117|219=>130|217=>137|225=>144|224=>145|267=>146|266=>149|314=>153|n=>n,fun|9=>9|3=>3|4=>4|5=>5|0=>0|46=>109|146=>188|51=>107|n=>n,fun|1=>1|n=>n⟩
theorem Tryz.lays138:Go.Proofs.Lays.n138 Tryz.prog Tryz.lays138_ren:={
 mixed:=by kernel_rfl
 f138:=Tryz.func115.trans (congrArg some (by kernel_rfl))
 f143:=Tryz.func117.trans (congrArg some (by kernel_rfl))
 f195:=Tryz.func127.trans (congrArg some (by kernel_rfl))
 f217:=Tryz.func137.trans (congrArg some (by kernel_rfl))
 f218:=Tryz.func128.trans (congrArg some (by kernel_rfl))
 f219:=Tryz.func130.trans (congrArg some (by kernel_rfl))
 f224:=Tryz.func145.trans (congrArg some (by kernel_rfl))
 f225:=Tryz.func144.trans (congrArg some (by kernel_rfl))
 f266:=Tryz.func149.trans (congrArg some (by kernel_rfl))
 f267:=Tryz.func146.trans (congrArg some (by kernel_rfl))
 f314:=Tryz.func153.trans (congrArg some (by kernel_rfl))
 t0:=Tryz.underlying0
 a0:=Tryz.isAgg0
 z0:=Tryz.sizeOf0
 v0:=Tryz.zeroValue0
 t3:=Tryz.underlying3
 a3:=Tryz.isAgg3
 z3:=Tryz.sizeOf3
 v3:=Tryz.zeroValue3
 t4:=Tryz.underlying4
 a4:=Tryz.isAgg4
 z4:=Tryz.sizeOf4
 v4:=Tryz.zeroValue4
 t5:=Tryz.underlying5
 a5:=Tryz.isAgg5
 z5:=Tryz.sizeOf5
 v5:=Tryz.zeroValue5
 t9:=Tryz.underlying9
 a9:=Tryz.isAgg9
 z9:=Tryz.sizeOf9
 v9:=Tryz.zeroValue9
 t46:=Tryz.underlying109
 a46:=Tryz.isAgg109
 z46:=Tryz.sizeOf109
 v46:=Tryz.zeroValue109
 t51:=Tryz.underlying107
 a51:=Tryz.isAgg107
 z51:=Tryz.sizeOf107
 v51:=Tryz.zeroValue107
 t146:=Tryz.underlying188
 a146:=Tryz.isAgg188
 z146:=Tryz.sizeOf188
 v146:=Tryz.zeroValue188
 g1:=by kernel_rfl }
open Go.RowKit Go.Lib in
theorem Tryz.strings_Count_one(s:ByteArray)(c:UInt8)(w:World) :
  Calls Tryz.prog 115 #[.string s,.string ⟨#[c]⟩] w fun e w'=>e=.returned (.int .i64 (Lib.countByte s.data.toList c))∧w'=w:=Any.strings_Count_one Tryz.lays138 s c w
end Go.Proofs
end

section
set_option linter.unusedVariables false
namespace Go.Vm
open Go.RowKit Go.Shelf Go.Proofs
set_option maxHeartbeats 2000000 in
set_option maxRecDepth 100000 in
theorem j0u(b:Nat)(w:World)(h0:w.cell? ⟨b,0,none⟩=some (.pointer (some ⟨b,0,none⟩))) :
  Calls Tryz.prog 87 #[.pointer (some ⟨b,0,none⟩)] w fun e w'=>e=.returned (.tuple #[])∧w'=w:=by
 obtain⟨j,hj,_⟩:=Option.map_eq_some_iff.1 Tryz.Builder_Extra_169.sizeBuilder
 have mixed:Tryz.prog.follows .mixedOrders=true:=by kernel_rfl
 have t72:=Tryz.underlying78;have a72:=Tryz.isAgg78;have z72:=Tryz.sizeOf78;have v72:=Tryz.zeroValue78;have u72:=Tryz.runUnderlying78
 have t70:=Tryz.underlying76;have a70:=Tryz.isAgg76;have z70:=Tryz.sizeOf76;have v70:=Tryz.zeroValue76;have u70:=Tryz.runUnderlying76
 have t9:=Tryz.underlying9;have a9:=Tryz.isAgg9;have z9:=Tryz.sizeOf9;have v9:=Tryz.zeroValue9;have u9:=Tryz.runUnderlying9
 have t4:=Tryz.underlying4;have a4:=Tryz.isAgg4;have z4:=Tryz.sizeOf4;have v4:=Tryz.zeroValue4;have u4:=Tryz.runUnderlying4
 have t164:=Tryz.underlying145;have a164:=Tryz.isAgg145;have z164:=Tryz.sizeOf145;have v164:=Tryz.zeroValue145;have u164:=Tryz.runUnderlying145
 go_enter Tryz.func87,Tryz.ntmps87
 go_wp2
 rw[Lib.run_neq_ptr_same w _ Tryz.underlying76 hj]
 go_wp2
 go_end0
 exact⟨rfl,rfl⟩
set_option maxHeartbeats 2000000 in
set_option maxRecDepth 100000 in
theorem z8j(b:Nat)(w:World)(h0:w.cell? ⟨b,0,none⟩=some (.pointer none))(hsh:w.shape? b=some (78,2))(hfz:w.frozen? ⟨b,0,none⟩=false) :
  Calls Tryz.prog 87 #[.pointer (some ⟨b,0,none⟩)] w fun e w'=>e=.returned (.tuple #[])∧w'=w.setCell ⟨b,0,none⟩ (.pointer (some ⟨b,0,none⟩)):=by
 obtain⟨j,hj,hjs⟩:=Option.map_eq_some_iff.1 Tryz.Builder_Extra_169.sizeBuilder
 have mixed:Tryz.prog.follows .mixedOrders=true:=by kernel_rfl
 have t72:=Tryz.underlying78;have a72:=Tryz.isAgg78;have z72:=Tryz.sizeOf78;have v72:=Tryz.zeroValue78;have u72:=Tryz.runUnderlying78
 have t70:=Tryz.underlying76;have a70:=Tryz.isAgg76;have z70:=Tryz.sizeOf76;have v70:=Tryz.zeroValue76;have u70:=Tryz.runUnderlying76
 have t9:=Tryz.underlying9;have a9:=Tryz.isAgg9;have z9:=Tryz.sizeOf9;have v9:=Tryz.zeroValue9;have u9:=Tryz.runUnderlying9
 have t4:=Tryz.underlying4;have a4:=Tryz.isAgg4;have z4:=Tryz.sizeOf4;have v4:=Tryz.zeroValue4;have u4:=Tryz.runUnderlying4
 have t164:=Tryz.underlying145;have a164:=Tryz.isAgg145;have z164:=Tryz.sizeOf145;have v164:=Tryz.zeroValue145;have u164:=Tryz.runUnderlying145
 go_enter Tryz.func87,Tryz.ntmps87
 go_wp2
 rw[Lib.run_to_unsafe w ⟨b,0,none⟩ Tryz.underlying76 Tryz.underlying145 hj (by rw[hjs];decide) hsh (Nat.zero_lt_succ 1)]
 simp only[Result.andThen]
 rw[Oper.upon_value]
 go_wp2
 rw[run_callFunc_extern Tryz.func105 (by kernel_rfl) (by kernel_rfl) (by kernel_rfl) (e:=Extern.AbiNoEscape.same) (by kernel_rfl)]
 rw[Lib.run_noEscape]
 simp only[Result.andThen]
 rw[Oper.upon_value]
 go_wp2
 rw[Lib.run_from_unsafe w ⟨b,0,none⟩ Tryz.underlying145 Tryz.underlying76 hj hsh Tryz.Builder_Extra_169.liesBuilder]
 simp only[Result.andThen]
 rw[Oper.upon_value]
 go_wp2
 go_end0
 exact⟨rfl,rfl⟩
theorem q6G{w:World}{b:Nat}{p v:Value}{bs:List Value}(h:BAt 78 5 w b p v bs) :
  Calls Tryz.prog 87 #[.pointer (some ⟨b,0,none⟩)] w fun e w'=>e=.returned (.tuple #[])∧BAt 78 5 w' b (.pointer (some ⟨b,0,none⟩)) v bs∧w'.os=w.os∧w'.tape=w.tape∧w'.output=w.output∧SizeEq w' w∧∀ k,k≠b→w'.heap[k]? = w.heap[k]?:=by
 rcases h.hp with rfl|rfl
 ·have hA:Lib.BuilderAtF 78 5 0 b (.pointer none) bs w:=⟨Nat.zero_le _,v,h.hb,h.own,h.ne⟩
  refine(z8j b w hA.cell0 hA.shape hA.frozen0).mono ?_
  rintro e w' ⟨rfl,rfl⟩
  refine⟨rfl,⟨.inr rfl,?_,?_,h.ne⟩,rfl,rfl,rfl,by simp [SizeEq],fun k hk=>Below.heap_setCell _ _ _ _ hk⟩
  ·have:=h.hb
   simp [World.setCell,Array.getElem?_modify,this]
  ·exact h.own.kept (row:=some b) ⟨rfl,rfl,rfl,by simp [World.setCell],fun k _ hk=>Below.heap_setCell _ _ _ _ (fun e=>hk (by simp [e]))⟩ (Or.inr h.ne)
 ·have hA:Lib.BuilderAtF 78 5 0 b (.pointer (some ⟨b,0,none⟩)) bs w:=⟨Nat.zero_le _,v,h.hb,h.own,h.ne⟩
  refine(j0u b w hA.cell0).mono ?_
  rintro e w' ⟨rfl,rfl⟩
  exact⟨rfl,h,rfl,rfl,rfl,rfl,fun _ _=>rfl⟩
set_option maxHeartbeats 2000000 in
set_option maxRecDepth 100000 in
theorem q98{w:World}{b:Nat}{p v:Value}{bs:List Value}(h:BAt 78 5 w b p v bs)(c:Int)(hlen:bs.length+1≤140737488355328) :
  Calls Tryz.prog 110 #[.pointer (some ⟨b,0,none⟩),.int .u8 c] w fun e w'=>e=.returned .nilIface∧∃ v',BAt 78 5 w' b (.pointer (some ⟨b,0,none⟩)) v' (bs++[.int .u8 c])∧Kept w w' b v v':=by
 obtain⟨i0,hi,hz0,hz1,hz2⟩:=info_parts (show(Tryz.prog.info? 5).map (fun i=>(i.zero,i.size,i.bytes))=some (some (.int .u8 0),1,1) from Tryz.Builder_Extra_169.infoByte)
 have mixed:Tryz.prog.follows .mixedOrders=true:=by kernel_rfl
 have t72:=Tryz.underlying78;have a72:=Tryz.isAgg78;have z72:=Tryz.sizeOf78;have v72:=Tryz.zeroValue78;have u72:=Tryz.runUnderlying78
 have t70:=Tryz.underlying76;have a70:=Tryz.isAgg76;have z70:=Tryz.sizeOf76;have v70:=Tryz.zeroValue76;have u70:=Tryz.runUnderlying76
 have t5:=Tryz.underlying5;have a5:=Tryz.isAgg5;have z5:=Tryz.sizeOf5;have v5:=Tryz.zeroValue5;have u5:=Tryz.runUnderlying5
 have t37:=Tryz.underlying40;have a37:=Tryz.isAgg40;have z37:=Tryz.sizeOf40;have v37:=Tryz.zeroValue40;have u37:=Tryz.runUnderlying40
 have t9:=Tryz.underlying9;have a9:=Tryz.isAgg9;have z9:=Tryz.sizeOf9;have v9:=Tryz.zeroValue9;have u9:=Tryz.runUnderlying9
 have t4:=Tryz.underlying4;have a4:=Tryz.isAgg4;have z4:=Tryz.sizeOf4;have v4:=Tryz.zeroValue4;have u4:=Tryz.runUnderlying4
 have t164:=Tryz.underlying145;have a164:=Tryz.isAgg145;have z164:=Tryz.sizeOf145;have v164:=Tryz.zeroValue145;have u164:=Tryz.runUnderlying145
 have e240:∀ args w,(callFunc 87 args).run Tryz.prog w=.ok (.enter 87 args) w:=enters_of Tryz.func87 (by kernel_rfl) rfl
 go_enter Tryz.func110,Tryz.ntmps110
 go_wp2_with (go_at_fn 87;refine(q6G h).mono ?_)
 rintro e w1 ⟨rfl,h1,o1,o2,o3,hsz1,hold1⟩
 obtain⟨_,hbk,hown,hne⟩:=h1
 have c0:w1.cell? ⟨b,0,none⟩=some (.pointer (some ⟨b,0,none⟩)):=by rw[Lib.cell_of_heap hbk];rfl
 have c1:w1.cell? ⟨b,1,none⟩=some v:=by rw[Lib.cell_of_heap hbk];rfl
 go_wp2_with (at_builtin;refine q8v rfl _ _ 40 rfl 5 i0 Tryz.underlying40 hi hz0 hz1 hz2 _ _ _ rfl (hown.alloc _) ⟨w1.heap.size,0,none⟩ 1 1 [.int .u8 c] rfl rfl ?c1 ?c2 ?c3 ?c4 ?_)
 case c1=>
  intro j u hj
  match j,hj with
  |0,hj=>simp at hj;subst hj;simp [Addr.add]
 case c2=>intro u hu;simp at hu;subst hu;rfl
 case c3=>unfold maxLen;omega
 case c4=>omega
 intro v' w2 hown' hgrow _ hsame
 have hlt:b<w1.heap.size:=by
  rcases Nat.lt_or_ge b w1.heap.size with h'|h'
  ·exact h'
  ·simp [Array.getElem?_eq_none h'] at hbk
 have hb2:w2.heap[b]? = some (.cells #[.pointer (some ⟨b,0,none⟩),v] 78 (0,0)):=by
  rw[hgrow.block b (by simp;omega) (fun e=>hne e.symm),Lib.alloc_old w1 _ b hlt]
  exact hbk
 have d0:w2.cell? ⟨b,0,none⟩=some (.pointer (some ⟨b,0,none⟩)):=by rw[Lib.cell_of_heap hb2];rfl
 have d1:w2.cell? ⟨b,1,none⟩=some v:=by rw[Lib.cell_of_heap hb2];rfl
 have f1:w2.frozen? ⟨b,1,none⟩=false:=Lib.frozen_of_heap hb2 1
 obtain⟨g,cap,rfl⟩:∃ g cap,v'=.slice (some ⟨g,0,none⟩) (bs.length+1) cap:=by
  rcases hown'.2 with⟨_,h0⟩|⟨g,cap,cur,fz,hv,_⟩
  ·omega
  ·exact⟨g,cap,hv⟩
 go_wp2
 go_ret
 refine⟨rfl,_,z7p (by decide:(78:TypeId)≠5) (w:=w) (w1:=w1.alloc (.cells #[.int .u8 c] 5)) (.inr (by simp [hsz1.eq])) ⟨o1,o2,o3⟩ (fun k hk hkb=>by rw[Lib.alloc_old w1 _ k (by rw[hsz1.eq];exact hk)];exact hold1 k hkb) hb2 hgrow (by simpa using hown') hsame (fun g hg=>(h.own.lt g hg).2)⟩
set_option maxHeartbeats 2000000 in
set_option maxRecDepth 100000 in
theorem q8y{w:World}{b:Nat}{p v:Value}{bs:List Value}(h:BAt 78 5 w b p v bs)(s:ByteArray)(hlen:bs.length+s.size≤140737488355328) :
  Calls Tryz.prog 47 #[.pointer (some ⟨b,0,none⟩),.string s] w fun e w'=>e=.returned (.tuple #[.int .i64 s.size,.nilIface])∧∃ v',BAt 78 5 w' b (.pointer (some ⟨b,0,none⟩)) v' (bs++Lib.strCells s)∧Kept w w' b v v'∧(v=.slice none 0 0→s.size=0→v'=.slice none 0 0):=by
 obtain⟨i0,hi,hz0,hz1,hz2⟩:=info_parts (show(Tryz.prog.info? 5).map (fun i=>(i.zero,i.size,i.bytes))=some (some (.int .u8 0),1,1) from Tryz.Builder_Extra_169.infoByte)
 have mixed:Tryz.prog.follows .mixedOrders=true:=by kernel_rfl
 have t72:=Tryz.underlying78;have a72:=Tryz.isAgg78;have z72:=Tryz.sizeOf78;have v72:=Tryz.zeroValue78;have u72:=Tryz.runUnderlying78
 have t70:=Tryz.underlying76;have a70:=Tryz.isAgg76;have z70:=Tryz.sizeOf76;have v70:=Tryz.zeroValue76;have u70:=Tryz.runUnderlying76
 have t37:=Tryz.underlying40;have a37:=Tryz.isAgg40;have z37:=Tryz.sizeOf40;have v37:=Tryz.zeroValue40;have u37:=Tryz.runUnderlying40
 have t3:=Tryz.underlying3;have a3:=Tryz.isAgg3;have z3:=Tryz.sizeOf3;have v3:=Tryz.zeroValue3;have u3:=Tryz.runUnderlying3
 have t9:=Tryz.underlying9;have a9:=Tryz.isAgg9;have z9:=Tryz.sizeOf9;have v9:=Tryz.zeroValue9;have u9:=Tryz.runUnderlying9
 have t4:=Tryz.underlying4;have a4:=Tryz.isAgg4;have z4:=Tryz.sizeOf4;have v4:=Tryz.zeroValue4;have u4:=Tryz.runUnderlying4
 have t164:=Tryz.underlying145;have a164:=Tryz.isAgg145;have z164:=Tryz.sizeOf145;have v164:=Tryz.zeroValue145;have u164:=Tryz.runUnderlying145
 have t5:=Tryz.underlying5;have a5:=Tryz.isAgg5;have z5:=Tryz.sizeOf5;have v5:=Tryz.zeroValue5;have u5:=Tryz.runUnderlying5
 have e240:∀ args w,(callFunc 87 args).run Tryz.prog w=.ok (.enter 87 args) w:=enters_of Tryz.func87 (by kernel_rfl) rfl
 go_enter Tryz.func47,Tryz.ntmps47
 go_wp2_with (go_at_fn 87;refine(q6G h).mono ?_)
 rintro e w1 ⟨rfl,h1,o1,o2,o3,hsz1,hold1⟩
 obtain⟨_,hbk,hown,hne⟩:=h1
 have c0:w1.cell? ⟨b,0,none⟩=some (.pointer (some ⟨b,0,none⟩)):=by rw[Lib.cell_of_heap hbk];rfl
 have c1:w1.cell? ⟨b,1,none⟩=some v:=by rw[Lib.cell_of_heap hbk];rfl
 go_wp2_with (at_builtin;refine q5y rfl _ _ 40 9 rfl 5 i0 Tryz.underlying40 Tryz.underlying9 hi hz0 hz1 hz2 _ _ _ rfl hown s rfl ?c3 ?c4 ?_)
 case c3=>unfold maxLen;omega
 case c4=>omega
 intro v' w2 hown' hgrow hnil hsame
 have hlt:b<w1.heap.size:=by
  rcases Nat.lt_or_ge b w1.heap.size with h'|h'
  ·exact h'
  ·simp [Array.getElem?_eq_none h'] at hbk
 have hb2:w2.heap[b]? = some (.cells #[.pointer (some ⟨b,0,none⟩),v] 78 (0,0)):=by
  rw[hgrow.block b hlt (fun e=>hne e.symm)]
  exact hbk
 have d0:w2.cell? ⟨b,0,none⟩=some (.pointer (some ⟨b,0,none⟩)):=by rw[Lib.cell_of_heap hb2];rfl
 have d1:w2.cell? ⟨b,1,none⟩=some v:=by rw[Lib.cell_of_heap hb2];rfl
 have f1:w2.frozen? ⟨b,1,none⟩=false:=Lib.frozen_of_heap hb2 1
 obtain⟨ao,n',cap,rfl⟩:∃ ao n' cap,v'=.slice ao n' cap:=by
  rcases hown'.2 with⟨hv,_⟩|⟨g,cap,cur,fz,hv,_⟩
  ·exact⟨_,_,_,hv⟩
  ·exact⟨_,_,_,hv⟩
 go_wp2
 go_ret2
 have hp:=z7p (bs':=bs++Lib.strCells s) (by decide:(78:TypeId)≠5) (w:=w) (.inl hsz1.eq) ⟨o1,o2,o3⟩ (fun k hk hkb=>hold1 k hkb) hb2 hgrow (by simpa [Lib.strCells_length] using hown') hsame (fun g hg=>(h.own.lt g hg).2)
 exact⟨rfl,_,hp.1,hp.2,fun h1 h2=>hnil.2 ⟨h1,by
  obtain⟨⟨l⟩⟩:=s
  cases l with
  |nil=>rfl
  |cons a r=>simp [ByteArray.size] at h2⟩⟩
theorem tB_wb:WbOk Tryz.prog 110 78 5:=fun h c hl=>q98 h c hl
theorem tB_ws:WsOk Tryz.prog 47 78 5:=fun h s hl=>q8y h s hl
end Go.Vm
end

section
namespace Go.Vm
open Go.RowKit Go.Shelf Go.Proofs Go.Sort
def GT:Nat→Option (List D)
 |0=>some (Lib.pow10Tab.map fun z=>.int .u64 z)
 |_=>none
theorem gP10:Tryz.prog.globalNamed "internal/strconv.uint64pow10" = some 0:=by kernel_rfl
theorem z8p{w:World}{F:Nat→Prop}{v:Value}{k:IntKind}{n:Int}(h:RepD w F v (.int k n)):v=.int k n:=by
 cases h with|int k n=>rfl
theorem z1o{w:World}{F:Nat→Prop}(h:GlobRel w F GT):Lib.TabIs Tryz.prog w "internal/strconv.uint64pow10" .u64 Lib.pow10Tab:=by
 have hx:=h 0 _ rfl
 rw[if_neg (show ¬ q7a (Lib.pow10Tab.map fun z=>D.int .u64 z)=true from fun e=>Bool.noConfusion (show false=true from e))] at hx
 obtain⟨h1,cs,t,fz,h2,h3⟩:=hx
 unfold Lib.TabIs World.var?
 rw[gP10]
 show(match w.heap[0]? with|some (.cells cs _ _)=>some cs|_=>none)=_
 rw[h2]
 show some cs=_
 congr 1
 apply Array.ext
 ·rw[h3];simp
 ·intro j hj1 hj2
  cases h1 with
  |ptr b o cells g hf hc hr=>
   have hj:j<Lib.pow10Tab.length:=by simpa using hj2
   have e:(Lib.pow10Tab.map fun z=>D.int .u64 z)[j]? = some (.int .u64 Lib.pow10Tab[j]):=by simp [hj]
   have hv:=hr j _ e
   have hg:=z8p hv
   have hcell:=hc j _ e
   rw[hg,Nat.zero_add] at hcell
   have:w.cell? ⟨0,j,none⟩=some cs[j]:=by
    rw[Lib.cell_of_heap h2]
    simp [hj1]
   rw[this] at hcell
   simpa using Option.some.inj hcell
theorem q4i{w:World}{F:Nat→Prop}{base:Nat}(hF:∀ b,F b→b<w.heap.size):HeapRel w F (fun _ _=>False) base (fun _=>none) 0 (indexed []):=
 ⟨fun b blk h=>absurd (show look [] b=some blk from h) (by simp [look]),fun b b' l l' h=>(by cases h),fun b l h=>(by cases h),hF⟩
theorem q0N:Tryz.prog.follows .mixedOrders=true:=by kernel_rfl
theorem z3I(s:List UInt8)(c:UInt8)(a b:Bool):q2s Tryz.prog GT 123 [.d a (.str s),.d b (.int .u8 c.toNat)] (.d false (.int .i64 (Lib.indexByte s c))) []:=by
 intro w F vals hF hG hR
 obtain⟨hsz,hval⟩:=hR
 obtain⟨l⟩:=vals
 match l,hsz,hval with
 |[v0,v1],hsz,hval=>
  obtain⟨t,e0,e0'⟩:=(hval 0 v0 (.d a (.str s)) rfl rfl).str_inv
  have e1:=(hval 1 v1 (.d b (.int .u8 c.toNat)) rfl rfl).int_inv
  subst e0;subst e1
  refine(Tryz.strings_IndexByte t c.toNat w).mono ?_
  rintro e w' ⟨rfl,rfl⟩
  refine⟨_,F,fun _=>none,rfl,.refl _ _,fun b h=>.inl h,?_,q4i hF⟩
  have:(c.toNat:Int).toNat.toUInt8=c:=by simp
  rw[←e0',this]
  exact .d _ _ _ (.int _ _)
 |[],hsz,_=>simp at hsz
 |[_],hsz,_=>simp at hsz
 |_ :: _ :: _ :: _,hsz,_=>simp at hsz
theorem z3J(s:List UInt8)(c:UInt8)(a b:Bool):q2s Tryz.prog GT 115 [.d a (.str s),.d b (.str [c])] (.d false (.int .i64 (s.count c))) []:=by
 intro w F vals hF hG hR
 obtain⟨hsz,hval⟩:=hR
 obtain⟨l⟩:=vals
 match l,hsz,hval with
 |[v0,v1],hsz,hval=>
  obtain⟨t,e0,e0'⟩:=(hval 0 v0 (.d a (.str s)) rfl rfl).str_inv
  obtain⟨u,e1,e1'⟩:=(hval 1 v1 (.d b (.str [c])) rfl rfl).str_inv
  subst e0;subst e1
  have hu:u=⟨#[c]⟩:=by
   obtain⟨u⟩:=u
   obtain⟨u⟩:=u
   simp only at e1'
   rw[←e1']
  subst hu
  refine(Tryz.strings_Count_one t c w).mono ?_
  rintro e w' ⟨rfl,rfl⟩
  refine⟨_,F,fun _=>none,rfl,.refl _ _,fun b h=>.inl h,?_,q4i hF⟩
  rw[e0']
  exact .d _ _ _ (.int _ _)
 |[],hsz,_=>simp at hsz
 |[_],hsz,_=>simp at hsz
 |_ :: _ :: _ :: _,hsz,_=>simp at hsz
theorem z5O(n:Int)(a:Bool)(h0 : -9223372036854775808≤n)(h1:n≤9223372036854775807):q2s Tryz.prog GT 49 [.d a (.int .i64 n)] (.d false (.str (Lib.itoa n))) []:=by
 intro w F vals hF hG hR
 obtain⟨hsz,hval⟩:=hR
 obtain⟨l⟩:=vals
 match l,hsz,hval with
 |[v0],hsz,hval=>
  have e0:=(hval 0 v0 (.d a (.int .i64 n)) rfl rfl).int_inv
  subst e0
  refine(Tryz.strconv_Itoa n h0 h1 w (z1o hG)).mono ?_
  rintro e w' ⟨rfl,k,os,rfl⟩
  have hsz:(grow (w.drewN k) os).heap.size=w.heap.size+os.size:=by
   show((w.drewN k).heap++os).size=_
   simp
  refine⟨_,F,fun _=>none,rfl,⟨rfl,rfl,rfl,by rw[hsz];omega,fun j hj=>?_⟩,fun b h=>.inl h,?_,q4i (fun b h=>by rw[hsz];have:=hF b h;omega)⟩
  ·show((w.drewN k).heap++os)[j]? = _
   rw[Array.getElem?_append_left (by simpa using hj)]
   simp
  ·exact .d _ _ _ (.str ⟨(Lib.itoa n).toArray⟩)
 |[],hsz,_=>simp at hsz
 |_ :: _ :: _,hsz,_=>simp at hsz
theorem z5P(s:List UInt8)(a:Bool)(n:Int)(hl:s.length≤18)(h:Lib.atoi s=some n):q2s Tryz.prog GT 111 [.d a (.str s)] (.tup [.d false (.int .i64 n),.d false .nilif]) []:=by
 intro w F vals hF hG hR
 obtain⟨hsz,hval⟩:=hR
 obtain⟨l⟩:=vals
 match l,hsz,hval with
 |[v0],hsz,hval=>
  obtain⟨t,e0,e0'⟩:=(hval 0 v0 (.d a (.str s)) rfl rfl).str_inv
  subst e0
  have hsz':t.size≤18:=by
   have:t.size=t.data.toList.length:=by simp
   rw[this,←e0'];exact hl
  refine(Tryz.strconv_Atoi t n hsz' (by rw[←e0'];exact h) w).mono ?_
  rintro e w' ⟨rfl,b,rfl⟩
  have hs:=Lib.bytesWorld_size w 5 b
  refine⟨_,F,fun _=>none,rfl,Go.Joins.below_bytesWorld _ w 5 b (Nat.le_refl _),fun b h=>.inl h,?_,q4i (fun x hx=>by rw[hs];have:=hF x hx;omega)⟩
  refine .tup _ _ rfl fun j v x hv hx=>?_
  match j with
  |0=>simp at hv hx;subst hv;subst hx;exact .d _ _ _ (.int _ _)
  |1=>simp at hv hx;subst hv;subst hx;exact .d _ _ _ .nilif
  |j+2=>simp at hv
 |[],hsz,_=>simp at hsz
 |_ :: _ :: _,hsz,_=>simp at hsz
end Go.Vm
end
