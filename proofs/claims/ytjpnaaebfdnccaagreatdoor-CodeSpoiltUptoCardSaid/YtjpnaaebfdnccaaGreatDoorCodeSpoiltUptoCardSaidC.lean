/-
  Parts of the proof: Drawn regions whose pieces overlap: what may be worked out late may be worked out in the next pieces too. Regions that draw, their operations told in another order. Operations that give up: a panic on its way. Regions of which a piece gives up. Code that passed the check does what the machine says. Functions: what they return. Loops and jumps, by their rounds. The machine's equations, in a form in which simp works from the inside out and stops where a test is open. Typed data in the machine: lists of structures as rows of cells. Maps, in equations for simp. Jumps, in equations. One name for the machine's equations. One name for more of the simp set. Heaps of any size: loops whose blocks are not numbered anew; what is found behind writes. Tables of instructions as typed data. What the functions of packages peep and code come to: plain definitions. The document's answer for one instruction: its numbers, its needs, what lies behind it. The document's writer of codes: bytes behind bytes, names in quotes, numbers in base ten. The machine by reckoning: with so many rounds at the most. What is known of functions over package-level tables, put together of what each one answers. Package strings' Builder: its methods, with all that they leave alone. Package strings' Builder: WriteByte, WriteString, Len, String. Package strings' Builder: String. What the machine knows of a Builder's methods. Conditions: none.
-/
import Derived.Test.YtjpnaaebfdnccaaGreatDoorCodeSpoiltUptoCardSaidB
import Derived.WalkSmall
import Derived.Scope
import Derived.Laws.Sem
import Derived.Test.YtjpnaaebfdnccaaGreatDoorChecked
import Derived.Lib.ItoaNum
import Derived.Shelf.Strings.BuilderK
set_option linter.unusedVariables false
set_option linter.unusedSimpArgs false

section
namespace Go.Vm
open Go.RowKit
variable {P:Program}{K:Cx}{n:Nat}{X:Nat→Nat→Prop}{base:Nat}{w0:World}{F0:Nat→Prop}{m0:Nat}{σ0:Nat→Option Loc}{ops:Array Oper}{Q:Exit→Act→World→Prop}
def q5K(g:Seg)(R:List Rec)(is:List Nat):List Nat:=is.filter fun i=>R.any fun r=>r.i==i&&q30 g.late r
def wrIx(R:List Rec):Option Nat:=(R.find? (·.isWr)).map (·.i)
def z71(g:Seg)(R:List Rec)(pend:List Nat)(mds:List Nat)(R':List Rec):Bool:=
 R'.all (fun r=>!pend.contains r.i||R.any fun q=>decide (q.i=r.i)&&q30 g.late q&&decide (r.x=q.x)&&r.ch.isEmpty&&!r.isWr&&!r.isMk)&&g.late.all (E.free mds) &&
 R.all fun q=>!q30 g.late q||match q.o.dst with
  |some d=>!(g.lets.map (·.1)).contains d&&!g.keep.contains d
  |none=>true
def j1c(tab:List (List Nat))(size k j:Nat):Bool:=(List.range' k (size - k)).all fun x=>(tab.getD x []).contains j
def q1p(P:Program)(ops:Array Oper)(n:Nat)(tab:List (List Nat)):List Nat→Nat→List Seg→Bool
 |_,_,[]=>false
 |L,k,[g]=>q9y (tabB tab) P ops n (L++List.range' k g.cnt) g&&(k+g.cnt==ops.size)
 |L,k,g :: g' :: gs=>q9y (tabB tab) P ops n (L++List.range' k g.cnt) g&&match recs (tabB tab) P ops (g.mks.map (·.1)) g.ef n (L++List.range' k g.cnt) [] with
  |none=>false
  |some R=>match wrIx R with
   |none=>(L++List.range' k g.cnt).all (j1c tab ops.size (k+g.cnt))&&q1p P ops n tab [] (k+g.cnt) (g' :: gs)
   |some wi=>j1c tab ops.size (k+g.cnt) wi&&(match recs (tabB tab) P ops (g'.mks.map (·.1)) g'.ef n (q5K g R (L++List.range' k g.cnt)++List.range' (k+g.cnt) g'.cnt) [] with
    |some R'=>z71 g R (q5K g R (L++List.range' k g.cnt)) (g'.mks.map (·.1)) R'
    |none=>false)&&q1p P ops n tab (q5K g R (L++List.range' k g.cnt)) (k+g.cnt) (g' :: gs)
def q4f(P:Program)(ops:Array Oper)(n:Nat)(gs:List Seg):Bool:=q1p P ops n (z1h gs) [] 0 gs&&z64 ops.toList (z1h gs)
theorem j1C{B:Nat→Nat→Bool}{is:List Nat}{g g':Seg}{R R':List Rec}{s s1 s' s1':S}{T T':Tr}{news:List Blk}{l:List (Nat×V)}{D:Nat→Prop}{a:Act}{w:World}{F:Nat→Prop}{σ:Nat→Option Loc}
  (h:Full (q0F P K ops B n R g s s1 T X base w0 F0 m0 σ0) is g s' news l) (h'ok:(q0F P K ops B n R' g' s' s1' T' X base w0 F0 m0 σ0).Ok) (hnx:s'.nx≤s1'.nx)
  (hsame:∀ e∈g.late,ev K s' e=ev K s1 e)
  (hlink:∀ r∈R',D r.i→∃ q∈R,q.i=r.i∧q30 g.late q=true∧r.x=q.x∧r.ch=[]∧r.isWr=false∧r.isMk=false)
  (hfree:∀ e∈g.late,e.free (g'.mks.map (·.1))=true)
  (hsl:∀ q∈R,q30 g.late q=true→∀ d,q.o.dst=some d→look s'.rho d=none)
  (hW:Wrt (q0F P K ops B n R g s s1 T X base w0 F0 m0 σ0) g s' D a w F σ):Inv (q0F P K ops B n R' g' s' s1' T' X base w0 F0 m0 σ0) D a w F σ:=by
 have oper:∀ r∈R',∀ q∈R,q.i=r.i→q.o=r.o:=by
  intro r hr q hq he
  have h1:=(h'ok.good.split hr)
  have h2:=(h.ok.good.split hq)
  obtain⟨_,_,_,g1⟩:=h1
  obtain⟨_,_,_,g2⟩:=h2
  cases g1 with
  |cons _ _ _ e1 _ _ _=>
   cases g2 with
   |cons _ _ _ e2 _ _ _=>
    have e1':ops[r.i]? = some r.o:=e1
    have e2':ops[q.i]? = some q.o:=e2
    rw[he,e1'] at e2'
    exact(Option.some.inj e2').symm
 have nomk:∀ r∈R',D r.i→∀ d,r.o.dst=some d→d∉g'.mks.map (·.1):=by
  intro r hr hD d hd hm
  obtain⟨r2,hr2,hd2,hm2⟩:=h'ok.covers d hm
  obtain⟨_,_,_,_,_,_,_,hmk⟩:=hlink r hr hD
  by_cases hri:r2.i=r.i
  ·obtain rfl:=h'ok.good.inj r2 hr2 r hr hri
   rw[hmk] at hm2;cases hm2
  ·exact absurd hd (q5j h'ok hr2 hr hri hd2)
 refine⟨⟨hW.heap.blk,hW.heap.inj,fun b l hb=>?_,hW.heap.fro⟩,hW.glob,hW.le,hW.frame,hW.frz,hW.size,hW.dfr,fun t v hv hn=>?_,fun r hr hD d hd hwr=>?_,fun d m v n0 nw hT ⟨r,hr,hD,hd⟩=>?_,fun d m v n0 nw hT hn b h1 h2=>?_,hW.stab,hW.sub⟩
 ·obtain⟨o1,o2⟩:=hW.heap.own b l hb
  exact⟨show b<s1'.nx by omega,o2⟩
 ·refine hW.rho t v hv fun q hq hD hd=>?_
  have:=hsl q hq (hW.rest q hq hD) t hd
  have hv':look s'.rho t=some v:=hv
  rw[this] at hv';cases hv'
 ·obtain⟨q,hq,hqi,hql,hx,hch,_,_⟩:=hlink r hr hD
  have ho:=oper r hr q hq hqi
  refine⟨fun _ v hv=>?_,fun hnw=>absurd (by rw[hch];exact fun p hp=>by simp at hp) hnw⟩
  obtain⟨e,hk,hqx,hel,_⟩:=q2C hql
  obtain⟨val,hv1,hv2,_⟩:=h.ended.late e hel _ _ h.ended.mks
  have e1:ev K s1' e=ev K s' e:=by
   have hh:s1'.heap=s'.heap:=h'ok.s1
   obtain⟨ρ1,H1,n1,u1⟩:=s1'
   obtain⟨ρ2,H2,n2,u2⟩:=s'
   simp only at hh
   subst hh
   exact q5f K ρ2 ρ1 H1 n2 n1 u2 u1 (fun t ht=>h'ok.old t ht) e (hfree e hel)
  have hv':ev K s1' r.x=some v:=hv
  rw[hx,hqx,e1,hsame e hel] at hv'
  have hv2':ev K s1 e=some val:=hv2
  rw[hv2'] at hv'
  obtain rfl:=Option.some.inj hv'
  exact hW.ldone q hq (by rw[hqi];exact hD) hql d (by rw[ho];exact hd) val (by rw[hqx];exact hv1)
 ·exact absurd ((h'ok.mds d).2 ⟨m,v,n0,nw,hT⟩) (nomk r hr hD d hd)
 ·have h0:s'.nx≤n0:=(h'ok.evm d m v n0 nw hT).2.1
  cases hb:σ b with
  |none=>rfl
  |some l=>
   have:=(hW.heap.own b l hb).1
   omega
abbrev Li(listed:Array Bool):Nat→Prop:=fun i=>listed.getD i false=true
theorem q3L{tab:List (List Nat)}(ht:Tab ops tab)(is es:List Nat)(St:(Nat→Prop)→Act→World→Prop)(dom:(Nat→Prop)→Prop)
  (his:∀ i∈is,i<ops.size) (hdom:∀ D i,dom D→i∈is→dom (plus D i))
  (hin:∀ D i,dom D→¬(∀ j∈es,D j)→i<ops.size→¬ D i→(∀ j,tabB tab j i=true→D j)→i∈is) (hes:∀ j∈es,j<ops.size)
  (hstep:∀(D:Nat→Prop) (a:Act) (w:World) (i:Nat) (Kn:Act→World→Prop),i∈is→¬ D i→(∀ q,q<ops.size→D q→∀ p,tabB tab p q=true→D p)→(∀ q,tabB tab q i=true→D q)→St D a w→(∀ a' w',St (plus D i) a' w'→Kn a' w')→wpOp P ops Q i Kn a w)
  (hrest:∀(fuel:Nat) (listed:Array Bool) (a:Act) (w:World),listed.size=ops.size→q0A listed ops.size≤fuel→dom (Li listed)→(∀ i,i<ops.size→Li listed i→∀ j,tabB tab j i=true→Li listed j)→(∀ j∈es,Li listed j)→St (Li listed) a w→wpAny P .any ops Q fuel listed a w) :
  ∀(fuel:Nat) (listed:Array Bool) (a:Act) (w:World),listed.size=ops.size→q0A listed ops.size≤fuel→dom (Li listed)→(∀ i,i<ops.size→Li listed i→∀ j,tabB tab j i=true→Li listed j)→St (Li listed) a w→wpAny P .any ops Q fuel listed a w:=by
 intro fuel
 induction fuel with
 |zero=>
  intro listed a w hsz hfuel hd hdown hs
  have hall:∀ i,i<ops.size→Li listed i:=by
   intro i hi
   cases hl:listed.getD i false with
   |true=>exact hl
   |false=>
    have hm:i∈(List.range ops.size).filter fun i=>!listed.getD i true:=by
     simp only[List.mem_filter,List.mem_range,Bool.not_eq_true']
     exact⟨hi,by rw[q6K listed i hsz hi];exact hl⟩
    have:0<q0A listed ops.size:=List.length_pos_of_mem hm
    omega
  exact hrest 0 listed a w hsz hfuel hd hdown (fun j hj=>hall j (hes j hj)) hs
 |succ fuel ih=>
  intro listed a w hsz hfuel hd hdown hs
  by_cases hall:∀ j∈es,Li listed j
  ·exact hrest (fuel+1) listed a w hsz hfuel hd hdown hall hs
  ·refine⟨fun hr=>absurd (fun j hj=>z7D ht listed hsz hr j (hes j hj)) hall,fun i hi=>?_⟩
   obtain⟨h1,h2,o,ho,h3⟩:=q6l.1 hi
   rw[q6K listed i hsz h1] at h2
   have hpre:∀ j,tabB tab j i=true→Li listed j:=by
    intro j hj
    simp only[tabB,List.contains_eq_mem,decide_eq_true_eq] at hj
    obtain⟨e,he,h4⟩:=ht.clo i o ho j hj
    rcases h4 with rfl|h4
    ·exact h3 _ he
    ·exact hdown e (by have:=ht.lt i o ho e he;omega) (h3 e he) j (by simpa [tabB] using h4)
   have hnl:¬ Li listed i:=by show ¬(listed.getD i false=true);rw[h2];simp
   have hmi:i∈is:=hin _ i hd hall h1 hnl hpre
   have hlt:i<listed.size:=by omega
   have hset:Li (listed.setIfInBounds i true)=plus (Li listed) i:=by
    funext x
    show((listed.setIfInBounds i true).getD x false=true)=_
    rw[q3c listed i x hlt]
    simp only[plus,Li,eq_iff_iff]
    by_cases hx:x=i <;> simp [hx]
   exact hstep _ a w i (wpAny P .any ops Q fuel (listed.setIfInBounds i true)) hmi hnl (fun q hq hqD p hpq=>hdown q hq hqD p hpq) hpre hs (fun a' w' hs'=>by
     refine ih _ a' w' (by simpa using hsz) ?_ (by rw[hset];exact hdom _ i hd hmi) ?_ (by rw[hset];exact hs')
     ·have:q0A (listed.setIfInBounds i true) ops.size<q0A listed ops.size:=by
       unfold q0A
       have hsub:((List.range ops.size).filter fun x=>!(listed.setIfInBounds i true).getD x true)=((List.range ops.size).filter fun x=>!listed.getD x true).filter fun x=>decide (x≠i):=by
        rw[List.filter_filter]
        refine List.filter_congr fun x _=>?_
        rw[q3c listed i x hlt]
        by_cases hx:x=i
        ·simp [hx]
        ·simp [hx]
       rw[hsub]
       have hm:i∈(List.range ops.size).filter fun i=>!listed.getD i true:=by
        simp only[List.mem_filter,List.mem_range,Bool.not_eq_true']
        exact⟨h1,by rw[q6K listed i hsz h1];exact h2⟩
       exact List.length_filter_lt_length_iff_exists.2 ⟨i,hm,by simp⟩
      omega
     ·intro x hx hxl j hj
      rw[hset] at hxl ⊢
      rcases hxl with hxl|rfl
      ·exact .inl (hdown x hx hxl j hj)
      ·exact .inl (hpre j hj))
theorem j1i{listed:Array Bool}(hsz:listed.size=ops.size)(hall:∀ i,i<ops.size→Li listed i){fuel:Nat}{a:Act}{w:World}(hQ:Q .normal a w):wpAny P .any ops Q fuel listed a w:=by
 have hr:Region.ready .any ops listed=[]:=by
  cases hr:Region.ready .any ops listed with
  |nil=>rfl
  |cons i t=>
   have:i∈Region.ready .any ops listed:=by rw[hr];simp
   obtain⟨h1,h2,_⟩:=q6l.1 this
   rw[q6K listed i hsz h1] at h2
   have:=hall i h1
   simp only[Li] at this
   rw[this] at h2
   cases h2
 cases fuel with
 |zero=>exact⟨hr,hQ⟩
 |succ fuel=>exact⟨fun _=>hQ,fun i hi=>by rw[hr] at hi;simp at hi⟩
theorem q3Z{tab:List (List Nat)}:∀(gs:List Seg)(L:List Nat)(k:Nat),q1p P ops n tab L k gs=true→k≤ops.size
 |[],_,_,h=>by simp [q1p] at h
 |[g],L,k,h=>by
  simp only[q1p,Bool.and_eq_true,beq_iff_eq] at h
  omega
 |g :: g' :: gs,L,k,h=>by
  simp only[q1p,Bool.and_eq_true] at h
  obtain⟨_,h⟩:=h
  split at h
  ·cases h
  ·split at h
   ·simp only[Bool.and_eq_true] at h
    have:=q3Z (g' :: gs) _ _ h.2
    omega
   ·simp only[Bool.and_eq_true] at h
    have:=q3Z (g' :: gs) _ _ h.2
    omega
theorem z2z{tab:List (List Nat)}{size k j i:Nat}(h:j1c tab size k j=true)(h1:k≤i)(h2:i<size):tabB tab j i=true:=by
 simp only[j1c,List.all_eq_true] at h
 exact h i (by rw[List.mem_range'_1];omega)
theorem q8f{R:List Rec}{wi:Nat}(h:wrIx R=some wi):∃ r∈R,r.isWr=true∧r.i=wi:=by
 simp only[wrIx,Option.map_eq_some_iff] at h
 obtain⟨r,hr,rfl⟩:=h
 exact⟨r,List.mem_of_find?_eq_some hr,List.find?_some hr,rfl⟩
theorem q8e(hK:K.Sound P){tab:List (List Nat)}(ht:Tab ops tab)(s':S)(hQ:∀ a w F σ,StRel K X base w0 F0 m0 σ0 n s' a w F σ→Q .normal a w):∀(gs:List Seg)(L:List Nat)(k:Nat)(s:S),q1p P ops n tab L k gs=true→q09 K s gs=some s'→
  (∀ j∈L,j<k)→(∀ b blk,look s.heap b=some blk→b<s.nx)→m0≤s.nx→(∀ b k,X b k→b<m0)→
  ∀(fuel:Nat) (listed:Array Bool) (a:Act) (w:World),listed.size=ops.size→q0A listed ops.size≤fuel→(∀ i,i<k→i∉L→Li listed i)→(∀ i,k≤i→¬ Li listed i)→(∀ i,i<ops.size→Li listed i→∀ j,tabB tab j i=true→Li listed j)→
   (∀ g gs',gs=g :: gs'→∀ R s1 T s2 news l,Full (q0F P K ops (tabB tab) n R g s s1 T X base w0 F0 m0 σ0) (L++List.range' k g.cnt) g s2 news l→Stage (q0F P K ops (tabB tab) n R g s s1 T X base w0 F0 m0 σ0) g s2 (Li listed) a w)→
   wpAny P .any ops Q fuel listed a w
 |[],_,_,_,hok,_,_,_,_,_=>by simp [q1p] at hok
 |[g],L,k,s,hok,hev,hL,hdm,hnm,hxm=>by
  intro fuel listed a w hsz hfuel hlo hhi hdown hst
  simp only[q1p,Bool.and_eq_true,beq_iff_eq] at hok
  obtain⟨hok1,hsize⟩:=hok
  simp only[q09] at hev
  cases hg:q04 K s g with
  |none=>simp [hg] at hev
  |some s2=>
   simp only[hg,true_or,if_true,Option.some.injEq] at hev
   subst hev
   obtain⟨R,s1,T,news,l,hf⟩:=q32 (X:=X) (base:=base) (w0:=w0) (F0:=F0) (m0:=m0) (σ0:=σ0) hok1 hK hg hdm hnm hxm
   have hmem:∀ q∈R,q.i∈L++List.range' k g.cnt:=fun q hq=>(q0w hf.seg q.i).1 ⟨q,hq,rfl⟩
   have hlt:∀ i∈L++List.range' k g.cnt,i<ops.size:=fun i hi=>by
    rcases List.mem_append.1 hi with h|h
    ·have:=hL i h;omega
    ·rw[List.mem_range'_1] at h;omega
   refine q3L ht (L++List.range' k g.cnt) (L++List.range' k g.cnt) (Stage (q0F P K ops (tabB tab) n R g s s1 T X base w0 F0 m0 σ0) g s2) (fun D=>∀ i,i<k→i∉L→D i) hlt (fun D i hd _ j hj hjL=>.inl (hd j hj hjL))
    (fun D i hd _ hi hD _=>?_) hlt (fun D a w i Kn hi hD hdn hpre hs hKn=>?_) (fun fuel listed a w q1 q2 q3 q4 q5 hs=>?_) fuel listed a w hsz hfuel hlo hdown (hst g [] rfl R s1 T s2 news l hf)
   ·rcases Nat.lt_or_ge i k with h|h
    ·by_cases hiL:i∈L
     ·exact List.mem_append_left _ hiL
     ·exact absurd (hd i h hiL) hD
    ·exact List.mem_append_right _ (by rw[List.mem_range'_1];omega)
   ·obtain⟨r,hr,rfl⟩:=(q0w hf.seg i).2 hi
    exact q4n hf hs hr hD (fun q hq hqD p hp hpq=>hdn q.i (hlt _ (hmem q hq)) hqD p.i hpq) (fun q hq hqr=>hpre q.i hqr) hKn
   ·obtain⟨F,σ,hst2⟩:=q4Y hf hs (fun r hr=>q5 r.i (hmem r hr))
    refine j1i q1 (fun i hi=>?_) (hQ a w F σ hst2)
    by_cases h:i∈L++List.range' k g.cnt
    ·exact q5 i h
    ·refine q3 i ?_ (fun hiL=>h (List.mem_append_left _ hiL))
     rcases Nat.lt_or_ge i k with h2|h2
     ·exact h2
     ·exact absurd (List.mem_append_right _ (by rw[List.mem_range'_1];omega)) h
 |g :: g' :: gs,L,k,s,hok,hev,hL,hdm,hnm,hxm=>by
  intro fuel listed a w hsz hfuel hlo hhi hdown hst
  simp only[q1p,Bool.and_eq_true] at hok
  obtain⟨hok1,hok⟩:=hok
  simp only[q09] at hev
  cases hg:q04 K s g with
  |none=>simp [hg] at hev
  |some s2=>
   simp only[hg,reduceCtorEq,false_or] at hev
   split at hev
   case isFalse=>cases hev
   rename_i hsame
   obtain⟨R,s1,T,news,l,hf⟩:=q32 (X:=X) (base:=base) (w0:=w0) (F0:=F0) (m0:=m0) (σ0:=σ0) hok1 hK hg hdm hnm hxm
   have hrec:recs (tabB tab) P ops (g.mks.map (·.1)) g.ef n (L++List.range' k g.cnt) []=some R:=hf.seg.recs
   rw[hrec] at hok
   simp only at hok
   have hmem:∀ q∈R,q.i∈L++List.range' k g.cnt:=fun q hq=>(q0w hf.seg q.i).1 ⟨q,hq,rfl⟩
   have hkc:k+g.cnt≤ops.size:=by
    split at hok
    ·simp only[Bool.and_eq_true] at hok
     exact q3Z _ _ _ hok.2
    ·simp only[Bool.and_eq_true] at hok
     exact q3Z _ _ _ hok.2
   have hlt0:∀ i∈L++List.range' k g.cnt,i<k+g.cnt:=fun i hi=>by
    rcases List.mem_append.1 hi with h|h
    ·have:=hL i h;omega
    ·rw[List.mem_range'_1] at h;omega
   have hlt:∀ i∈L++List.range' k g.cnt,i<ops.size:=fun i hi=>Nat.lt_of_lt_of_le (hlt0 i hi) hkc
   obtain⟨hdm2,hnm2⟩:(∀ b blk,look s2.heap b=some blk→b<s2.nx)∧s.nx≤s2.nx:=by
    have hd1:=z0Z hf
    have hn1:=hf.nx
    rcases hf.ended.wr with⟨_,he⟩|⟨d,wr,hw,_,he⟩|⟨d,wr,H,v,p,nx,hw,_,hev',he⟩
    ·subst he;exact⟨hd1,hn1⟩
    ·subst he;exact⟨hd1,hn1⟩
    ·subst he
     obtain⟨h1,h2⟩:=z0J hev' hd1
     exact⟨fun b blk hb=>by obtain⟨y,hy⟩:=q7d _ _ _ _ hb;exact h1 b y hy,Nat.le_trans hn1 h2⟩
   have hstep:∀(D:Nat→Prop) (a:Act) (w:World) (i:Nat) (Kn:Act→World→Prop),i∈L++List.range' k g.cnt→¬ D i→(∀ q,q<ops.size→D q→∀ p,tabB tab p q=true→D p)→(∀ q,tabB tab q i=true→D q)→
     Stage (q0F P K ops (tabB tab) n R g s s1 T X base w0 F0 m0 σ0) g s2 D a w→(∀ a' w',Stage (q0F P K ops (tabB tab) n R g s s1 T X base w0 F0 m0 σ0) g s2 (plus D i) a' w'→Kn a' w')→wpOp P ops Q i Kn a w:=fun D a w i Kn hi hD hdn hpre hs hKn=>by
    obtain⟨r,hr,rfl⟩:=(q0w hf.seg i).2 hi
    exact q4n hf hs hr hD (fun q hq hqD p hp hpq=>hdn q.i (hlt _ (hmem q hq)) hqD p.i hpq) (fun q hq hqr=>hpre q.i hqr) hKn
   have hdom:∀(D:Nat→Prop) i,((∀ i,i<k→i∉L→D i)∧∀ i,k+g.cnt≤i→¬ D i)→i∈L++List.range' k g.cnt→(∀ j,j<k→j∉L→plus D i j)∧∀ j,k+g.cnt≤j→¬ plus D i j:=fun D i hd hi=>⟨fun j hj hjL=>.inl (hd.1 j hj hjL),fun j hj=>by
    rintro(h|rfl)
    ·exact hd.2 j hj h
    ·have:=hlt0 _ hi;omega⟩
   have hinn:∀(D:Nat→Prop) i,((∀ i,i<k→i∉L→D i)∧∀ i,k+g.cnt≤i→¬ D i)→¬ D i→i<k+g.cnt→i∈L++List.range' k g.cnt:=fun D i hd hD hi=>by
    rcases Nat.lt_or_ge i k with h|h
    ·by_cases hiL:i∈L
     ·exact List.mem_append_left _ hiL
     ·exact absurd (hd.1 i h hiL) hD
    ·exact List.mem_append_right _ (by rw[List.mem_range'_1];omega)
   have h0:(∀ i,i<k→i∉L→Li listed i)∧∀ i,k+g.cnt≤i→¬ Li listed i:=⟨hlo,fun i hi=>hhi i (by omega)⟩
   cases hwi:wrIx R with
   |none=>
    simp only[hwi,Bool.and_eq_true,List.all_eq_true] at hok
    obtain⟨hbar,hok2⟩:=hok
    refine q3L ht (L++List.range' k g.cnt) (L++List.range' k g.cnt) (Stage (q0F P K ops (tabB tab) n R g s s1 T X base w0 F0 m0 σ0) g s2) (fun D=>(∀ i,i<k→i∉L→D i)∧∀ i,k+g.cnt≤i→¬ D i) hlt hdom
     (fun D i hd hne hi hD hpre=>?_) hlt hstep (fun fuel listed a w q1 q2 q3 q4 q5 hs=>?_) fuel listed a w hsz hfuel h0 hdown (hst g _ rfl R s1 T s2 news l hf)
    ·rcases Nat.lt_or_ge i (k+g.cnt) with h|h
     ·exact hinn D i hd hD h
     ·exact absurd (fun j hj=>hpre j (z2z (hbar j hj) h hi)) hne
    ·obtain⟨F,σ,hst2⟩:=q4Y hf hs (fun r hr=>q5 r.i (hmem r hr))
     refine q8e hK ht s' hQ (g' :: gs) [] (k+g.cnt) s2 hok2 hev (fun j hj=>by simp at hj) hdm2 (Nat.le_trans hnm hnm2) hxm fuel listed a w q1 q2 (fun i hi _=>?_) q3.2 q4 (fun g1 gs1 he R' s1' T' s3 news' l' hf'=>?_)
     ·by_cases h:i∈L++List.range' k g.cnt
      ·exact q5 i h
      ·exact Classical.byContradiction fun hD=>h (hinn _ i q3 hD hi)
     ·refine(q0L (P:=P) (ops:=ops) (B:=tabB tab) (R:=R') (s':=s3) hf'.traced hst2).congr (fun r hr=>?_)
      have hri:=(q0w hf'.seg r.i).1 ⟨r,hr,rfl⟩
      rw[List.nil_append,List.mem_range'_1] at hri
      exact⟨fun h=>h.elim,fun h=>q3.2 r.i hri.1 h⟩
   |some wi=>
    simp only[hwi,Bool.and_eq_true] at hok
    obtain⟨⟨hbar,hlk⟩,hok2⟩:=hok
    obtain⟨rw0,hrw,hrww,hrwi⟩:=q8f hwi
    refine q3L ht (L++List.range' k g.cnt) [wi] (Stage (q0F P K ops (tabB tab) n R g s s1 T X base w0 F0 m0 σ0) g s2) (fun D=>(∀ i,i<k→i∉L→D i)∧∀ i,k+g.cnt≤i→¬ D i) hlt hdom
     (fun D i hd hne hi hD hpre=>?_) (fun j hj=>?_) hstep (fun fuel listed a w q1 q2 q3 q4 q5 hs=>?_) fuel listed a w hsz hfuel h0 hdown (hst g _ rfl R s1 T s2 news l hf)
    ·rcases Nat.lt_or_ge i (k+g.cnt) with h|h
     ·exact hinn D i hd hD h
     ·refine absurd (fun j hj=>?_) hne
      obtain rfl:j=wi:=by simpa using hj
      exact hpre j (z2z hbar h hi)
    ·obtain rfl:j=wi:=by simpa using hj
     rw[←hrwi]
     exact hlt _ (hmem rw0 hrw)
    ·have hwD:Li listed wi:=q5 wi (by simp)
     rcases hs with⟨hno,_⟩|⟨_,F,σ,hW⟩
     ·have:=hno rw0 hrw (by rw[hrwi];exact hwD)
      rw[hrww] at this;cases this
     ·refine q8e hK ht s' hQ (g' :: gs) (q5K g R (L++List.range' k g.cnt)) (k+g.cnt) s2 hok2 hev (fun j hj=>hlt0 j (List.mem_filter.1 hj).1) hdm2 (Nat.le_trans hnm hnm2) hxm fuel listed a w q1 q2 (fun i hi hnp=>?_) q3.2 q4 (fun g1 gs1 he R' s1' T' s3 news' l' hf'=>?_)
      ·refine Classical.byContradiction fun hD=>?_
       have hmi:=hinn _ i q3 hD hi
       obtain⟨r,hr,rfl⟩:=(q0w hf.seg i).2 hmi
       have hl:=hW.rest r hr hD
       refine hnp (List.mem_filter.2 ⟨hmi,?_⟩)
       simp only[List.any_eq_true]
       exact⟨r,hr,by simp [hl]⟩
      ·obtain⟨rfl,rfl⟩:=List.cons.inj he
       have hrec':recs (tabB tab) P ops (g'.mks.map (·.1)) g'.ef n (q5K g R (L++List.range' k g.cnt)++List.range' (k+g.cnt) g'.cnt) []=some R':=hf'.seg.recs
       rw[hrec'] at hlk
       simp only[z71,Bool.and_eq_true,List.all_eq_true] at hlk
       obtain⟨⟨hl1,hl2⟩,hl3⟩:=hlk
       have hpend:∀ r∈R',Li listed r.i→r.i∈q5K g R (L++List.range' k g.cnt):=fun r hr hD=>by
        rcases List.mem_append.1 ((q0w hf'.seg r.i).1 ⟨r,hr,rfl⟩) with h|h
        ·exact h
        ·rw[List.mem_range'_1] at h
         exact absurd hD (q3.2 r.i h.1)
       have hlink:∀ r∈R',Li listed r.i→∃ q∈R,q.i=r.i∧q30 g.late q=true∧r.x=q.x∧r.ch=[]∧r.isWr=false∧r.isMk=false:=fun r hr hD=>by
        have:=hl1 r hr
        simp only[Bool.or_eq_true,Bool.not_eq_true',List.any_eq_true,Bool.and_eq_true,decide_eq_true_eq,List.isEmpty_iff] at this
        rcases this with h|⟨q,hq,⟨⟨⟨⟨h1,h2⟩,h3⟩,h4⟩,h5⟩,h6⟩
        ·have h':=hpend r hr hD
         rw[List.contains_eq_mem,decide_eq_false_iff_not] at h
         exact absurd h' h
        ·exact⟨q,hq,h1,h2,h3,h4,h5,h6⟩
       refine .inl ⟨fun r hr hD=>(hlink r hr hD).choose_spec.2.2.2.2.2.1,F,σ,j1C hf hf'.ok hf'.nx (fun e he'=>(hsame.resolve_left (by simp)) e he' _ _ hf.ended.mks) hlink hl2 (fun q hq hql d hd=>?_) hW⟩
       -- the slot of a late one is not known behind the piece
       have h3:=hl3 q hq
       simp only[hql,Bool.not_true,Bool.false_or,hd,Bool.and_eq_true,Bool.not_eq_true',List.contains_eq_mem,decide_eq_false_iff_not] at h3
       obtain⟨h4,h5⟩:=h3
       have hnone:look (l++q0e s1.rho g.keep) d=none:=by
        cases hh:look (l++q0e s1.rho g.keep) d with
        |none=>rfl
        |some u=>
         rw[q3Y] at hh
         cases hll:look l d with
         |some u2=>
          obtain⟨e2,he2,_⟩:=(q3b _ _ _ _ hf.ended.lets).1 d u2 hll
          exact absurd (List.mem_map.2 ⟨_,he2,rfl⟩) h4
         |none=>
          rw[hll] at hh
          exact absurd (q0I _ _ _ _ hh).1 h5
       have hlose:∀ p:Lost,look (lose p (l++q0e s1.rho g.keep)) d=none:=fun p=>by
        cases hh:look (lose p (l++q0e s1.rho g.keep)) d with
        |none=>rfl
        |some u=>
         obtain⟨y,hy,_⟩:=q46 _ _ _ _ hh
         rw[hnone] at hy;cases hy
       rcases hf.ended.wr with⟨_,he2⟩|⟨d0,wr,hw0,_,he2⟩|⟨d0,wr,H,v,p,nx,hw0,_,_,he2⟩
       ·subst he2;exact hnone
       ·subst he2;exact hnone
       ·subst he2
        cases d0 with
        |none=>exact hlose p
        |some d0=>
         simp only[look]
         split
         ·rename_i hdd
          subst hdd
          rcases hf.seg.wr with⟨_,hn0⟩|⟨r0,x0,hr0,hk0,hg0,_⟩
          ·rw[hn0] at hw0;cases hw0
          ·rw[hg0] at hw0
           simp only[Option.some.injEq,Prod.mk.injEq] at hw0
           have hqr:q.i≠r0.i:=fun e=>by
            obtain rfl:=hf.ok.good.inj q hq r0 hr0 e
            obtain⟨_,hkk,_⟩:=q2C hql
            rw[hk0] at hkk;cases hkk
           exact absurd hw0.1 (q5j hf.ok hq hr0 hqr hd)
         ·exact hlose p
theorem z0N{id:Nat}{gs:List Seg}{s s':S}{a:Act}{w:World}{F:Nat→Prop}{σ:Nat→Option Loc}(hm:P.follows .mixedOrders=true)(hK:K.Sound P)(hok:q4f P ops n gs=true)(hev:q09 K s gs=some s')(hst:StRel K X base w0 F0 m0 σ0 n s a w F σ)
  (hQ:∀ a w F σ,StRel K X base w0 F0 m0 σ0 n s' a w F σ→Q .normal a w):(Code.region id ops true).wp P Q a w:=by
 simp only[q4f,Bool.and_eq_true] at hok
 refine wp_region_any hm ?_
 have hno:∀ i,(Array.replicate ops.size false).getD i false=false:=by
  intro i
  simp only[Array.getD_eq_getD_getElem?,Array.getElem?_replicate]
  split <;> rfl
 refine q8e hK (q8n hok.2) s' hQ gs [] 0 s hok.1 hev (fun j hj=>by simp at hj) hst.dom hst.nxm hst.xm ops.size _ a _ (by simp) ?_ (fun i hi=>by omega) (fun i _ h=>by simp only[Li] at h;rw[hno] at h;cases h) (fun i _ h=>by simp only[Li] at h;rw[hno] at h;cases h) (fun g gs' he R s1 T s2 news l hf=>?_)
 ·unfold q0A
  refine Nat.le_trans (List.length_filter_le _ _) ?_
  simp
 ·refine(q0L (P:=P) (ops:=ops) (B:=tabB (z1h gs)) (R:=R) (s':=s2) hf.traced (hst.drawn _)).congr (fun r hr=>?_)
  exact⟨fun h=>h.elim,fun h=>by simp only[Li] at h;rw[hno] at h;cases h⟩
end Go.Vm
end

section
namespace Go.Vm
open Go.RowKit
variable {P:Program}{K:Cx}{n:Nat}{X:Nat→Nat→Prop}{base:Nat}{w0:World}{F0:Nat→Prop}{m0:Nat}{σ0:Nat→Option Loc}{ops:Array Oper}{Q:Exit→Act→World→Prop}
def q8F(π:List Nat)(o:Oper):Oper:={ o with after:=o.after.map fun e=>{ e with on:=π.idxOf e.on } }
def q3U(π:List Nat)(ops:Array Oper):Array Oper:=(π.map fun i=>q8F π ((ops[i]?).getD default)).toArray
def z7r(π:List Nat)(ops:Array Oper):Bool:=decide (π.length=ops.size)&&decide (π.Nodup)&&π.all (fun i=>decide (i<ops.size))&&(List.range ops.size).all (fun i=>π.contains i)&&ops.toList.all fun o=>o.guard.isNone
theorem z0d(π:List Nat)(o:Oper):q4k (q8F π o)=(q4k o).map π.idxOf:=by
 unfold q4k q8F
 simp only[Array.toList_map]
 induction o.after.toList with
 |nil=>rfl
 |cons e l ih=>
  simp only[List.map_cons,List.filter_cons]
  have hb:Region.binds .any ({ e with on:=π.idxOf e.on }:Edge)=Region.binds .any e:=rfl
  rw[hb]
  split
  ·simp only[List.map_cons,ih]
  ·exact ih
theorem j2k(π:List Nat)(o:Oper)(a:Act)(w:World)(Kn:Act→World→Prop):(q8F π o).wp P a w Kn Q↔o.wp P a w Kn Q:=Iff.rfl
structure Perm(π:List Nat)(ops:Array Oper):Prop where
 len:π.length=ops.size
 nd:π.Nodup
 mem:∀ i,i∈π↔i<ops.size
 gd:∀(i:Nat) (o:Oper),ops[i]? = some o→o.guard=none
theorem z7q{π:List Nat}(h:z7r π ops=true):Perm π ops:=by
 simp only[z7r,Bool.and_eq_true,decide_eq_true_eq,List.all_eq_true,List.contains_eq_mem,List.mem_range,Option.isNone_iff_eq_none] at h
 obtain⟨⟨⟨⟨h1,h2⟩,h3⟩,h4⟩,h5⟩:=h
 refine⟨h1,h2,fun i=>⟨h3 i,fun hi=>by simpa using h4 i hi⟩,fun i o ho=>h5 o ?_⟩
 exact Array.mem_toList_iff.2 (Array.mem_of_getElem? ho)
theorem q6f{π:List Nat}(h:Perm π ops):(q3U π ops).size=ops.size:=by simp [q3U,h.len]
theorem z8k{π:List Nat}(h:Perm π ops){i:Nat}(hi:i<ops.size):π.idxOf i<ops.size:=by
 rw[←h.len];exact List.idxOf_lt_length_of_mem ((h.mem i).2 hi)
theorem j4f{π:List Nat}(h:Perm π ops){i:Nat}(hi:¬ i<ops.size):π.idxOf i=ops.size:=by
 rw[←h.len];exact List.idxOf_eq_length (fun hm=>hi ((h.mem i).1 hm))
theorem z0m{π:List Nat}(h:Perm π ops){i:Nat}{o:Oper}(ho:ops[i]? = some o):(q3U π ops)[π.idxOf i]? = some (q8F π o):=by
 have hi:i<ops.size:=(Array.getElem?_eq_some_iff.1 ho).1
 have hm:=(h.mem i).2 hi
 have hg:π[π.idxOf i]? = some i:=by
  rw[List.getElem?_eq_getElem (List.idxOf_lt_length_of_mem hm)]
  simp
 simp only[q3U,List.getElem?_toArray,List.getElem?_map,hg,Option.map_some,ho,Option.getD_some]
theorem z5r{bs:List Nat}(hn:bs.Nodup){i b:Nat}(h:bs[i]? = some b):bs.idxOf b=i:=by
 obtain⟨hi,rfl⟩:=List.getElem?_eq_some_iff.1 h
 exact hn.idxOf_getElem i hi
theorem q9Q{π:List Nat}(h:Perm π ops){la lb:Array Bool}(ha:la.size=ops.size)(hb:lb.size=ops.size)(hl:∀ i,la.getD i false=lb.getD (π.idxOf i) false){i:Nat}(hi:i∈Region.ready .any ops la):π.idxOf i∈Region.ready .any (q3U π ops) lb:=by
 rw[q6l] at hi ⊢
 obtain⟨h1,h2,o,h3,h4⟩:=hi
 have hk:=z8k h h1
 refine⟨by rw[q6f h];exact hk,?_,_,z0m h h3,?_⟩
 ·have e1:lb.getD (π.idxOf i) true=lb.getD (π.idxOf i) false:=q6K lb (π.idxOf i) hb hk
  rw[e1,←hl,←q6K la i ha h1]
  exact h2
 ·rw[z0d]
  intro j hj
  obtain⟨j0,hj0,rfl⟩:=List.mem_map.1 hj
  rw[←hl]
  exact h4 j0 hj0
theorem z3W{π:List Nat}(h:Perm π ops):∀(fuel:Nat)(la lb:Array Bool)(a:Act)(w:World),la.size=ops.size→lb.size=ops.size→(∀ i,la.getD i false=lb.getD (π.idxOf i) false)→
  wpAny P .any (q3U π ops) Q fuel lb a w→wpAny P .any ops Q fuel la a w:=by
 have none_of:∀ {la lb:Array Bool},la.size=ops.size→lb.size=ops.size→(∀ i,la.getD i false=lb.getD (π.idxOf i) false)→Region.ready .any ops la=[]→Region.ready .any (q3U π ops) lb=[]:=by
  intro la lb ha hb hl h0
  refine List.eq_nil_iff_forall_not_mem.2 fun k hk=>?_
  rw[q6l] at hk
  obtain⟨k1,k2,o',k3,k4⟩:=hk
  rw[q6f h] at k1
  have hkm:k<π.length:=by rw[h.len];exact k1
  have hik:π.idxOf π[k]=k:=z5r h.nd (List.getElem?_eq_getElem hkm)
  have hi:π[k]<ops.size:=(h.mem _).1 (List.getElem_mem hkm)
  have ho:=Array.getElem?_eq_getElem hi
  have hg:=z0m h ho
  rw[hik,k3] at hg
  obtain rfl:=Option.some.inj hg
  have:π[k]∈Region.ready .any ops la:=by
   rw[q6l]
   refine⟨hi,?_,_,ho,fun j hj=>?_⟩
   ·rw[q6K la _ ha hi,hl,hik,←q6K lb k hb k1];exact k2
   ·rw[hl]
    refine k4 _ ?_
    rw[z0d]
    exact List.mem_map.2 ⟨j,hj,rfl⟩
  rw[h0] at this
  cases this
 intro fuel
 induction fuel with
 |zero=>
  intro la lb a w ha hb hl hw
  obtain⟨h1,h2⟩:=hw
  refine⟨List.eq_nil_iff_forall_not_mem.2 fun i hi=>?_,h2⟩
  have:=q9Q h ha hb hl hi
  rw[h1] at this
  cases this
 |succ fuel ih=>
  intro la lb a w ha hb hl hw
  obtain⟨h1,h2⟩:=hw
  refine⟨fun h0=>h1 (none_of ha hb hl h0),fun i hi=>?_⟩
  have hk:=h2 _ (q9Q h ha hb hl hi)
  rw[q6l] at hi
  obtain⟨q1,_,o,q3,_⟩:=hi
  have step:∀ a w,wpAny P .any (q3U π ops) Q fuel (lb.setIfInBounds (π.idxOf i) true) a w→wpAny P .any ops Q fuel (la.setIfInBounds i true) a w:=by
   intro a w hw
   refine ih _ _ a w (by simp [ha]) (by simp [hb]) (fun j=>?_) hw
   rw[q3c la i j (by omega) false,q3c lb (π.idxOf i) (π.idxOf j) (by rw[hb];exact z8k h q1) false,hl]
   by_cases hj:j=i
   ·subst hj;simp
   ·rw[if_neg hj]
    by_cases hjs:j<ops.size
    ·rw[if_neg]
     intro he
     have e1:π[π.idxOf j]'(List.idxOf_lt_length_of_mem ((h.mem j).2 hjs))=j:=by simp
     have e2:π[π.idxOf i]'(List.idxOf_lt_length_of_mem ((h.mem i).2 q1))=i:=by simp
     apply hj
     rw[←e1,←e2]
     congr 1
    ·rw[if_neg]
     intro he
     rw[j4f h hjs] at he
     have:=z8k h q1
     omega
  unfold wpOp at hk ⊢
  rw[z0m h q3] at hk
  rw[q3]
  have hg:=h.gd i o q3
  have w1:∀ y,Region.wanted (q8F π o) y=true:=fun y=>by
   have:(q8F π o).guard=none:=hg
   simp [Region.wanted,this]
  have w2:∀ y,Region.wanted o y=true:=fun y=>by simp [Region.wanted,hg]
  simp only[w1,w2,if_true] at hk ⊢
  exact hk.imp (fun h=>Oper.wp_mono step ((j2k π o a w _).1 h)) (fun h=>h)
def q6J(P:Program)(ops:Array Oper)(n:Nat)(π:List Nat)(gs:List Seg):Bool:=z7r π ops&&q4f P (q3U π ops) n gs
theorem z5W{π:List Nat}{gs:List Seg}{s s':S}{a:Act}{w:World}{F:Nat→Prop}{σ:Nat→Option Loc}(hK:K.Sound P)(hok:q6J P ops n π gs=true)(hev:q09 K s gs=some s')(hst:StRel K X base w0 F0 m0 σ0 n s a w F σ)
  (hQ:∀ a w F σ,StRel K X base w0 F0 m0 σ0 n s' a w F σ→Q .normal a w):wpAny P .any ops Q ops.size (Array.replicate ops.size false) a { w with drawn:=w.drawn+1 }:=by
 simp only[q6J,q4f,Bool.and_eq_true] at hok
 obtain⟨hpm,hok⟩:=hok
 have hp:=z7q hpm
 refine z3W hp ops.size _ (Array.replicate ops.size false) a _ (by simp) (by simp) (fun i=>?_) ?_
 ·simp only[Array.getD_eq_getD_getElem?,Array.getElem?_replicate]
  split <;> split <;> rfl
 have hsz:=q6f hp
 generalize q3U π ops=ops' at hok hsz
 rw[←hsz]
 have hno:∀ i,(Array.replicate ops'.size false).getD i false=false:=by
  intro i
  simp only[Array.getD_eq_getD_getElem?,Array.getElem?_replicate]
  split <;> rfl
 refine q8e (ops:=ops') hK (q8n hok.2) s' hQ gs [] 0 s hok.1 hev (fun j hj=>by simp at hj) hst.dom hst.nxm hst.xm ops'.size _ a _ (by simp) ?_ (fun i hi=>by omega) (fun i _ h=>by simp only[Li] at h;rw[hno] at h;cases h) (fun i _ h=>by simp only[Li] at h;rw[hno] at h;cases h) (fun g gs' he R s1 T s2 news l hf=>?_)
 ·unfold q0A
  refine Nat.le_trans (List.length_filter_le _ _) ?_
  simp
 ·refine(q0L (P:=P) (ops:=ops') (B:=tabB (z1h gs)) (R:=R) (s':=s2) hf.traced (hst.drawn _)).congr (fun r hr=>?_)
  exact⟨fun h=>h.elim,fun h=>by simp only[Li] at h;rw[hno] at h;cases h⟩
end Go.Vm
end

section
namespace Go.Vm
open Go.RowKit
section
variable {P:Program}{w:World}{F:Nat→Prop}{X:Nat→Nat→Prop}{base nx:Nat}{σ:Nat→Option Loc}{K:Cx}{s:S}{a:Act}{o:Oper}{env:Env}{H:List (Nat×Blk)}{bs:List Nat}{Q:Exit→Act→World→Prop}
theorem z8y{v:V}{pv:Value}(h:v.flatP=true)(hR:RepV w F base σ pv v):PanV pv v:=by
 intro w' F' base' σ'
 have one:∀ {u:V} {uv:Value},u.flatD=true→RepV w F base σ uv u→RepV w' F' base' σ' uv u:=by
  intro u uv hu hr
  cases u with
  |d c x=>cases hr with|d _ _ _ hd=>exact .d _ _ _ (hd.flat hu)
  |_=>simp [V.flatD] at hu
 cases v with
 |d c x=>cases hR with|d _ _ _ hd=>exact .d _ _ _ (hd.flat h)
 |iface t u=>
  cases hR with
  |iface _ v' _ hu=>
   refine .iface _ _ _ ?_
   cases u with
   |agg cs=>
    cases hu with
    |agg vs _ h1 h2 h3=>
     simp only[V.flatP,List.all_eq_true] at h
     exact .agg _ _ h1 (fun j v x hv hx=>one (h x (List.mem_of_getElem? hx)) (h2 j v x hv hx)) h3
   |d c x=>exact one h hu
   |_=>simp [V.flatP,V.flatD] at h
 |_=>simp [V.flatP] at h
theorem z04{f:FuncId}{vals:Array Value}{c:Call}{fv:Operand}{first caps:Array Value}(ho:o.op=.call c)(hc:c.callee=.value fv)(hf:a.eval fv=.func (.func f) #[] caps)(hcl:q0p P f=true)(hv:vals=c.args.map a.eval++caps)
  {R:Value→World→Prop} (hcalls:Calls P f vals w fun e w'=>∃ pv,e=.panicked [{ v:=pv,recovered:=false }]∧R pv w') {next:Act→World→Prop} (hn:∀ pv w',R pv w'→Q (.panic [{ v:=pv,recovered:=false }]) a w'):o.wp P a w next Q:=by
 unfold Oper.wp
 have hrun:(execOp a.eval o).run P w=.ok (.enter f vals) w:=by
  simp only[execOp,ho,resolve,hc,hf,Deferred.ofValue,Sem.run_bind,Sem.run_pure,Result.andThen_ok,invoke,Array.empty_append,←hv,q3g hcl]
 rw[hrun]
 exact hcalls.mono fun e w' ⟨v,he,hR⟩=>by subst he;exact hn v w' hR
theorem z7S{wr:Wr}(h:mapK P env o=some wr):(∃ kk m k v,wr=.mset kk m k v)∨∃ m,wr=.mclr m:=by
 unfold mapK at h
 repeat' (split at h)
 all_goals first
  |(cases h;done)
  |(simp only[Option.some.injEq] at h;exact .inl ⟨_,_,_,_,h.symm⟩)
  |(simp only[Option.some.injEq] at h;exact .inr ⟨_,h.symm⟩)
structure Gone(w w':World)(F F':Nat→Prop)(X:Nat→Nat→Prop)(base:Nat)(σ:Nat→Option Loc)(bs:List Nat):Prop where
 frame:Frame X base w w'
 froz:∀ b,F b→F' b∧w'.heap[b]? = w.heap[b]?
 newf:∀ b,F' b→F b∨w.heap.size≤b
 fro:∀ b,F' b→b<w'.heap.size
 out:∀ b l,b∉bs→σ b=some l→w'.heap[l.blk]? = w.heap[l.blk]?
theorem q6g(hK:K.Sound P)(hH:HeapRel w F X base σ nx H)(hG:GlobRel w F K.glob)(hb:base≤w.heap.size){f:FuncId}{vs:List V}{vals:Array Value}{keep:List Nat}{nx':Nat}{r:Ex×S}
  (hv:Reps w F base σ vals vs) (hr:q8C K s nx' H keep f vs bs=some r) :
  ∃ v,r=(.pan v,panS s nx' keep bs)∧q0p P f=true∧Calls P f vals w fun e w'=>∃ pv,e=.panicked [{ v:=pv,recovered:=false }]∧PanV pv v∧∃ F',Gone w w' F F' X base σ bs:=by
 unfold q8C at hr
 split at hr
 case isFalse=>cases hr
 rename_i hc
 simp only[Bool.and_eq_true,decide_eq_true_eq,List.all_eq_true] at hc
 obtain⟨⟨hnd,hwi⟩,hcl⟩:=hc
 cases hb1:handed H bs with
 |none=>simp [hb1] at hr
 |some blks=>
  simp only[hb1] at hr
  cases hef:K.pan f (vs.map fun v=>v.dim.ren bs.idxOf) blks with
  |none=>simp [hef] at hr
  |some v=>
   simp only[hef,Option.some.injEq] at hr
   subst hr
   obtain⟨hcal,hcon⟩:=hK.pan f _ _ _ hef
   refine⟨v,rfl,hcal,?_⟩
   obtain⟨l1,l2⟩:=q0n hb1
   simp only[closedB,List.all_eq_true] at hcl
   have hin:∀ b∈bs,∃ k,look H b=some k∧k.within bs.contains=true:=fun b hm=>by
    have:=hcl b hm
    split at this
    ·rename_i k hk;exact⟨k,hk,this⟩
    ·cases this
   have hidx:∀ b l,bs.contains b=true→σ b=some l→inn bs σ (bs.idxOf b)=some l:=fun b l h1 h2=>by rw[z0B (by simpa using h1)];exact h2
   have hcc:∀ c b,col F w.heap.size c b→col F w.heap.size c b:=fun _ _ h=>h
   have blk_at:∀(i:Nat) (k:Blk),blks[i]? = some k→∃ b k0,bs[i]? = some b∧look H b=some k0∧k0.within bs.contains=true∧k=k0.dim.ren bs.idxOf:=by
    intro i k hk
    have hi:i<bs.length:=by rw[←l1];exact(List.getElem?_eq_some_iff.1 hk).1
    obtain⟨y,hy,hz⟩:=l2 i _ (List.getElem?_eq_getElem hi)
    rw[hk] at hy
    obtain rfl:=Option.some.inj hy
    obtain⟨k0,h1,h2⟩:=hin _ (List.getElem_mem hi)
    simp only[h1,Option.map_some,Option.some.injEq] at hz
    exact⟨_,k0,List.getElem?_eq_getElem hi,h1,h2,hz.symm⟩
   have wdim:∀(k:Blk),k.within bs.contains=true→k.dim.within bs.contains=true:=by
    intro k hk
    cases k with
    |dat=>rfl
    |mix kk rows=>
     simp only[Blk.dim,Blk.within,List.all_eq_true,List.mem_map,forall_exists_index,and_imp,forall_apply_eq_imp_iff₂] at hk ⊢
     intro row hrow
     rw[q21]
     exact hk row hrow
    |map es=>
     simp only[Blk.dim,Blk.within,List.all_eq_true,List.mem_map,forall_exists_index,and_imp,forall_apply_eq_imp_iff₂] at hk ⊢
     intro q hq
     rw[q3E]
     exact hk q hq
   have hheap:HeapRel w F (OwnB (inn bs σ)) w.heap.size (inn bs σ) blks.length (indexed blks):=by
    refine⟨fun i k hi=>?_,fun i j l l' h1 h2 he=>?_,fun i l hi=>?_,hH.fro⟩
    ·rw[q5a] at hi
     obtain⟨b,k0,h1,h2,h3,rfl⟩:=blk_at i k hi
     have hσi:inn bs σ i=σ b:=by unfold inn;rw[h1]
     refine((hH.blk b k0 h2).dim w.heap.size).ren (w':=w) (F':=F) (p:=bs.contains) (fun b hb=>⟨hb,rfl⟩) hcc hidx (wdim k0 h3) (fun l hl=>by rw[hσi];exact hl) (fun hl=>by rw[hσi];exact hl) (fun _ _=>rfl)
    ·obtain⟨b,hb1',h3⟩:=q1M h1
     obtain⟨b',hb2,h4⟩:=q1M h2
     obtain rfl:=hH.inj b b' l l' h3 h4 he
     exact(List.getElem?_inj (List.getElem?_eq_some_iff.1 hb1').1 hnd).1 (hb1'.trans hb2.symm)
    ·obtain⟨b,hb1',h3⟩:=q1M hi
     obtain⟨_,h5,_,h6⟩:=hH.own b l h3
     exact⟨by rw[l1];exact(List.getElem?_eq_some_iff.1 hb1').1,h5,.inr ⟨l,hi,rfl⟩,h6⟩
   have hargs:Reps w F w.heap.size (inn bs σ) vals (vs.map fun v=>v.dim.ren bs.idxOf):=by
    refine⟨by simpa using hv.1,fun j v x hvj hx=>?_⟩
    simp only[List.getElem?_map,Option.map_eq_some_iff] at hx
    obtain⟨y,hy,rfl⟩:=hx
    exact((hv.2 j v y hvj hy).dim w.heap.size).ren hcc hidx (by rw[q3E];exact hwi y (List.mem_of_getElem? hy))
   refine(hcon w F (inn bs σ) vals hG hheap hargs).mono fun e w' ⟨pv,F',he,hpv,hfr,hF1,hF2,hF3⟩=>?_
   have hown:∀ k i,OwnB (inn bs σ) i k→∃ b l,b∈bs∧σ b=some l∧l.blk=k:=by
    rintro k i ⟨l,hi,rfl⟩
    obtain⟨b,hb',h3⟩:=q1M hi
    exact⟨b,l,List.mem_of_getElem? hb',h3,rfl⟩
   refine⟨pv,he,hpv,F',⟨⟨hfr.os,hfr.tape,hfr.output,hfr.size,fun k hk hx=>hfr.block k (by omega) ?_⟩,fun b hb'=>⟨hF1 b hb',hfr.block b (hH.fro b hb') ?_⟩,hF2,hF3,fun b l hnb hl=>hfr.block _ (hH.own b l hl).2.2.2 ?_⟩⟩
   ·intro i hi
    obtain⟨b,l,_,h3,rfl⟩:=hown k i hi
    rcases(hH.own b l h3).2.2.1 with h|h
    ·omega
    ·exact hx b h
   ·intro i hi
    obtain⟨b',l,_,h3,rfl⟩:=hown b i hi
    exact(hH.own b' l h3).2.1 hb'
   ·intro i hi
    obtain⟨b',l',hb',h3,he'⟩:=hown _ i hi
    obtain rfl:=hH.inj b' b l' l h3 hl he'
    exact hnb hb'
theorem z1D{f:FuncId}{ea:E}{s0:S}{keep:List Nat}{r:Ex×S}(hw:effK P env o=some (f,ea))(hp:q4j K s0 s H keep (.calle f ea)=some r)
  (hops:∀ x∈o.op.operands.toList,Held P K s env w F base σ a x) (hK:K.Sound P) (hH:HeapRel w F X base σ nx H) (hG:GlobRel w F K.glob) (hb:base≤w.heap.size) {next:Act→World→Prop}
  (hn:∀ pv v bs w' F',r=(.pan v,panS s0 s.nx keep bs)→PanV pv v→Gone w w' F F' X base σ bs→Q (.panic [{ v:=pv,recovered:=false }]) a w'):o.wp P a w next Q:=by
 unfold effK at hw
 cases hop:o.op with
 |call c=>
  obtain⟨callee,args,argTypes⟩:=c
  simp only[hop] at hw
  cases callee with
  |value fv=>
   cases fv with
   |func g=>
    simp only at hw
    split at hw
    case isFalse=>cases hw
    rename_i hcl
    simp only[Bool.and_eq_true,bne_iff_ne,ne_eq] at hcl
    obtain⟨hcl,hnd⟩:=hcl
    simp only[Option.map_eq_some_iff] at hw
    obtain⟨es,hes,he⟩:=hw
    simp only[Prod.mk.injEq] at he
    obtain⟨rfl,rfl⟩:=he
    simp only[q4j] at hp
    cases hvs:ev K s (q3z es) with
    |none=>simp [hvs] at hp
    |some vv=>
     obtain⟨vs,rfl,hmo⟩:=q3p K s es vv hvs
     have hnd':(g==dynF)=false:=by simpa using hnd
     simp only[hvs,q1I,hnd',Bool.false_eq_true,if_false] at hp
     have hreps:=q3i (t:=fun i=>argTypes.getD i 0) (a:=a) (args:=args.toList) (fun x hx=>by
      intro t e r he hr
      exact hops x (by simp [hop,Op.operands,Call.operands];exact .inr (by simpa using hx)) t e r he hr) 0 hes hmo
     simp only[Array.toArray_toList] at hreps
     obtain⟨v,hrv,_,hc⟩:=q6g hK hH hG hb hreps hp
     exact z04 (first:=#[]) (R:=fun pv w'=>PanV pv v∧∃ F',Gone w w' F F' X base σ _) hop rfl rfl hcl (by simp) (hc.mono fun e w' ⟨pv,he,h1,h2⟩=>⟨pv,he,h1,h2⟩) fun pv w' ⟨h1,F',h2⟩=>hn pv v _ w' F' hrv h1 h2
   |tmp t=>
    simp only[Option.map_eq_some_iff] at hw
    obtain⟨es,hes,he⟩:=hw
    simp only[Prod.mk.injEq] at he
    obtain⟨rfl,rfl⟩:=he
    simp only[q4j,ev] at hp
    cases hfv:ev K s (env.get t) with
    |none=>simp [hfv] at hp
    |some fv=>
     cases hvs:ev K s (q3z es) with
     |none=>simp [hfv,hvs] at hp
     |some vv=>
      obtain⟨vs,rfl,hmo⟩:=q3p K s es vv hvs
      simp only[hfv,hvs] at hp
      cases fv with
      |fn f caps=>
       simp only[q1I,beq_self_eq_true,if_true] at hp
       have hreps:=q3i (t:=fun i=>argTypes.getD i 0) (a:=a) (args:=args.toList) (fun x hx=>by
        intro t e r he hr
        exact hops x (by simp [hop,Op.operands,Call.operands];exact .inr (by simpa using hx)) t e r he hr) 0 hes hmo
       simp only[Array.toArray_toList] at hreps
       have hfun:=hops (.tmp t) (by simp [hop,Op.operands,Call.operands]) 0 _ _ rfl hfv
       generalize hfe:a.eval (.tmp t)=fval at hfun
       cases hfun with
       |fn _ cs _ g1 g2=>
        have hall:Reps w F base σ (args.map a.eval++cs) (vs++caps):=by
         refine⟨by have:=hreps.1;simp only[Array.size_append,List.length_append];omega,fun j v x hv hx=>?_⟩
         have hsz:(args.map a.eval).size=vs.length:=hreps.1
         rw[Array.getElem?_append] at hv
         rw[List.getElem?_append] at hx
         by_cases hj:j<vs.length
         ·rw[if_pos (by omega)] at hv
          rw[if_pos hj] at hx
          exact hreps.2 j v x hv hx
         ·rw[if_neg (by omega)] at hv
          rw[if_neg hj] at hx
          rw[hsz] at hv
          exact g2 _ v x hv hx
        obtain⟨v,hrv,hcl,hc⟩:=q6g hK hH hG hb hall hp
        exact z04 (first:=#[]) (R:=fun pv w'=>PanV pv v∧∃ F',Gone w w' F F' X base σ _) hop rfl hfe hcl rfl (hc.mono fun e w' ⟨pv,he,h1,h2⟩=>⟨pv,he,h1,h2⟩) fun pv w' ⟨h1,F',h2⟩=>hn pv v _ w' F' hrv h1 h2
      |_=>simp [q1I] at hp
   |_=>simp at hw
  |_=>simp at hw
 |_=>simp [hop] at hw
theorem z28{e:E}{s0:S}{keep:List Nat}{r:Ex×S}(hw:panK P env o=some e)(hp:q4j K s0 s H keep (.panic e)=some r)
  (hops:∀ x∈o.op.operands.toList,Held P K s env w F base σ a x) {next:Act→World→Prop}
  (hn:∀ pv v,r=(.pan v,panS s0 s.nx keep [])→PanV pv v→Q (.panic [{ v:=pv,recovered:=false }]) a w):o.wp P a w next Q:=by
 unfold panK at hw
 cases hop:o.op with
 |panic x=>
  simp only[hop] at hw
  simp only[q4j] at hp
  cases hv:ev K s e with
  |none=>simp [hv] at hp
  |some v=>
   simp only[hv] at hp
   split at hp
   case isFalse=>cases hp
   rename_i hc
   simp only[Bool.and_eq_true] at hc
   obtain⟨hf,hi⟩:=hc
   have hR:=hops x (by simp [hop,Op.operands]) 0 e v hw hv
   have hpv:=z8y hf hR
   generalize hav:a.eval x=av at hR hpv
   cases v with
   |iface t u=>
    cases hR with
    |iface _ v' _ hu=>
     have:=hn _ _ (Option.some.inj hp).symm hpv
     unfold Oper.wp
     have hrun:(execOp a.eval o).run P w=.halt (.panic (.iface t v')) w:=by
      simp only[execOp,hop,hav,Sem.run_bind,run_panic_iface,Result.andThen]
     rw[hrun]
     exact this
   |_=>simp [V.isIf] at hi
 |_=>simp [hop] at hw
end
variable {c:Piece}{D:Nat→Prop}{a:Act}{w:World}{F:Nat→Prop}{σ:Nat→Option Loc}{g:Seg}{news:List Blk}{is:List Nat}{r:Ex×S}
structure PanP(c:Piece)(is:List Nat)(g:Seg)(news:List Blk)(r:Ex×S):Prop where
 ok:c.Ok
 seg:SegOk c.B c.P c.ops c.n is g c.R
 traced:Traced c.K c.s c.s1 news g.mks c.T
 wr:∃ d wr,g.wr=some (d,wr)∧wonB c.K c.s1 g.wg=some true∧q4j c.K c.s c.s1 (addBlks c.s.heap c.s.nx news) (q1l g) wr=some r
 nxm:c.m≤c.s.nx
 xm:∀ b k,c.X b k→b<c.m
theorem PanP.nx(h:PanP c is g news r):c.s.nx≤c.s1.nx:=by rw[h.traced.nx];omega
def PSt(c:Piece)(D:Nat→Prop)(a:Act)(w:World):Prop:=(∀ r∈c.R,D r.i→r.isWr=false)∧∃ F σ,Inv c D a w F σ
theorem z7s(h:PanP c is g news r)(hi:Inv c D a w F σ){w':World}{F':Nat→Prop}{bs:List Nat}(hg:Gone w w' F F' c.X c.base σ bs) :
  ∃ σ',StRel c.K c.X c.base c.w0 c.F0 c.m c.σ0 c.n (panS c.s c.s1.nx (q1l g) bs) a w' F' σ':=by
 have hs0:∀ b l,σ b=some l→b∉bs→(fun b=>if bs.contains b then none else σ b) b=some l:=fun b l hl hn=>by simp [hn,hl]
 have hs1:∀ b l,(fun b=>if bs.contains b then none else σ b) b=some l→b∉bs∧σ b=some l:=fun b l hl=>by
  simp only at hl
  split at hl
  ·cases hl
  ·rename_i hn;exact⟨by simpa using hn,hl⟩
 have hlk:∀ b blk,look ((q0q bs c.s.heap).filter fun p=>!bs.contains p.1) b=some blk→b∉bs∧∃ k0,look c.s.heap b=some k0∧(bs=[]∧blk=k0∨blk=k0.forget bs.contains):=fun b blk hb=>by
  obtain⟨h1,h2⟩:=q4c (fun b=>!bs.contains b) _ _ _ hb
  exact⟨by simpa using h1,q7c _ _ _ h2⟩
 refine⟨fun b=>if bs.contains b then none else σ b,⟨⟨fun b blk hb=>?_,fun b b' l l' h1 h2 he=>hi.heap.inj b b' l l' (hs1 b l h1).2 (hs1 b' l' h2).2 he,fun b l hl=>?_,hg.fro⟩,hi.glob.mono hg.froz,Nat.le_trans hi.le hg.frame.size,hi.frame.trans hg.frame,fun b hb=>?_,hi.size,hi.dfr,fun t v hv=>?_,fun b blk hb=>?_,fun b l hb h0 hm=>?_,Nat.le_trans h.nxm h.nx,h.xm,fun b hb=>(hg.froz b (hi.sub b hb)).1⟩⟩
 ·obtain⟨hnb,k0,h1,h2⟩:=hlk b blk hb
  have hnone:σ b=none→(fun b=>if bs.contains b then none else σ b) b=none:=fun h0=>by simp [h0]
  rcases h2 with⟨hb0,rfl⟩|rfl
  ·exact(hi.heap.blk b blk h1).mono hg.froz (fun b l hl=>hs0 b l hl (by rw[hb0];simp)) hnone (fun l hl=>hg.out b l hnb hl)
  ·exact(hi.heap.blk b k0 h1).forget _ hg.froz (fun b l hl hp=>hs0 b l hl (by simpa using hp)) (fun l hl=>hs0 b l hl hnb) hnone (fun l hl=>hg.out b l hnb hl)
 ·obtain⟨_,hl'⟩:=hs1 b l hl
  obtain⟨o1,o2,o3,o4⟩:=hi.heap.own b l hl'
  refine⟨o1,fun hF'=>?_,o3,Nat.lt_of_lt_of_le o4 hg.frame.size⟩
  rcases hg.newf _ hF' with h1|h1
  ·exact o2 h1
  ·omega
 ·rcases hg.newf b hb with h1|h1
  ·exact hi.frz b h1
  ·exact .inr (Nat.le_trans hi.le h1)
 ·obtain⟨y,hy,rfl⟩:=q46 _ _ _ _ hv
  obtain⟨hk,hy⟩:=q0I _ _ _ _ hy
  simp only[q1l,List.mem_filter,Bool.not_eq_true',List.contains_eq_mem,decide_eq_false_iff_not] at hk
  refine(hi.old t y hy (fun q hq _=>?_)).loseMany hg.froz (fun b l hl hn=>hs0 b l hl hn)
  rcases h.seg.keep t hk.1 with h1|h1
  ·exact absurd h1 hk.2
  ·exact h1 q hq
 ·obtain⟨_,k0,h1,_⟩:=hlk b blk hb
  exact Nat.lt_of_lt_of_le (h.ok.dom b k0 h1) h.nx
 ·simp only[panS,List.mem_append,not_or] at hm
  exact hs0 b l (hi.stab b l hb h0 hm.2) hm.1
theorem z0n(h:PanP c is g news r)(hs:PSt c D a w){q:Rec}(hr:q∈c.R)(hD:¬ D q.i)(hdown:∀ p∈c.R,D p.i→∀ p'∈c.R,c.B p'.i p.i=true→D p'.i)(hpre:∀ p∈c.R,c.B p.i q.i=true→D p.i)
  {Kn:Act→World→Prop} {Q:Exit→Act→World→Prop} (hK:∀ a w,PSt c (plus D q.i) a w→Kn a w)
  (hQ:∀ pv v s' a w F σ,r=(.pan v,s')→PanV pv v→StRel c.K c.X c.base c.w0 c.F0 c.m c.σ0 c.n s' a w F σ→Q (.panic [{ v:=pv,recovered:=false }]) a w):wpOp c.P c.ops Q q.i Kn a w:=by
 obtain⟨hno,F,σ,hi⟩:=hs
 have lastwr:∀ q∈c.R,q.isWr=true→∀ p∈c.R,p≠q→p.isWr=false∧(c.B p.i q.i=true∨q30 g.late p=true):=by
  intro q hq hqw p hp hne
  rcases h.seg.wr with⟨hn,_⟩|⟨r0,x,hR,hk,_,_,hb⟩
  ·rw[hn q hq] at hqw;cases hqw
  ·have hq0:q=r0:=by
    rcases hb q hq with e|⟨e,_⟩
    ·exact h.ok.good.inj q hq r0 hR e
    ·rw[e] at hqw;cases hqw
   subst hq0
   rcases hb p hp with e|e
   ·exact absurd (h.ok.good.inj p hp q hq e) hne
   ·exact e
 cases hw:q.isWr with
 |false=>
  refine z66 h.ok hi hno hr hw hD hdown hpre fun a w F σ hi'=>hK a w ⟨fun p hp hpD=>?_,F,σ,hi'⟩
  rcases hpD with hpD|hpi
  ·exact hno p hp hpD
  ·obtain rfl:=h.ok.good.inj p hp q hr hpi
   exact hw
 |true=>
  have hall:∀ p∈c.R,p.isMk=true→D p.i:=by
   intro p hp hpm
   have hne:p≠q:=by
    rintro rfl
    unfold Rec.isMk at hpm
    unfold Rec.isWr at hw
    split at hpm
    ·rename_i hk;rw[hk] at hw;cases hw
    ·cases hpm
   rcases(lastwr q hr hw p hp hne).2 with hb|hb
   ·exact hpre p hp hb
   ·rw[(q2C hb).choose_spec.2.2.2.2.2.2.2] at hpm;cases hpm
  have hheap:=z2A h.ok h.traced hi hall
  obtain⟨later,done,hR,hg⟩:=h.ok.good.split hr
  have hheld:=fun x ch hx hxo hw=>z3l h.ok hi hno (x:=x) (ch:=ch) hR hg hD hdown hpre hx hxo hw
  have hwant:=q6W h.ok hi hno hr hpre
  cases hg with
  |cons _ _ hgd hop hkd hch hn=>
   unfold wpOp
   rw[hop]
   simp only
   obtain⟨x,hk⟩:∃ x,q.kd=.wr x:=by
    unfold Rec.isWr at hw
    split at hw
    ·rename_i x hk;exact⟨x,hk⟩
    ·cases hw
   have hgw2:g.wr=some (q.o.dst,x)∧g.wg=q.ch:=by
    rcases h.seg.wr with⟨hn,_⟩|⟨r0,x0,hR0,hk0,hg0,hg1,_⟩
    ·rw[hn q hr] at hw;cases hw
    ·have h0:r0∈c.R:=hR0
     by_cases he:r0=q
     ·subst he
      rw[hk] at hk0
      simp only[Kd.wr.injEq] at hk0
      rw[hk0]
      exact⟨hg0,hg1⟩
     ·have:=(lastwr q hr hw r0 h0 he).1
      simp [Rec.isWr,hk0] at this
   obtain⟨hgw,hgc⟩:=hgw2
   obtain⟨d,wr,hw0,hwb,hpw⟩:=h.wr
   rw[hgw] at hw0
   have hwon:Won c.K c.s1 q.ch:=by rw[←hgc];exact q8h hwb
   rw[if_pos (hwant.2 hwon)]
   refine .inl ?_
   simp only[Option.some.injEq,Prod.mk.injEq] at hw0
   obtain⟨rfl,rfl⟩:=hw0
   have hnp:∀ cc x y,q.o.op≠.pick cc x y:=by
    intro cc x y hp
    rw[hk] at hkd
    simp only[kdOf] at hkd
    split at hkd
    ·cases hm:mkK c.P (q0Z done) q.o <;> simp [hm] at hkd
    ·split at hkd
     ·simp [effK,hp] at hkd
     ·split at hkd
      ·simp at hkd
      ·simp [wrK,q6a,appK,z1M,panK,mapK,hp] at hkd
   have hops:∀ y∈q.o.op.operands.toList,Held c.P c.K c.s1 (q0Z done) w F c.base σ a y:=by
    intro y hy
    refine hheld y q.ch ?_ hy hwon
    unfold q7Q
    split
    ·rename_i hp;exact absurd hp (hnp _ _ _)
    ·exact List.mem_map.2 ⟨y,hy,rfl⟩
   have hwk:(∃ f e,x=.calle f e∧effK c.P (q0Z done) q.o=some (f,e))∨wrK c.P (q0Z done) q.o=some x:=by
    rw[hk] at hkd
    simp only[kdOf] at hkd
    split at hkd
    ·cases hm:mkK c.P (q0Z done) q.o <;> simp [hm] at hkd
    ·split at hkd
     ·cases hm:effK c.P (q0Z done) q.o with
      |none=>simp [hm] at hkd
      |some y=>
       obtain⟨f,e⟩:=y
       simp only[hm,Option.map_some,Option.some.injEq,Kd.wr.injEq] at hkd
       exact .inl ⟨f,e,hkd.symm,rfl⟩
     ·split at hkd
      ·simp at hkd
      ·cases hm:wrK c.P (q0Z done) q.o with
       |none=>simp [hm] at hkd
       |some y=>
        simp only[hm,Option.map_some,Option.some.injEq,Kd.wr.injEq] at hkd
        exact .inr (by rw[hkd])
   rcases hwk with⟨f,e,rfl,hek⟩|hwk
   ·refine z1D hek hpw hops h.ok.sound hheap hi.glob hi.le fun pv v bs w' F' hrv hpv hgo=>?_
    obtain⟨σ',hst⟩:=z7s h hi hgo
    exact hQ pv v _ a w' F' σ' hrv hpv hst
   ·cases hpk:panK c.P (q0Z done) q.o with
    |none=>
     exfalso
     unfold wrK at hwk
     cases hsk:q6a c.P (q0Z done) q.o with
     |some y=>obtain⟨n,ea,ee⟩:=y;simp only[hsk,Option.some.injEq] at hwk;subst hwk;simp [q4j] at hpw
     |none=>
      simp only[hsk] at hwk
      cases hak:appK c.P (q0Z done) q.o with
      |some y=>obtain⟨k,ea,eb⟩:=y;simp only[hak,Option.some.injEq] at hwk;subst hwk;simp [q4j] at hpw
      |none=>
       simp only[hak] at hwk
       cases hmk:z1M c.P (q0Z done) q.o with
       |some em=>simp only[hmk,Option.some.injEq] at hwk;subst hwk;simp [q4j] at hpw
       |none=>
        simp only[hmk,hpk] at hwk
        rcases z7S hwk with⟨kk,m,k,v,rfl⟩|⟨m,rfl⟩ <;> simp [q4j] at hpw
    |some e=>
     have hop':∃ y,q.o.op=.panic y:=by
      unfold panK at hpk
      split at hpk
      ·rename_i y hy;exact⟨y,hy⟩
      ·cases hpk
     obtain⟨y,hy⟩:=hop'
     have:x=.panic e:=by
      simp only[wrK,q6a,appK,z1M,hy,hpk,Option.some.injEq] at hwk
      exact hwk.symm
     subst this
     refine z28 hpk hpw hops fun pv v hrv hpv=>?_
     obtain⟨σ',hst⟩:=z7s h hi (w':=w) (F':=F) (bs:=[]) ⟨.refl _ _ _,fun b hb=>⟨hb,rfl⟩,fun b hb=>.inl hb,hi.heap.fro,fun _ _ _ _=>rfl⟩
     exact hQ pv v _ a w F σ' hrv hpv hst
theorem z7t(h:PanP c is g news r)(hs:PSt c D a w)(hall:∀ q∈c.R,D q.i):False:=by
 obtain⟨d,wr,hw,_⟩:=h.wr
 rcases h.seg.wr with⟨_,hn⟩|⟨r0,x,hR,hk,_⟩
 ·rw[hn] at hw;cases hw
 ·have h0:r0∈c.R:=hR
  have:=hs.1 r0 h0 (hall r0 h0)
  simp [Rec.isWr,hk] at this
end Go.Vm
end

section
namespace Go.Vm
open Go.RowKit
variable {P:Program}{K:Cx}{n:Nat}{X:Nat→Nat→Prop}{base:Nat}{w0:World}{F0:Nat→Prop}{m0:Nat}{σ0:Nat→Option Loc}{ops:Array Oper}{Q:Exit→Act→World→Prop}
def PanQ(K:Cx)(X:Nat→Nat→Prop)(base:Nat)(w0:World)(F0:Nat→Prop)(m0:Nat)(σ0:Nat→Option Loc)(n:Nat)(Q:Exit→Act→World→Prop)(r:Ex×S):Prop:=
 ∀ pv v s' a w F σ,r=(.pan v,s')→PanV pv v→StRel K X base w0 F0 m0 σ0 n s' a w F σ→Q (.panic [{ v:=pv,recovered:=false }]) a w
theorem z0p{B:Nat→Nat→Bool}{is:List Nat}{g:Seg}{s:S}{r:Ex×S}(hok:q9y B P ops n is g=true)(hK:K.Sound P)(hp:q4T K s g=some r)(hdom:∀ b blk,look s.heap b=some blk→b<s.nx)(hnm:m0≤s.nx)(hxm:∀ b k,X b k→b<m0) :
  ∃ R s1 T news,PanP (q0F P K ops B n R g s s1 T X base w0 F0 m0 σ0) is g news r:=by
 obtain⟨R,hs⟩:=q8w hok
 unfold q4T at hp
 cases h1:q2A K s g.mks with
 |none=>simp [h1] at hp
 |some q=>
  obtain⟨s1,news⟩:=q
  simp only[h1] at hp
  cases h2:q2U K s1 g.lets with
  |none=>simp [h2] at hp
  |some l=>
   simp only[h2] at hp
   split at hp
   case isFalse=>cases hp
   rename_i h3
   cases h4:g.wr with
   |none=>simp [h4] at hp
   |some q=>
    obtain⟨d,wr⟩:=q
    simp only[h4] at hp
    split at hp
    case h_2=>cases hp
    rename_i hwb
    obtain⟨T,hT⟩:=traced K g.mks s s1 news hs.mks h1
    refine⟨R,s1,T,news,⟨z1B hs (z1w h2 h3 hT) (fun _=>⟨_,hwb⟩) (fun _ e he=>?_) hT hK hdom,hs,hT,⟨d,wr,h4,hwb,hp⟩,hnm,hxm⟩⟩
    unfold Seg.wroots at he
    rw[h4] at he
    cases wr with
    |calle f x=>
     simp only[Wr.roots,List.mem_singleton] at he
     subst he
     simp only[q4j] at hp
     split at hp
     ·rename_i h5;exact⟨_,h5⟩
     ·cases hp
    |panic x=>
     simp only[Wr.roots,List.mem_singleton] at he
     subst he
     simp only[q4j] at hp
     split at hp
     ·rename_i h5;exact⟨_,h5⟩
     ·cases hp
    |_=>simp [q4j] at hp
theorem q42{B:Nat→Nat→Bool}{g:Seg}{R:List Rec}{s s1:S}{news:List Blk}{T:Tr}{a:Act}{w:World}{F:Nat→Prop}{σ:Nat→Option Loc}{D:Nat→Prop}
  (hT:Traced K s s1 news g.mks T) (hst:StRel K X base w0 F0 m0 σ0 n s a w F σ) (hD:∀ r∈R,¬ D r.i) :
  PSt (q0F P K ops B n R g s s1 T X base w0 F0 m0 σ0) D a w:=by
 have h:Stage (q0F P K ops B n R g s s1 T X base w0 F0 m0 σ0) g s D a w:=(q0L (P:=P) (ops:=ops) (B:=B) (R:=R) (s':=s) hT hst).congr (fun r hr=>⟨fun h=>h.elim,fun h=>absurd h (hD r hr)⟩)
 rcases h with h|⟨⟨r,hr,h1,_⟩,_⟩
 ·exact h
 ·exact absurd h1 (hD r hr)
theorem z1E{g:Seg}{c:Piece}{k:Nat}{news:List Blk}{r:Ex×S}(hc:PanP c (List.range' k g.cnt) g news r)(hB:c.B=fun i j=>decide (i<j)){ys:List Nat}
  (hQ:PanQ c.K c.X c.base c.w0 c.F0 c.m c.σ0 c.n Q r):∀(m j:Nat) (a:Act) (w:World),j+m=g.cnt→PSt c (fun i=>k≤i∧i<k+j) a w→wpOps c.P c.ops Q (List.range' (k+j) m++ys) a w
 |0,j,a,w,hj,hs=>(z7t hc hs (fun r hr=>by
   have:=(q0w hc.seg r.i).1 ⟨r,hr,rfl⟩
   rw[List.mem_range'_1] at this
   constructor
   ·exact this.1
   ·have:=this.2;omega)).elim
 |m+1,j,a,w,hj,hs=>by
  rw[List.range'_succ,List.cons_append,wpOps_cons]
  obtain⟨q,hq,hqi⟩:=(q0w hc.seg (k+j)).2 (by rw[List.mem_range'_1];omega)
  have hmem:∀ q∈c.R,k≤q.i∧q.i<k+g.cnt:=fun q hq=>by
   have:=(q0w hc.seg q.i).1 ⟨q,hq,rfl⟩
   rwa [List.mem_range'_1] at this
  have:=z0n (Q:=Q) (Kn:=wpOps c.P c.ops Q (List.range' (k+j+1) m++ys)) hc hs hq (by rw[hqi];omega) (fun q hq hqD p hp hpq=>by
    rw[hB] at hpq
    simp only[decide_eq_true_eq] at hpq
    have:=hmem p hp
    omega) (fun p hp hpq=>by
    rw[hB] at hpq
    simp only[decide_eq_true_eq] at hpq
    have:=hmem p hp
    omega) (fun a' w' hs'=>by
    refine z1E hc hB hQ m (j+1) a' w' (by omega) ?_
    have:(fun i=>k≤i∧i<k+(j+1))=plus (fun i=>k≤i∧i<k+j) q.i:=by
     funext i
     simp only[plus,hqi,eq_iff_iff]
     omega
    rw[this]
    exact hs') hQ
  rw[hqi] at this
  exact this
theorem j2v:∀(gs:List Seg)(k:Nat),q3Q P ops n k gs=true→k≤ops.size:=by
 intro gs
 induction gs with
 |nil=>intro k h;simp only[q3Q,beq_iff_eq] at h;omega
 |cons g gs ih=>
  intro k h
  simp only[q3Q,Bool.and_eq_true] at h
  have:=ih _ h.2
  omega
theorem z3J(hK:K.Sound P){r:Ex×S}(hQ:PanQ K X base w0 F0 m0 σ0 n Q r):∀(gs:List Seg)(k:Nat)(s:S)(a:Act)(w:World)(F:Nat→Prop)(σ:Nat→Option Loc),q3Q P ops n k gs=true→k≤ops.size→q3n K s gs=some r→StRel K X base w0 F0 m0 σ0 n s a w F σ→
  wpOps P ops Q (List.range' k (ops.size - k)) a w
 |[],k,s,a,w,F,σ,hok,hk,hev,hst=>by cases hev
 |g :: gs,k,s,a,w,F,σ,hok,hk,hev,hst=>by
  simp only[q3Q,Bool.and_eq_true] at hok
  have hk2:=j2v gs _ hok.2
  have hsplit:List.range' k (ops.size - k)=List.range' (k+0) g.cnt++List.range' (k+g.cnt) (ops.size - (k+g.cnt)):=by
   have:ops.size - k=g.cnt+(ops.size - (k+g.cnt)):=by omega
   rw[this,←List.range'_append_1]
   simp
  have h0:(fun i=>k≤i∧i<k+0)=fun _=>False:=by
   funext i
   simp only[eq_iff_iff,iff_false]
   omega
  simp only[q3n] at hev
  cases hg:q04 K s g with
  |some s2=>
   simp only[hg] at hev
   obtain⟨R,s1,T,news,l,hf⟩:=q32 (X:=X) (base:=base) (w0:=w0) (F0:=F0) (m0:=m0) (σ0:=σ0) hok.1 hK hg hst.dom hst.nxm hst.xm
   rw[hsplit]
   refine z9e hf rfl (fun _ _ _ _ _ _ h=>h) (fun a w F σ hst2=>z3J hK hQ gs (k+g.cnt) s2 a w F σ hok.2 hk2 hev hst2) g.cnt 0 a w (by omega) ?_
   rw[h0]
   exact q0L hf.traced hst
  |none=>
   simp only[hg] at hev
   obtain⟨R,s1,T,news,hp⟩:=z0p (X:=X) (base:=base) (w0:=w0) (F0:=F0) (m0:=m0) (σ0:=σ0) hok.1 hK hev hst.dom hst.nxm hst.xm
   rw[hsplit]
   refine z1E hp rfl hQ g.cnt 0 a w (by omega) ?_
   rw[h0]
   exact q42 hp.traced hst (fun _ _ h=>h)
theorem z1c{id:Nat}{gs:List Seg}{s:S}{r:Ex×S}{a:Act}{w:World}{F:Nat→Prop}{σ:Nat→Option Loc}(hK:K.Sound P)(hok:q3Q P ops n 0 gs=true)(hev:q3n K s gs=some r)(hst:StRel K X base w0 F0 m0 σ0 n s a w F σ)
  (hQ:PanQ K X base w0 F0 m0 σ0 n Q r):(Code.region id ops false).wp P Q a w:=by
 refine wp_region ?_
 have:=z3J (Q:=Q) hK hQ gs 0 s a w F σ hok (Nat.zero_le _) hev hst
 rw[List.range_eq_range']
 simpa using this
theorem z9m(hK:K.Sound P){tab:List (List Nat)}(ht:Tab ops tab){r:Ex×S}(hQ:PanQ K X base w0 F0 m0 σ0 n Q r):∀(gs:List Seg)(k:Nat)(s:S),q1G P ops n tab k gs=true→q3n K s gs=some r→
  ∀(fuel:Nat) (listed:Array Bool) (a:Act) (w:World) (F:Nat→Prop) (σ:Nat→Option Loc),listed.size=ops.size→q0A listed ops.size≤fuel→(∀ i,i<k→listed.getD i false=true)→(∀ i,k≤i→listed.getD i false=false)→StRel K X base w0 F0 m0 σ0 n s a w F σ→wpAny P .any ops Q fuel listed a w
 |[],k,s,hok,hev=>by cases hev
 |g :: gs,k,s,hok,hev=>by
  intro fuel listed a w F σ hsz hfuel hlo hhi hst
  simp only[q1G,Bool.and_eq_true] at hok
  obtain⟨⟨hok1,hok2⟩,hok3⟩:=hok
  have hle:∀(gs:List Seg) (k:Nat),q1G P ops n tab k gs=true→k≤ops.size:=by
   intro gs
   induction gs with
   |nil=>intro k h;simp only[q1G,beq_iff_eq] at h;omega
   |cons g gs ih=>
    intro k h
    simp only[q1G,Bool.and_eq_true] at h
    have:=ih _ h.2
    omega
  have hbar:∀ i,k+g.cnt≤i→i<ops.size→∀ j,j<k+g.cnt→tabB tab j i=true:=by
   intro i h1 h2 j hj
   cases gs with
   |nil=>
    simp only[q1G,beq_iff_eq] at hok3
    omega
   |cons g2 gs2=>
    simp only[q1G,Bool.and_eq_true,List.all_eq_true] at hok3
    exact hok3.1.2 i (by rw[List.mem_range'_1];omega) j (by simpa using hj)
  have hclo:∀ i,i<ops.size→listed.getD i false=true→∀ j,tabB tab j i=true→listed.getD j false=true:=by
   intro i hi hil j hj
   have hik:i<k:=by
    rcases Nat.lt_or_ge i k with h|h
    ·exact h
    ·rw[hhi i h] at hil;cases hil
   have hclo:∀ i,i<ops.size→∀ j,tabB tab j i=true→j<i:=by
    intro i
    induction i using Nat.strongRecOn with
    |_ i ih=>
     intro hi j hj
     simp only[tabB,List.contains_eq_mem,decide_eq_true_eq] at hj
     obtain⟨e,he,h4⟩:=ht.clo i ops[i] (by simp [hi]) j hj
     have hei:=ht.lt i ops[i] (by simp [hi]) e he
     rcases h4 with rfl|h4
     ·exact hei
     ·have:=ih e hei (by omega) j (by simpa [tabB] using h4)
      omega
   exact hlo j (by have:=hclo i hi j hj;omega)
  simp only[q3n] at hev
  cases hg:q04 K s g with
  |some s2=>
   simp only[hg] at hev
   obtain⟨R,s1,T,news,l,hf⟩:=q32 (X:=X) (base:=base) (w0:=w0) (F0:=F0) (m0:=m0) (σ0:=σ0) hok1 hK hg hst.dom hst.nxm hst.xm
   refine q6U ht hf (fun _ _ _ _ _ _ h=>h) rfl hbar (hle _ _ hok3) (fun fuel listed a w F σ h1 h2 h3 h4 hst2=>z9m hK ht hQ gs (k+g.cnt) s2 hok3 hev fuel listed a w F σ h1 h2 h3 h4 hst2) fuel listed a w hsz hfuel hlo (fun i hi=>hhi i (by omega)) hclo ?_
   refine(q0L (P:=P) (ops:=ops) (B:=tabB tab) (R:=R) (s':=s2) hf.traced hst).congr (fun r hr=>?_)
   have:=(q0w hf.seg r.i).1 ⟨r,hr,rfl⟩
   rw[List.mem_range'_1] at this
   rw[hhi r.i this.1]
   simp
  |none=>
   simp only[hg] at hev
   obtain⟨R,s1,T,news,hp⟩:=z0p (X:=X) (base:=base) (w0:=w0) (F0:=F0) (m0:=m0) (σ0:=σ0) hok1 hK hev hst.dom hst.nxm hst.xm
   have hmem:∀ q∈R,k≤q.i∧q.i<k+g.cnt:=fun q hq=>by
    have:=(q0w hp.seg q.i).1 ⟨q,hq,rfl⟩
    rwa [List.mem_range'_1] at this
   have hkc:=hle _ _ hok3
   refine q7x (cnt:=g.cnt) ht (PSt (q0F P K ops (tabB tab) n R g s s1 T X base w0 F0 m0 σ0)) (fun D a w i Kn hi1 hi2 hD hdown hpre hs hKn=>?_) hbar hkc (fun fuel listed a w q1 q2 q3 q4 ⟨D,hall,hs⟩=>?_) fuel listed a w hsz hfuel hlo (fun i hi=>hhi i (by omega)) hclo ?_
   ·obtain⟨r,hr,hri⟩:=(q0w hp.seg i).2 (by rw[List.mem_range'_1];omega)
    subst hri
    exact z0n hp hs hr hD (fun q hq hqD p hp' hpq=>hdown q.i (hmem q hq).1 (hmem q hq).2 hqD p.i hpq) (fun q hq hqr=>hpre q.i hqr) hKn hQ
   ·exact(z7t hp hs (fun r hr=>hall r.i (hmem r hr).1 (hmem r hr).2)).elim
   ·refine q42 hp.traced hst (fun r hr h=>?_)
    rw[hhi r.i (hmem r hr).1] at h
    cases h
theorem z0M{id:Nat}{gs:List Seg}{s:S}{r:Ex×S}{a:Act}{w:World}{F:Nat→Prop}{σ:Nat→Option Loc}(hm:P.follows .mixedOrders=true)(hK:K.Sound P)(hok:q9g P ops n gs=true)(hev:q3n K s gs=some r)(hst:StRel K X base w0 F0 m0 σ0 n s a w F σ)
  (hQ:PanQ K X base w0 F0 m0 σ0 n Q r):(Code.region id ops true).wp P Q a w:=by
 simp only[q9g,Bool.and_eq_true] at hok
 refine wp_region_any hm ?_
 have hno:∀ i,(Array.replicate ops.size false).getD i false=false:=by
  intro i
  simp only[Array.getD_eq_getD_getElem?,Array.getElem?_replicate]
  split <;> rfl
 refine z9m hK (q8n hok.2) hQ gs 0 s hok.1 hev ops.size _ a _ F σ (by simp) ?_ (fun i hi=>by omega) (fun i _=>hno i) (hst.drawn _)
 unfold q0A
 refine Nat.le_trans (List.length_filter_le _ _) ?_
 simp
theorem z7u{B:Nat→Nat→Bool}{R:List Rec}{g:Seg}{s s1:S}{T:Tr}{is:List Nat}{news:List Blk}{r:Ex×S}(h:PanP (q0F P K ops B n R g s s1 T X base w0 F0 m0 σ0) is g news r):∃ wi,wrIx R=some wi:=by
 obtain⟨d,wr,hw,_⟩:=h.wr
 rcases h.seg.wr with⟨_,hn⟩|⟨r0,x,hR,hk,_⟩
 ·rw[hn] at hw;cases hw
 ·have h0:r0∈R:=hR
  cases hf:R.find? (·.isWr) with
  |none=>
   have:=List.find?_eq_none.1 hf r0 h0
   simp [Rec.isWr,hk] at this
  |some q=>exact⟨q.i,by simp [wrIx,hf]⟩
theorem z3Y{tab:List (List Nat)}(ht:Tab ops tab){r:Ex×S}(hQ:PanQ K X base w0 F0 m0 σ0 n Q r){L:List Nat}{k:Nat}{g:Seg}{R:List Rec}{s s1:S}{T:Tr}{news:List Blk}{wi:Nat}
  (hp:PanP (q0F P K ops (tabB tab) n R g s s1 T X base w0 F0 m0 σ0) (L++List.range' k g.cnt) g news r) (hwi:wrIx R=some wi) (hbar:∀ i,k+g.cnt≤i→i<ops.size→tabB tab wi i=true) (hL:∀ j∈L,j<k) (hkc:k+g.cnt≤ops.size)
  (fuel:Nat) (listed:Array Bool) (a:Act) (w:World) (hsz:listed.size=ops.size) (hfuel:q0A listed ops.size≤fuel) (hlo:∀ i,i<k→i∉L→Li listed i) (hhi:∀ i,k+g.cnt≤i→¬ Li listed i) (hdown:∀ i,i<ops.size→Li listed i→∀ j,tabB tab j i=true→Li listed j)
  (hst:PSt (q0F P K ops (tabB tab) n R g s s1 T X base w0 F0 m0 σ0) (Li listed) a w):wpAny P .any ops Q fuel listed a w:=by
 have hmem:∀ q∈R,q.i∈L++List.range' k g.cnt:=fun q hq=>(q0w hp.seg q.i).1 ⟨q,hq,rfl⟩
 have hlt0:∀ i∈L++List.range' k g.cnt,i<k+g.cnt:=fun i hi=>by
  rcases List.mem_append.1 hi with h|h
  ·have:=hL i h;omega
  ·rw[List.mem_range'_1] at h;omega
 have hlt:∀ i∈L++List.range' k g.cnt,i<ops.size:=fun i hi=>Nat.lt_of_lt_of_le (hlt0 i hi) hkc
 obtain⟨rw0,hrw,hrww,hrwi⟩:=q8f hwi
 refine q3L ht (L++List.range' k g.cnt) [wi] (PSt (q0F P K ops (tabB tab) n R g s s1 T X base w0 F0 m0 σ0)) (fun D=>(∀ i,i<k→i∉L→D i)∧∀ i,k+g.cnt≤i→¬ D i) hlt
  (fun D i hd hi=>⟨fun j hj hjL=>.inl (hd.1 j hj hjL),fun j hj=>by
    rintro(h|rfl)
    ·exact hd.2 j hj h
    ·have:=hlt0 _ hi;omega⟩)
  (fun D i hd hne hi hD hpre=>?_) (fun j hj=>?_) (fun D a w i Kn hi hD hdn hpre hs hKn=>?_) (fun fuel listed a w q1 q2 q3 q4 q5 hs=>?_) fuel listed a w hsz hfuel ⟨hlo,hhi⟩ hdown hst
 ·rcases Nat.lt_or_ge i k with h|h
  ·by_cases hiL:i∈L
   ·exact List.mem_append_left _ hiL
   ·exact absurd (hd.1 i h hiL) hD
  ·rcases Nat.lt_or_ge i (k+g.cnt) with h2|h2
   ·exact List.mem_append_right _ (by rw[List.mem_range'_1];omega)
   ·refine absurd (fun j hj=>?_) hne
    obtain rfl:j=wi:=by simpa using hj
    exact hpre j (hbar i h2 hi)
 ·obtain rfl:j=wi:=by simpa using hj
  rw[←hrwi]
  exact hlt _ (hmem rw0 hrw)
 ·obtain⟨q,hr,rfl⟩:=(q0w hp.seg i).2 hi
  exact z0n hp hs hr hD (fun p hq hqD p' hp' hpq=>hdn p.i (hlt _ (hmem p hq)) hqD p'.i hpq) (fun p hq hqr=>hpre p.i hqr) hKn hQ
 ·have:=hs.1 rw0 hrw (by rw[hrwi];exact q5 wi (by simp))
  rw[hrww] at this;cases this
theorem q8d(hK:K.Sound P){tab:List (List Nat)}(ht:Tab ops tab){r:Ex×S}(hQ:PanQ K X base w0 F0 m0 σ0 n Q r):∀(gs:List Seg)(L:List Nat)(k:Nat)(s:S),q1p P ops n tab L k gs=true→q1T K s gs=some r→
  (∀ j∈L,j<k)→(∀ b blk,look s.heap b=some blk→b<s.nx)→m0≤s.nx→(∀ b k,X b k→b<m0)→
  ∀(fuel:Nat) (listed:Array Bool) (a:Act) (w:World),listed.size=ops.size→q0A listed ops.size≤fuel→(∀ i,i<k→i∉L→Li listed i)→(∀ i,k≤i→¬ Li listed i)→(∀ i,i<ops.size→Li listed i→∀ j,tabB tab j i=true→Li listed j)→
   (∀ g gs',gs=g :: gs'→∀ R s1 T s2 news l,Full (q0F P K ops (tabB tab) n R g s s1 T X base w0 F0 m0 σ0) (L++List.range' k g.cnt) g s2 news l→Stage (q0F P K ops (tabB tab) n R g s s1 T X base w0 F0 m0 σ0) g s2 (Li listed) a w)→
   (∀ g gs',gs=g :: gs'→∀ R s1 T news,PanP (q0F P K ops (tabB tab) n R g s s1 T X base w0 F0 m0 σ0) (L++List.range' k g.cnt) g news r→PSt (q0F P K ops (tabB tab) n R g s s1 T X base w0 F0 m0 σ0) (Li listed) a w)→
   wpAny P .any ops Q fuel listed a w
 |[],_,_,_,hok,_,_,_,_,_=>by simp [q1p] at hok
 |[g],L,k,s,hok,hev,hL,hdm,hnm,hxm=>by
  intro fuel listed a w hsz hfuel hlo hhi hdown hst hstP
  simp only[q1p,Bool.and_eq_true,beq_iff_eq] at hok
  obtain⟨hok1,hsize⟩:=hok
  simp only[q1T] at hev
  cases hg:q04 K s g with
  |some s2=>
   simp only[hg] at hev
   split at hev <;> cases hev
  |none=>
   simp only[hg] at hev
   obtain⟨R,s1,T,news,hp⟩:=z0p (X:=X) (base:=base) (w0:=w0) (F0:=F0) (m0:=m0) (σ0:=σ0) hok1 hK hev hdm hnm hxm
   obtain⟨wi,hwi⟩:=z7u hp
   exact z3Y ht hQ hp hwi (fun i h1 h2=>by omega) hL (by omega) fuel listed a w hsz hfuel hlo (fun i hi=>hhi i (by omega)) hdown (hstP g _ rfl R s1 T news hp)
 |g :: g' :: gs,L,k,s,hok,hev,hL,hdm,hnm,hxm=>by
  intro fuel listed a w hsz hfuel hlo hhi hdown hst hstP
  simp only[q1p,Bool.and_eq_true] at hok
  obtain⟨hok1,hok⟩:=hok
  simp only[q1T] at hev
  cases hg:q04 K s g with
  |none=>
   simp only[hg] at hev
   obtain⟨R,s1,T,news,hp⟩:=z0p (X:=X) (base:=base) (w0:=w0) (F0:=F0) (m0:=m0) (σ0:=σ0) hok1 hK hev hdm hnm hxm
   have hrec:recs (tabB tab) P ops (g.mks.map (·.1)) g.ef n (L++List.range' k g.cnt) []=some R:=hp.seg.recs
   rw[hrec] at hok
   simp only at hok
   obtain⟨wi,hwi⟩:=z7u hp
   simp only[hwi,Bool.and_eq_true] at hok
   exact z3Y ht hQ hp hwi (fun i h1 h2=>z2z hok.1.1 h1 h2) hL (q3Z _ _ _ hok.2) fuel listed a w hsz hfuel hlo (fun i hi=>hhi i (by omega)) hdown (hstP g _ rfl R s1 T news hp)
  |some s2=>
   simp only[hg] at hev
   split at hev
   case isFalse=>cases hev
   rename_i hsame
   obtain⟨R,s1,T,news,l,hf⟩:=q32 (X:=X) (base:=base) (w0:=w0) (F0:=F0) (m0:=m0) (σ0:=σ0) hok1 hK hg hdm hnm hxm
   have hrec:recs (tabB tab) P ops (g.mks.map (·.1)) g.ef n (L++List.range' k g.cnt) []=some R:=hf.seg.recs
   rw[hrec] at hok
   simp only at hok
   have hmem:∀ q∈R,q.i∈L++List.range' k g.cnt:=fun q hq=>(q0w hf.seg q.i).1 ⟨q,hq,rfl⟩
   have hkc:k+g.cnt≤ops.size:=by
    split at hok
    ·simp only[Bool.and_eq_true] at hok
     exact q3Z _ _ _ hok.2
    ·simp only[Bool.and_eq_true] at hok
     exact q3Z _ _ _ hok.2
   have hlt0:∀ i∈L++List.range' k g.cnt,i<k+g.cnt:=fun i hi=>by
    rcases List.mem_append.1 hi with h|h
    ·have:=hL i h;omega
    ·rw[List.mem_range'_1] at h;omega
   have hlt:∀ i∈L++List.range' k g.cnt,i<ops.size:=fun i hi=>Nat.lt_of_lt_of_le (hlt0 i hi) hkc
   obtain⟨hdm2,hnm2⟩:(∀ b blk,look s2.heap b=some blk→b<s2.nx)∧s.nx≤s2.nx:=by
    have hd1:=z0Z hf
    have hn1:=hf.nx
    rcases hf.ended.wr with⟨_,he⟩|⟨d,wr,hw,_,he⟩|⟨d,wr,H,v,p,nx,hw,_,hev',he⟩
    ·subst he;exact⟨hd1,hn1⟩
    ·subst he;exact⟨hd1,hn1⟩
    ·subst he
     obtain⟨h1,h2⟩:=z0J hev' hd1
     exact⟨fun b blk hb=>by obtain⟨y,hy⟩:=q7d _ _ _ _ hb;exact h1 b y hy,Nat.le_trans hn1 h2⟩
   have hstep:∀(D:Nat→Prop) (a:Act) (w:World) (i:Nat) (Kn:Act→World→Prop),i∈L++List.range' k g.cnt→¬ D i→(∀ q,q<ops.size→D q→∀ p,tabB tab p q=true→D p)→(∀ q,tabB tab q i=true→D q)→
     Stage (q0F P K ops (tabB tab) n R g s s1 T X base w0 F0 m0 σ0) g s2 D a w→(∀ a' w',Stage (q0F P K ops (tabB tab) n R g s s1 T X base w0 F0 m0 σ0) g s2 (plus D i) a' w'→Kn a' w')→wpOp P ops Q i Kn a w:=fun D a w i Kn hi hD hdn hpre hs hKn=>by
    obtain⟨r,hr,rfl⟩:=(q0w hf.seg i).2 hi
    exact q4n hf hs hr hD (fun q hq hqD p hp hpq=>hdn q.i (hlt _ (hmem q hq)) hqD p.i hpq) (fun q hq hqr=>hpre q.i hqr) hKn
   have hdom:∀(D:Nat→Prop) i,((∀ i,i<k→i∉L→D i)∧∀ i,k+g.cnt≤i→¬ D i)→i∈L++List.range' k g.cnt→(∀ j,j<k→j∉L→plus D i j)∧∀ j,k+g.cnt≤j→¬ plus D i j:=fun D i hd hi=>⟨fun j hj hjL=>.inl (hd.1 j hj hjL),fun j hj=>by
    rintro(h|rfl)
    ·exact hd.2 j hj h
    ·have:=hlt0 _ hi;omega⟩
   have hinn:∀(D:Nat→Prop) i,((∀ i,i<k→i∉L→D i)∧∀ i,k+g.cnt≤i→¬ D i)→¬ D i→i<k+g.cnt→i∈L++List.range' k g.cnt:=fun D i hd hD hi=>by
    rcases Nat.lt_or_ge i k with h|h
    ·by_cases hiL:i∈L
     ·exact List.mem_append_left _ hiL
     ·exact absurd (hd.1 i h hiL) hD
    ·exact List.mem_append_right _ (by rw[List.mem_range'_1];omega)
   have h0:(∀ i,i<k→i∉L→Li listed i)∧∀ i,k+g.cnt≤i→¬ Li listed i:=⟨hlo,fun i hi=>hhi i (by omega)⟩
   cases hwi:wrIx R with
   |none=>
    simp only[hwi,Bool.and_eq_true,List.all_eq_true] at hok
    obtain⟨hbar,hok2⟩:=hok
    refine q3L ht (L++List.range' k g.cnt) (L++List.range' k g.cnt) (Stage (q0F P K ops (tabB tab) n R g s s1 T X base w0 F0 m0 σ0) g s2) (fun D=>(∀ i,i<k→i∉L→D i)∧∀ i,k+g.cnt≤i→¬ D i) hlt hdom
     (fun D i hd hne hi hD hpre=>?_) hlt hstep (fun fuel listed a w q1 q2 q3 q4 q5 hs=>?_) fuel listed a w hsz hfuel h0 hdown (hst g _ rfl R s1 T s2 news l hf)
    ·rcases Nat.lt_or_ge i (k+g.cnt) with h|h
     ·exact hinn D i hd hD h
     ·exact absurd (fun j hj=>hpre j (z2z (hbar j hj) h hi)) hne
    ·obtain⟨F,σ,hst2⟩:=q4Y hf hs (fun r hr=>q5 r.i (hmem r hr))
     refine q8d hK ht hQ (g' :: gs) [] (k+g.cnt) s2 hok2 hev (fun j hj=>by simp at hj) hdm2 (Nat.le_trans hnm hnm2) hxm fuel listed a w q1 q2 (fun i hi _=>?_) q3.2 q4 (fun g1 gs1 he R' s1' T' s3 news' l' hf'=>?_) (fun g1 gs1 he R' s1' T' news' hf'=>?_)
     ·by_cases h:i∈L++List.range' k g.cnt
      ·exact q5 i h
      ·exact Classical.byContradiction fun hD=>h (hinn _ i q3 hD hi)
     ·refine(q0L (P:=P) (ops:=ops) (B:=tabB tab) (R:=R') (s':=s3) hf'.traced hst2).congr (fun r hr=>?_)
      have hri:=(q0w hf'.seg r.i).1 ⟨r,hr,rfl⟩
      rw[List.nil_append,List.mem_range'_1] at hri
      exact⟨fun h=>h.elim,fun h=>q3.2 r.i hri.1 h⟩
     ·refine q42 hf'.traced hst2 (fun r hr h=>?_)
      have hri:=(q0w hf'.seg r.i).1 ⟨r,hr,rfl⟩
      rw[List.nil_append,List.mem_range'_1] at hri
      exact q3.2 r.i hri.1 h
   |some wi=>
    simp only[hwi,Bool.and_eq_true] at hok
    obtain⟨⟨hbar,hlk⟩,hok2⟩:=hok
    obtain⟨rw0,hrw,hrww,hrwi⟩:=q8f hwi
    refine q3L ht (L++List.range' k g.cnt) [wi] (Stage (q0F P K ops (tabB tab) n R g s s1 T X base w0 F0 m0 σ0) g s2) (fun D=>(∀ i,i<k→i∉L→D i)∧∀ i,k+g.cnt≤i→¬ D i) hlt hdom
     (fun D i hd hne hi hD hpre=>?_) (fun j hj=>?_) hstep (fun fuel listed a w q1 q2 q3 q4 q5 hs=>?_) fuel listed a w hsz hfuel h0 hdown (hst g _ rfl R s1 T s2 news l hf)
    ·rcases Nat.lt_or_ge i (k+g.cnt) with h|h
     ·exact hinn D i hd hD h
     ·refine absurd (fun j hj=>?_) hne
      obtain rfl:j=wi:=by simpa using hj
      exact hpre j (z2z hbar h hi)
    ·obtain rfl:j=wi:=by simpa using hj
     rw[←hrwi]
     exact hlt _ (hmem rw0 hrw)
    ·have hwD:Li listed wi:=q5 wi (by simp)
     rcases hs with⟨hno,_⟩|⟨_,F,σ,hW⟩
     ·have:=hno rw0 hrw (by rw[hrwi];exact hwD)
      rw[hrww] at this;cases this
     ·have key:∀(R':List Rec) (s1':S) (T':Tr),SegOk (tabB tab) P ops n (q5K g R (L++List.range' k g.cnt)++List.range' (k+g.cnt) g'.cnt) g' R'→(q0F P K ops (tabB tab) n R' g' s2 s1' T' X base w0 F0 m0 σ0).Ok→s2.nx≤s1'.nx→PSt (q0F P K ops (tabB tab) n R' g' s2 s1' T' X base w0 F0 m0 σ0) (Li listed) a w:=by
       intro R' s1' T' hseg hok' hnx'
       have hrecs:=hseg.recs
       have hrec':recs (tabB tab) P ops (g'.mks.map (·.1)) g'.ef n (q5K g R (L++List.range' k g.cnt)++List.range' (k+g.cnt) g'.cnt) []=some R':=hrecs
       rw[hrec'] at hlk
       simp only[z71,Bool.and_eq_true,List.all_eq_true] at hlk
       obtain⟨⟨hl1,hl2⟩,hl3⟩:=hlk
       have hpend:∀ r∈R',Li listed r.i→r.i∈q5K g R (L++List.range' k g.cnt):=fun r hr hD=>by
        rcases List.mem_append.1 ((q0w hseg r.i).1 ⟨r,hr,rfl⟩) with h|h
        ·exact h
        ·rw[List.mem_range'_1] at h
         exact absurd hD (q3.2 r.i h.1)
       have hlink:∀ r∈R',Li listed r.i→∃ q∈R,q.i=r.i∧q30 g.late q=true∧r.x=q.x∧r.ch=[]∧r.isWr=false∧r.isMk=false:=fun r hr hD=>by
        have:=hl1 r hr
        simp only[Bool.or_eq_true,Bool.not_eq_true',List.any_eq_true,Bool.and_eq_true,decide_eq_true_eq,List.isEmpty_iff] at this
        rcases this with h|⟨q,hq,⟨⟨⟨⟨h1,h2⟩,h3⟩,h4⟩,h5⟩,h6⟩
        ·have h':=hpend r hr hD
         rw[List.contains_eq_mem,decide_eq_false_iff_not] at h
         exact absurd h' h
        ·exact⟨q,hq,h1,h2,h3,h4,h5,h6⟩
       refine⟨fun r hr hD=>(hlink r hr hD).choose_spec.2.2.2.2.2.1,F,σ,j1C hf hok' hnx' (fun e he'=>hsame e he' _ _ hf.ended.mks) hlink hl2 (fun q hq hql d hd=>?_) hW⟩
       -- the slot of a late one is not known behind the piece
       have h3:=hl3 q hq
       simp only[hql,Bool.not_true,Bool.false_or,hd,Bool.and_eq_true,Bool.not_eq_true',List.contains_eq_mem,decide_eq_false_iff_not] at h3
       obtain⟨h4,h5⟩:=h3
       have hnone:look (l++q0e s1.rho g.keep) d=none:=by
        cases hh:look (l++q0e s1.rho g.keep) d with
        |none=>rfl
        |some u=>
         rw[q3Y] at hh
         cases hll:look l d with
         |some u2=>
          obtain⟨e2,he2,_⟩:=(q3b _ _ _ _ hf.ended.lets).1 d u2 hll
          exact absurd (List.mem_map.2 ⟨_,he2,rfl⟩) h4
         |none=>
          rw[hll] at hh
          exact absurd (q0I _ _ _ _ hh).1 h5
       have hlose:∀ p:Lost,look (lose p (l++q0e s1.rho g.keep)) d=none:=fun p=>by
        cases hh:look (lose p (l++q0e s1.rho g.keep)) d with
        |none=>rfl
        |some u=>
         obtain⟨y,hy,_⟩:=q46 _ _ _ _ hh
         rw[hnone] at hy;cases hy
       rcases hf.ended.wr with⟨_,he2⟩|⟨d0,wr,hw0,_,he2⟩|⟨d0,wr,H,v,p,nx,hw0,_,_,he2⟩
       ·subst he2;exact hnone
       ·subst he2;exact hnone
       ·subst he2
        cases d0 with
        |none=>exact hlose p
        |some d0=>
         simp only[look]
         split
         ·rename_i hdd
          subst hdd
          rcases hf.seg.wr with⟨_,hn0⟩|⟨r0,x0,hr0,hk0,hg0,_⟩
          ·rw[hn0] at hw0;cases hw0
          ·rw[hg0] at hw0
           simp only[Option.some.injEq,Prod.mk.injEq] at hw0
           have hqr:q.i≠r0.i:=fun e=>by
            obtain rfl:=hf.ok.good.inj q hq r0 hr0 e
            obtain⟨_,hkk,_⟩:=q2C hql
            rw[hk0] at hkk;cases hkk
           exact absurd hw0.1 (q5j hf.ok hq hr0 hqr hd)
         ·exact hlose p
      refine q8d hK ht hQ (g' :: gs) (q5K g R (L++List.range' k g.cnt)) (k+g.cnt) s2 hok2 hev (fun j hj=>hlt0 j (List.mem_filter.1 hj).1) hdm2 (Nat.le_trans hnm hnm2) hxm fuel listed a w q1 q2 (fun i hi hnp=>?_) q3.2 q4 (fun g1 gs1 he R' s1' T' s3 news' l' hf'=>?_) (fun g1 gs1 he R' s1' T' news' hf'=>?_)
      ·refine Classical.byContradiction fun hD=>?_
       have hmi:=hinn _ i q3 hD hi
       obtain⟨r,hr,rfl⟩:=(q0w hf.seg i).2 hmi
       have hl:=hW.rest r hr hD
       refine hnp (List.mem_filter.2 ⟨hmi,?_⟩)
       simp only[List.any_eq_true]
       exact⟨r,hr,by simp [hl]⟩
      ·obtain⟨rfl,rfl⟩:=List.cons.inj he
       exact .inl (key R' s1' T' hf'.seg hf'.ok hf'.nx)
      ·obtain⟨rfl,rfl⟩:=List.cons.inj he
       exact key R' s1' T' hf'.seg hf'.ok hf'.nx
theorem q9B{id:Nat}{gs:List Seg}{s:S}{r:Ex×S}{a:Act}{w:World}{F:Nat→Prop}{σ:Nat→Option Loc}(hm:P.follows .mixedOrders=true)(hK:K.Sound P)(hok:q4f P ops n gs=true)(hev:q1T K s gs=some r)(hst:StRel K X base w0 F0 m0 σ0 n s a w F σ)
  (hQ:PanQ K X base w0 F0 m0 σ0 n Q r):(Code.region id ops true).wp P Q a w:=by
 simp only[q4f,Bool.and_eq_true] at hok
 refine wp_region_any hm ?_
 have hno:∀ i,(Array.replicate ops.size false).getD i false=false:=by
  intro i
  simp only[Array.getD_eq_getD_getElem?,Array.getElem?_replicate]
  split <;> rfl
 refine q8d hK (q8n hok.2) hQ gs [] 0 s hok.1 hev (fun j hj=>by simp at hj) hst.dom hst.nxm hst.xm ops.size _ a _ (by simp) ?_ (fun i hi=>by omega) (fun i _ h=>by simp only[Li] at h;rw[hno] at h;cases h) (fun i _ h=>by simp only[Li] at h;rw[hno] at h;cases h) (fun g gs' he R s1 T s2 news l hf=>?_) (fun g gs' he R s1 T news hf=>?_)
 ·unfold q0A
  refine Nat.le_trans (List.length_filter_le _ _) ?_
  simp
 ·refine(q0L (P:=P) (ops:=ops) (B:=tabB (z1h gs)) (R:=R) (s':=s2) hf.traced (hst.drawn _)).congr (fun r hr=>?_)
  exact⟨fun h=>h.elim,fun h=>by simp only[Li] at h;rw[hno] at h;cases h⟩
 ·exact q42 hf.traced (hst.drawn _) (fun r hr h=>by simp only[Li] at h;rw[hno] at h;cases h)
theorem z3v{π:List Nat}{gs:List Seg}{s:S}{r:Ex×S}{a:Act}{w:World}{F:Nat→Prop}{σ:Nat→Option Loc}(hK:K.Sound P)(hok:q6J P ops n π gs=true)(hev:q1T K s gs=some r)(hst:StRel K X base w0 F0 m0 σ0 n s a w F σ)
  (hQ:PanQ K X base w0 F0 m0 σ0 n Q r):wpAny P .any ops Q ops.size (Array.replicate ops.size false) a { w with drawn:=w.drawn+1 }:=by
 simp only[q6J,q4f,Bool.and_eq_true] at hok
 obtain⟨hpm,hok⟩:=hok
 have hp:=z7q hpm
 refine z3W hp ops.size _ (Array.replicate ops.size false) a _ (by simp) (by simp) (fun i=>?_) ?_
 ·simp only[Array.getD_eq_getD_getElem?,Array.getElem?_replicate]
  split <;> split <;> rfl
 have hsz:=q6f hp
 generalize q3U π ops=ops' at hok hsz
 rw[←hsz]
 have hno:∀ i,(Array.replicate ops'.size false).getD i false=false:=by
  intro i
  simp only[Array.getD_eq_getD_getElem?,Array.getElem?_replicate]
  split <;> rfl
 refine q8d (ops:=ops') hK (q8n hok.2) hQ gs [] 0 s hok.1 hev (fun j hj=>by simp at hj) hst.dom hst.nxm hst.xm ops'.size _ a _ (by simp) ?_ (fun i hi=>by omega) (fun i _ h=>by simp only[Li] at h;rw[hno] at h;cases h) (fun i _ h=>by simp only[Li] at h;rw[hno] at h;cases h) (fun g gs' he R s1 T s2 news l hf=>?_) (fun g gs' he R s1 T news hf=>?_)
 ·unfold q0A
  refine Nat.le_trans (List.length_filter_le _ _) ?_
  simp
 ·refine(q0L (P:=P) (ops:=ops') (B:=tabB (z1h gs)) (R:=R) (s':=s2) hf.traced (hst.drawn _)).congr (fun r hr=>?_)
  exact⟨fun h=>h.elim,fun h=>by simp only[Li] at h;rw[hno] at h;cases h⟩
 ·exact q42 hf.traced (hst.drawn _) (fun r hr h=>by simp only[Li] at h;rw[hno] at h;cases h)
end Go.Vm
end

section
namespace Go.Vm
open Go.RowKit
variable {P:Program}{K:Cx}{n:Nat}{X:Nat→Nat→Prop}{base:Nat}{w0:World}{F0:Nat→Prop}{m0:Nat}{σ0:Nat→Option Loc}{Q:Exit→Act→World→Prop}
def one:List Seg→Option Seg
 |[g]=>some g
 |_=>none
def chk(P:Program)(m n:Nat):C→Code→Bool
 |.stuck,_=>true
 |.skip,.skip=>true
 |.reg l,.region _ ops draw=>if draw then q9g P ops n l else q3Q P ops n 0 l
 |.seq (.tidy m' _) b,c=>m'==m&&chk P m n b c
 |.seq (.own t _) b,c=>decide (t<n)&&chk P m n b c
 |.seq (.keep _) b,c=>chk P m n b c
 |.seq (.frz m' _ _) b,c=>(m'==m)&&chk P m n b c
 |.seq (.ownc _ _ _) b,c=>chk P m n b c
 |.regl l,.region _ ops draw=>draw&&q4f P ops n l
 |.regp π l,.region _ ops draw=>draw&&q6J P ops n π l
 |.regg m' l,.region _ ops draw=>(m'==m)&&if draw then z0P P ops n l else q4B P ops n 0 l
 |.seq a b,.seq x y=>chk P m n a x&&chk P m n b y
 |.cond e a b,.cond c x y=>decide (q0j P [] 0 c=some e)&&chk P m n a x&&chk P m n b y
 |.block id c,.block id' x=>id==id'&&chk P m n c x
 |.loop c,.loop x=>chk P m n c x
 |.exit id,.exit id'=>id==id'
 |.scope c ls,.scope x=>chk P m n c x&&chk P m n ls x
 |.lnil,_=>true
 |.lcons l c ls,x=>(match findLabel x l with|some rest=>chk P m n c rest|none=>false)&&chk P m n ls x
 |.label l,.label l'=>l==l'
 |.goto l,.goto l'=>l==l'
 |.ret,.ret=>true
 |_,_=>false
def Ex.to:Ex→Exit
 |.nrm=>.normal
 |.exit id=>.exit id
 |.goto l=>.goto l
 |.ret=>.ret
 |.pan _=>.outgrown
def Post(K:Cx)(X:Nat→Nat→Prop)(base:Nat)(w0:World)(F0:Nat→Prop)(m0:Nat)(σ0:Nat→Option Loc)(n:Nat)(r:Ex×S)(e:Exit)(a:Act)(w:World):Prop:=
 match r.1 with
 |.pan v=>∃ pv,e=.panic [{ v:=pv,recovered:=false }]∧PanV pv v∧∃ F σ,StRel K X base w0 F0 m0 σ0 n r.2 a w F σ
 |x=>e=x.to∧∃ F σ,StRel K X base w0 F0 m0 σ0 n r.2 a w F σ
theorem q7X{r:Ex×S}:PanQ K X base w0 F0 m0 σ0 n (Post K X base w0 F0 m0 σ0 n r) r:=by
 intro pv v s' a w F σ hr hpv hs
 subst hr
 exact⟨pv,rfl,hpv,F,σ,hs⟩
theorem q6j{bs:List Nat}(hn:bs.Nodup){i b:Nat}(h:bs[i]? = some b):bs.idxOf b=i:=by
 obtain⟨hi,rfl⟩:=List.getElem?_eq_some_iff.1 h
 exact hn.idxOf_getElem i hi
theorem q8P(H:List (Nat×Blk))(bs0:List Nat):∀(bs:List Nat)(k i:Nat)(x:Blk),look ((bs.zipIdx k).filterMap fun p=>(look H p.1).map fun blk=>(p.2,blk.ren bs0.idxOf)) i=some x→k≤i∧∃ b x0,bs[i - k]? = some b∧look H b=some x0∧x=x0.ren bs0.idxOf
 |[],k,i,x,h=>by simp [look] at h
 |b :: bs,k,i,x,h=>by
  simp only[List.zipIdx_cons,List.filterMap_cons] at h
  have rest:look ((bs.zipIdx (k+1)).filterMap fun p=>(look H p.1).map fun blk=>(p.2,blk.ren bs0.idxOf)) i=some x→k≤i∧∃ b' x0,(b :: bs)[i - k]? = some b'∧look H b'=some x0∧x=x0.ren bs0.idxOf:=by
   intro h
   obtain⟨h1,b',x0,h2,h3,h4⟩:=q8P H bs0 bs (k+1) i x h
   refine⟨by omega,b',x0,?_,h3,h4⟩
   have:i - k=(i - (k+1))+1:=by omega
   rw[this,List.getElem?_cons_succ]
   exact h2
  cases hb:look H b with
  |none=>
   simp only[hb,Option.map_none] at h
   exact rest h
  |some x0=>
   simp only[hb,Option.map_some,look] at h
   split at h
   ·rename_i he
    subst he
    exact⟨Nat.le_refl _,b,x0,by simp,hb,(Option.some.inj h).symm⟩
   ·exact rest h
theorem StRel.tidy{s s':S}{a:Act}{w:World}{F:Nat→Prop}{σ:Nat→Option Loc}{slots:List Nat}(ht:q7P m0 slots s=some s')(h:StRel K X base w0 F0 m0 σ0 n s a w F σ):∃ σ',StRel K X base w0 F0 m0 σ0 n s' a w F σ':=by
 unfold q7P at ht
 simp only at ht
 split at ht
 case isFalse=>cases ht
 rename_i hc
 obtain rfl:=Option.some.inj ht
 generalize hbs:q03 s.heap (refN s.heap+64) [] (List.range m0++refsL ((q0e s.rho slots).map (·.2)))=bs at hc
 simp only[Bool.and_eq_true,decide_eq_true_eq,List.all_eq_true] at hc
 obtain⟨⟨⟨hnd,hpre⟩,hwi⟩,hcl⟩:=hc
 simp only[closedB,List.all_eq_true] at hcl
 have hF:∀ b,F b→F b∧w.heap[b]? = w.heap[b]?:=fun b hb=>⟨hb,rfl⟩
 have hσ:∀ b l,bs.contains b=true→σ b=some l→inn bs σ (bs.idxOf b)=some l:=fun b l h1 h2=>by rw[z0B (by simpa using h1)];exact h2
 refine⟨inn bs σ,⟨fun i x hx=>?_,fun i j l l' h1 h2 he=>?_,fun i l hi=>?_,h.heap.fro⟩,h.glob,h.le,h.frame,h.frz,h.size,h.dfr,fun t v hv=>?_,fun i x hx=>?_,fun b l hb h0 hm=>?_,?_,h.xm,h.sub⟩
 ·obtain⟨_,b,x0,h1,h2,rfl⟩:=q8P s.heap bs bs 0 i x hx
  rw[Nat.sub_zero] at h1
  have hσi:inn bs σ i=σ b:=by unfold inn;rw[h1]
  have hb:=hcl b (List.mem_of_getElem? h1)
  rw[h2] at hb
  exact(h.heap.blk b x0 h2).ren (w':=w) (F':=F) (p:=bs.contains) hF (fun _ _ h=>h) hσ hb (fun l hl=>by rw[hσi];exact hl) (fun hl=>by rw[hσi];exact hl) (fun _ _=>rfl)
 ·obtain⟨b,hb1,h3⟩:=q1M h1
  obtain⟨b',hb2,h4⟩:=q1M h2
  obtain rfl:=h.heap.inj b b' l l' h3 h4 he
  exact(List.getElem?_inj (List.getElem?_eq_some_iff.1 hb1).1 hnd).1 (hb1.trans hb2.symm)
 ·obtain⟨b,hb1,h3⟩:=q1M hi
  obtain⟨_,o2,o3,o4⟩:=h.heap.own b l h3
  refine⟨(List.getElem?_eq_some_iff.1 hb1).1,o2,o3.imp id (fun hx=>?_),o4⟩
  have hbm:=h.xm b _ hx
  have:bs[b]? = some b:=by
   have:(bs.take m0)[b]? = some b:=by rw[hpre];simp [hbm]
   simpa [List.getElem?_take,hbm] using this
  have:=(List.getElem?_inj (List.getElem?_eq_some_iff.1 hb1).1 hnd).1 (hb1.trans this.symm)
  rw[this]
  exact hx
 ·simp only at hv
  rw[show((q0e s.rho slots).map fun p=>(p.1,p.2.ren bs.idxOf))=(q0e s.rho slots).map fun(t,v)=>(t,(V.ren bs.idxOf) v) from rfl,q4v] at hv
  simp only[Option.map_eq_some_iff] at hv
  obtain⟨v0,h1,rfl⟩:=hv
  have hm:=z4b _ _ _ h1
  exact((h.rho t v0 (q0I _ _ _ _ h1).2).ren (base':=base) (fun _ _ h=>h) hσ (hwi _ hm))
 ·obtain⟨_,b,x0,h1,_⟩:=q8P s.heap bs bs 0 i x hx
  rw[Nat.sub_zero] at h1
  exact(List.getElem?_eq_some_iff.1 h1).1
 ·have hb2:bs[b]? = some b:=by
   have:(bs.take m0)[b]? = some b:=by rw[hpre];simp [hb]
   simpa [List.getElem?_take,hb] using this
  unfold inn
  rw[hb2]
  refine h.stab b l hb h0 fun hm'=>hm ?_
  simp only[List.mem_filter,List.mem_range]
  exact⟨hb,by simpa using hm'⟩
 ·have:=congrArg List.length hpre
  simp only[List.length_take,List.length_range] at this
  show m0≤bs.length
  omega
theorem StRel.own{s:S}{a:Act}{w:World}{F:Nat→Prop}{σ:Nat→Option Loc}{t k k':Nat}{c:Bool}(hl:look s.rho t=some (.fs c k' []))(h:StRel K X base w0 F0 m0 σ0 n s a w F σ) :
  StRel K X base w0 F0 m0 σ0 n ⟨put s.rho t (.bsl s.nx 0 0),(s.nx,.dat true k []) :: s.heap,s.nx+1,s.mv⟩ a w F σ:=by
 have hnone:σ s.nx=none:=by
  cases hs:σ s.nx with
  |none=>rfl
  |some l=>have:=(h.heap.own _ l hs).1;omega
 refine⟨⟨fun b blk hb=>?_,h.heap.inj,fun b l hb=>⟨by have:=(h.heap.own b l hb).1;show b<s.nx+1;omega,(h.heap.own b l hb).2⟩,h.heap.fro⟩,h.glob,h.le,h.frame,h.frz,h.size,h.dfr,fun u v hv=>?_,fun b blk hb=>?_,h.stab,by have:=h.nxm;show m0≤s.nx+1;omega,h.xm,h.sub⟩
 ·simp only[look] at hb
  split at hb
  ·rename_i he
   subst he
   obtain rfl:=Option.some.inj hb
   exact .inl ⟨rfl,hnone⟩
  ·exact h.heap.blk b blk hb
 ·simp only at hv
  rw[q0u] at hv
  split at hv
  ·rename_i he
   subst he
   obtain rfl:=Option.some.inj hv
   have:=h.rho t _ hl
   generalize a.tmps.getD t undef=u at this ⊢
   cases this with
   |fs _ ad len _ _ hd=>
    cases hd with
    |sl0=>exact .bsl0 _ _ _
    |sl b o l cap k rows g h1=>simp at h1;subst h1;exact .bsl0 _ _ _
  ·exact h.rho u v hv
 ·simp only[look] at hb
  split at hb
  ·rename_i he;show b<s.nx+1;omega
  ·have:=h.dom b blk hb;show b<s.nx+1;omega
theorem StRel.ownc{s:S}{a:Act}{w:World}{F:Nat→Prop}{σ:Nat→Option Loc}(t j k:Nat)(h:StRel K X base w0 F0 m0 σ0 n s a w F σ):StRel K X base w0 F0 m0 σ0 n (q5P t j k s) a w F σ:=by
 unfold q5P
 split
 case h_2=>exact h
 rename_i b hb
 split
 case h_2=>exact h
 rename_i k0 row hrow
 split
 case h_2=>exact h
 rename_i c k' hj
 split
 case isFalse=>exact h
 have hnone:σ s.nx=none:=by
  cases hs:σ s.nx with
  |none=>rfl
  |some l=>have:=(h.heap.own _ l hs).1;omega
 refine⟨⟨fun i blk hi=>?_,h.heap.inj,fun b l hb=>⟨by have:=(h.heap.own b l hb).1;show b<s.nx+1;omega,(h.heap.own b l hb).2⟩,h.heap.fro⟩,h.glob,h.le,h.frame,h.frz,h.size,h.dfr,h.rho,fun i blk hi=>?_,h.stab,by have:=h.nxm;show m0≤s.nx+1;omega,h.xm,h.sub⟩
 ·simp only[look] at hi
  split at hi
  ·rename_i he
   subst he
   obtain rfl:=Option.some.inj hi
   exact .inl ⟨rfl,hnone⟩
  ·rw[q0u] at hi
   split at hi
   ·rename_i he
    subst he
    obtain rfl:=Option.some.inj hi
    rcases h.heap.blk b _ hrow with⟨hz,_⟩|⟨_,_,_,_,hmap,_⟩|⟨lb,cs,T,q1,q2,q3,q4,q5,q6,q7⟩
    ·simp [Blk.n] at hz
    ·cases hmap
    ·refine .inr (.inr ⟨lb,cs,T,q1,q2,q3,q4,q5,fun i r hr=>?_,rfl⟩)
     cases i with
     |succ i=>simp [Blk.row?] at hr
     |zero=>
      simp only[Blk.row?,List.getElem?_cons_zero,Option.some.injEq] at hr
      subst hr
      obtain⟨g1,g2⟩:=q6 0 row rfl
      refine⟨by simpa [Blk.k] using g1,fun jj x hx=>?_⟩
      by_cases hjj:j=jj
      ·subst hjj
       have hlt:j<row.length:=(List.getElem?_eq_some_iff.1 hj).1
       rw[List.getElem?_set_self (by simpa using hlt)] at hx
       obtain rfl:=Option.some.inj hx
       obtain⟨v,g3,g4,g5⟩:=g2 j _ hj
       refine⟨v,g3,g4,?_⟩
       cases g5 with
       |fs _ ad len _ _ hd=>
        cases hd with
        |sl0=>exact .bsl0 _ _ _
        |sl b o l cap k rows g h1=>simp at h1;subst h1;exact .bsl0 _ _ _
      ·rw[List.getElem?_set_ne hjj] at hx
       exact g2 jj x hx
   ·exact h.heap.blk i blk hi
 ·simp only[look] at hi
  split at hi
  ·rename_i he;show i<s.nx+1;omega
  ·rw[q0u] at hi
   split at hi
   ·rename_i he;subst he;have:=h.dom _ _ hrow;show b<s.nx+1;omega
   ·have:=h.dom i blk hi;show i<s.nx+1;omega
theorem q9t{c:Code}(J:Nat→Act→World→Prop)(h0:∀ a w,¬ J 0 a w)(round:∀ m a w,J (m+1) a w→c.wp P (Exit.then (J m) Q) a w){m:Nat}{a:Act}{w:World}(h:J m a w):(Code.loop c).wp P Q a w:=by
 intro b k cs
 have key:∀ m a w,J m a w→∃ e a' w',Q e a' w'∧Arrives P (lone (b.at a (.code c :: .inLoop c :: k)) cs w) b k cs e a' w':=by
  intro m
  induction m with
  |zero=>intro a w h;exact absurd h (h0 a w)
  |succ m ih=>
   intro a w hI
   obtain⟨e,a₁,w₁,hq,harr⟩:=round m a w hI b (.inLoop c :: k) cs
   cases e with
   |normal=>
    obtain⟨e₂,a₂,w₂,hq₂,harr₂⟩:=ih a₁ w₁ hq
    exact⟨e₂,a₂,w₂,hq₂,.of_steps (Steps.trans harr (.one step_inLoop)) harr₂⟩
   |exit id=>exact⟨_,a₁,w₁,hq,.pass (x:=.inLoop c) rfl (fun _ _=>.inl (by simp)) harr⟩
   |goto l=>exact⟨_,a₁,w₁,hq,.pass (x:=.inLoop c) rfl (fun _ _=>.inl (by simp)) harr⟩
   |ret=>exact⟨_,a₁,w₁,hq,.pass (x:=.inLoop c) rfl (fun _ _=>.inl (by simp)) harr⟩
   |panic ch=>exact⟨_,a₁,w₁,hq,.pass (x:=.inLoop c) rfl (fun _ _=>.inl (by simp)) harr⟩
   |outgrown=>exact⟨_,a₁,w₁,hq,.pass (x:=.inLoop c) rfl (fun _ _=>.inl (by simp)) harr⟩
 obtain⟨e,a',w',hq,harr⟩:=key m a w h
 exact⟨e,a',w',hq,.of_steps (.one step_loop) harr⟩
theorem z8n{a:Act}{w:World}{F:Nat→Prop}{σ:Nat→Option Loc}{s:S}(h:StRel K X base w0 F0 m0 σ0 n s a w F σ){x:Operand}{t:TypeId}{e:E}{r:V}(he:q0j P [] t x=some e)(hr:ev K s e=some r):RepV w F base σ (a.eval x) r:=by
 have:Held P K s [] w F base σ a x:=by
  cases x with
  |const v=>exact q7l
  |global g=>exact q8V h.glob
  |func f=>exact q8W
  |tmp t=>
   refine z0C fun r hr=>?_
   simp only[Env.get,look,ev] at hr
   exact h.rho t r hr
 exact this t e r he hr
def Exit.jumpR(J:Nat→Act→World→Prop)(Q:Exit→Act→World→Prop):Exit→Act→World→Prop
 |.goto l,a,w=>J l a w
 |e,a,w=>Q e a w
theorem q8g{c:Code}(J:Nat→Nat→Act→World→Prop)(h0:∀ l a w,¬ J 0 l a w)(round:∀ m l a w,J (m+1) l a w→∃ rest,findLabel c l=some rest∧rest.wp P (Exit.jumpR (J m) Q) a w){m:Nat}{a:Act}{w:World}(first:c.wp P (Exit.jumpR (J m) Q) a w):(Code.scope c).wp P Q a w:=by
 intro b k cs
 have key:∀ m l rest a w,findLabel c l=some rest→J m l a w→∃ e a' w',Q e a' w'∧Arrives P (lone (b.at a (.code rest :: .inScope c :: k)) cs w) b k cs e a' w':=by
  intro m
  induction m with
  |zero=>intro l rest a w _ h;exact absurd h (h0 l a w)
  |succ m ih=>
   intro l rest a w hf hJ
   obtain⟨rest',hf',hwp⟩:=round m l a w hJ
   rw[hf] at hf'
   obtain rfl:=Option.some.inj hf'
   obtain⟨e,a₁,w₁,hq,harr⟩:=hwp b (.inScope c :: k) cs
   cases e with
   |normal=>exact⟨.normal,a₁,w₁,hq,Steps.trans harr (.one step_inScope)⟩
   |exit id=>exact⟨.exit id,a₁,w₁,hq,fun k' hk=>harr k' (by simp [exitTo,hk])⟩
   |goto l'=>
    have hq':J m l' a₁ w₁:=hq
    cases m with
    |zero=>exact absurd hq' (h0 l' a₁ w₁)
    |succ m=>
     obtain⟨rest2,hf2,_⟩:=round m l' a₁ w₁ hq'
     obtain⟨e₂,a₂,w₂,hq₂,harr₂⟩:=ih l' rest2 a₁ w₁ hf2 hq'
     have hg:gotoIn l' (.inScope c :: k)=some (.code rest2 :: .inScope c :: k):=by simp [gotoIn,hf2]
     exact⟨e₂,a₂,w₂,hq₂,.of_steps (harr _ hg) harr₂⟩
   |ret=>exact⟨_,a₁,w₁,hq,harr⟩
   |panic ch=>exact⟨_,a₁,w₁,hq,harr⟩
   |outgrown=>exact⟨_,a₁,w₁,hq,harr⟩
 obtain⟨e,a₁,w₁,hq,harr⟩:=first b (.inScope c :: k) cs
 cases e with
 |normal=>exact⟨.normal,a₁,w₁,hq,.head step_scope (Steps.trans harr (.one step_inScope))⟩
 |exit id=>exact⟨.exit id,a₁,w₁,hq,fun k' hk=>.head step_scope (harr k' (by simp [exitTo,hk]))⟩
 |goto l'=>
  have hq':J m l' a₁ w₁:=hq
  cases m with
  |zero=>exact absurd hq' (h0 l' a₁ w₁)
  |succ m=>
   obtain⟨rest2,hf2,_⟩:=round m l' a₁ w₁ hq'
   obtain⟨e₂,a₂,w₂,hq₂,harr₂⟩:=key _ l' rest2 a₁ w₁ hf2 hq'
   have hg:gotoIn l' (.inScope c :: k)=some (.code rest2 :: .inScope c :: k):=by simp [gotoIn,hf2]
   exact⟨e₂,a₂,w₂,hq₂,.of_steps (.head step_scope (harr _ hg)) harr₂⟩
 |ret=>exact⟨_,a₁,w₁,hq,.of_steps (.one step_scope) harr⟩
 |panic ch=>exact⟨_,a₁,w₁,hq,.of_steps (.one step_scope) harr⟩
 |outgrown=>exact⟨_,a₁,w₁,hq,.of_steps (.one step_scope) harr⟩
theorem z8O(hm:P.follows .mixedOrders=true)(hK:K.Sound P):∀(c:C),(∀(code:Code)(s:S)(r:Ex×S)(a:Act)(w:World)(F:Nat→Prop)(σ:Nat→Option Loc),chk P m0 n c code=true→exec K c s=some r→StRel K X base w0 F0 m0 σ0 n s a w F σ→
  code.wp P (Post K X base w0 F0 m0 σ0 n r) a w)∧
  ∀(code:Code) (l:Nat) (g:S→Option (Ex×S)),chk P m0 n c code=true→exec.labelled K c l=some g→∃ rest,findLabel code l=some rest∧∀(s:S) (r:Ex×S) (a:Act) (w:World) (F:Nat→Prop) (σ:Nat→Option Loc),g s=some r→StRel K X base w0 F0 m0 σ0 n s a w F σ→rest.wp P (Post K X base w0 F0 m0 σ0 n r) a w:=by
 intro c
 induction c with
 |skip=>
  refine⟨?_,fun code l g _ h=>by simp [exec.labelled] at h⟩
  intro code s r a w F σ hc he hs
  cases code <;> simp only[chk] at hc <;> (try(cases hc;done))
  simp only[exec,Option.some.injEq] at he
  subst he
  exact wp_skip ⟨rfl,F,σ,hs⟩
 |ownc t j k=>
  refine⟨?_,fun code l g _ h=>by simp [exec.labelled] at h⟩
  intro code s r a w F σ hc he hs
  cases code <;> simp [chk] at hc
 |regl l=>
  refine⟨?_,fun code l g _ h=>by simp [exec.labelled] at h⟩
  intro code s r a w F σ hc he hs
  cases code <;> simp only[chk] at hc <;> (try(cases hc;done))
  rename_i id ops draw
  simp only[Bool.and_eq_true] at hc
  obtain⟨rfl,hc⟩:=hc
  simp only[exec] at he
  cases hev:q09 K s l with
  |none=>
   simp only[hev] at he
   exact q9B hm hK hc he hs q7X
  |some s'=>
   simp only[hev,Option.some.injEq] at he
   subst he
   exact z0N hm hK hc hev hs fun a w F σ h=>⟨rfl,F,σ,h⟩
 |regp π l=>
  refine⟨?_,fun code l g _ h=>by simp [exec.labelled] at h⟩
  intro code s r a w F σ hc he hs
  cases code <;> simp only[chk] at hc <;> (try(cases hc;done))
  rename_i id ops draw
  simp only[Bool.and_eq_true] at hc
  obtain⟨rfl,hc⟩:=hc
  simp only[exec] at he
  cases hev:q09 K s l with
  |none=>
   simp only[hev] at he
   exact wp_region_any hm (z3v hK hc he hs q7X)
  |some s'=>
   simp only[hev,Option.some.injEq] at he
   subst he
   exact wp_region_any hm (z5W hK hc hev hs fun a w F σ h=>⟨rfl,F,σ,h⟩)
 |regg m' l=>
  refine⟨?_,fun code l g _ h=>by simp [exec.labelled] at h⟩
  intro code s r a w F σ hc he hs
  cases code <;> simp only[chk] at hc <;> (try(cases hc;done))
  rename_i id ops draw
  simp only[Bool.and_eq_true] at hc
  obtain⟨hm',hc⟩:=hc
  obtain rfl:m'=m0:=by simpa using hm'
  simp only[exec] at he
  cases hev:q34 m' K s l with
  |none=>simp [hev] at he
  |some s'=>
   simp only[hev,Option.some.injEq] at he
   subst he
   cases draw with
   |false=>
    simp only[Bool.false_eq_true,if_false] at hc
    exact z1d hK hc hev hs fun a w F σ h=>⟨rfl,F,σ,h⟩
   |true=>
    simp only[if_true] at hc
    exact z0O hm hK hc hev hs fun a w F σ h=>⟨rfl,F,σ,h⟩
 |reg l=>
  refine⟨?_,fun code l g _ h=>by simp [exec.labelled] at h⟩
  intro code s r a w F σ hc he hs
  cases code <;> simp only[chk] at hc <;> (try(cases hc;done))
  rename_i id ops draw
  simp only[exec] at he
  cases hev:q3t K s l with
  |none=>
   simp only[hev] at he
   cases draw with
   |false=>
    simp only[Bool.false_eq_true,if_false] at hc
    exact z1c hK hc he hs q7X
   |true=>
    simp only[if_true] at hc
    exact z0M hm hK hc he hs q7X
  |some s'=>
   simp only[hev,Option.some.injEq] at he
   subst he
   cases draw with
   |false=>
    simp only[Bool.false_eq_true,if_false] at hc
    exact z2R hK hc hev hs fun a w F σ h=>⟨rfl,F,σ,h⟩
   |true=>
    simp only[if_true] at hc
    exact z2s hm hK hc hev hs fun a w F σ h=>⟨rfl,F,σ,h⟩
 |seq x y ihx ihy=>
  refine⟨?_,fun code l g _ h=>by simp [exec.labelled] at h⟩
  intro code s r a w F σ hc he hs
  simp only[exec] at he
  have plain:∀ cx cy,code=.seq cx cy→chk P m0 n x cx=true→chk P m0 n y cy=true→code.wp P (Post K X base w0 F0 m0 σ0 n r) a w:=by
   rintro cx cy rfl h1 h2
   cases hx:exec K x s with
   |none=>simp [hx] at he
   |some p=>
    obtain⟨ex,s'⟩:=p
    refine wp_seq (wp_mono (ihx.1 cx s _ a w F σ h1 hx hs) fun e a' w' hp=>?_)
    cases ex with
    |nrm=>
     obtain⟨rfl,F',σ',hs'⟩:=hp
     simp only[hx] at he
     exact ihy.1 cy s' r a' w' F' σ' h2 he hs'
    |exit id=>obtain⟨rfl,F',σ',hs'⟩:=hp;simp only[hx,Option.some.injEq] at he;subst he;exact⟨rfl,F',σ',hs'⟩
    |goto l=>obtain⟨rfl,F',σ',hs'⟩:=hp;simp only[hx,Option.some.injEq] at he;subst he;exact⟨rfl,F',σ',hs'⟩
    |ret=>obtain⟨rfl,F',σ',hs'⟩:=hp;simp only[hx,Option.some.injEq] at he;subst he;exact⟨rfl,F',σ',hs'⟩
    |pan v=>obtain⟨pv,rfl,hpv,hs'⟩:=hp;simp only[hx,Option.some.injEq] at he;subst he;exact⟨pv,rfl,hpv,hs'⟩
  by_cases hkp:∃ sl,x=.keep sl
  ·obtain⟨sl,rfl⟩:=hkp
   have hc':chk P m0 n y code=true:=by cases code <;> simpa only[chk] using hc
   simp only[exec] at he
   exact ihy.1 code _ r a w F σ hc' he (hs.skipM sl)
  by_cases hgc:∃ m' sl,x=.tidy m' sl
  ·obtain⟨m',sl,rfl⟩:=hgc
   have hc':(m'==m0)=true∧chk P m0 n y code=true:=by cases code <;> simpa only[chk,Bool.and_eq_true] using hc
   obtain⟨hm',hc'⟩:=hc'
   obtain rfl:m'=m0:=by simpa using hm'
   simp only[exec] at he
   cases hts:q7P m' sl s with
   |none=>simp [hts] at he
   |some s'=>
    simp only[hts] at he
    obtain⟨σ',hs'⟩:=hs.tidy hts
    exact ihy.1 code _ r a w F σ' hc' he hs'
  ·by_cases hown:∃ t k,x=.own t k
   ·obtain⟨t,k,rfl⟩:=hown
    have hc':decide (t<n)=true∧chk P m0 n y code=true:=by cases code <;> simpa only[chk,Bool.and_eq_true] using hc
    simp only[exec] at he
    cases hl:look s.rho t with
    |none=>simp only[hl] at he;exact ihy.1 code s r a w F σ hc'.2 he hs
    |some v=>
     cases v with
     |fs c k' rows=>
      cases rows with
      |nil=>
       simp only[hl] at he
       by_cases hk:k'=k
       ·simp only[hk,if_true] at he
        exact ihy.1 code _ r a w F σ hc'.2 he (hs.own hl)
       ·simp only[hk,if_false] at he;exact ihy.1 code s r a w F σ hc'.2 he hs
      |cons _ _=>simp only[hl] at he;exact ihy.1 code s r a w F σ hc'.2 he hs
     |_=>simp only[hl] at he;exact ihy.1 code s r a w F σ hc'.2 he hs
   ·by_cases hfrz:∃ m' t j,x=.frz m' t j
    ·obtain⟨m',t,j,rfl⟩:=hfrz
     have hc':(m'==m0)=true∧chk P m0 n y code=true:=by cases code <;> simpa only[chk,Bool.and_eq_true] using hc
     obtain⟨hm',hc'⟩:=hc'
     obtain rfl:m'=m0:=by simpa using hm'
     simp only[exec] at he
     obtain⟨F',σ',hs'⟩:=hs.freeze t j
     exact ihy.1 code _ r a w F' σ' hc' he hs'
    ·by_cases hoc:∃ t j k,x=.ownc t j k
     ·obtain⟨t,j,k,rfl⟩:=hoc
      have hc':chk P m0 n y code=true:=by cases code <;> simpa only[chk] using hc
      simp only[exec] at he
      exact ihy.1 code _ r a w F σ hc' he (hs.ownc t j k)
     ·cases code with
      |seq cx cy=>
       have:chk P m0 n x cx=true∧chk P m0 n y cy=true:=by
        cases x <;> first|(exact absurd ⟨_,rfl⟩ hkp)|(exact absurd ⟨_,_,rfl⟩ hgc)|(exact absurd ⟨_,_,rfl⟩ hown)|(exact absurd ⟨_,_,_,rfl⟩ hfrz)|(exact absurd ⟨_,_,_,rfl⟩ hoc)|(simpa only[chk,Bool.and_eq_true] using hc)
       exact plain cx cy rfl this.1 this.2
      |_=>cases x <;> first|(exact absurd ⟨_,rfl⟩ hkp)|(exact absurd ⟨_,_,rfl⟩ hgc)|(exact absurd ⟨_,_,rfl⟩ hown)|(exact absurd ⟨_,_,_,rfl⟩ hfrz)|(exact absurd ⟨_,_,_,rfl⟩ hoc)|(simp [chk] at hc)
 |cond e x y ihx ihy=>
  refine⟨?_,fun code l g _ h=>by simp [exec.labelled] at h⟩
  intro code s r a w F σ hc he hs
  cases code <;> simp only[chk] at hc <;> (try(cases hc;done))
  rename_i oc cx cy
  simp only[Bool.and_eq_true,decide_eq_true_eq] at hc
  simp only[exec] at he
  cases hv:ev K s e with
  |none=>simp [hv] at he
  |some v=>
   cases v with
   |d k x=>
    cases x with
    |bool b=>
     simp only[hv] at he
     have hb:=(z8n hs hc.1.1 hv).bool_inv
     refine wp_cond hb ?_
     cases b with
     |true=>exact ihx.1 cx s r a w F σ hc.1.2 (by simpa using he) hs
     |false=>exact ihy.1 cy s r a w F σ hc.2 (by simpa using he) hs
    |_=>simp [hv] at he
   |_=>simp [hv] at he
 |block id x ih=>
  refine⟨?_,fun code l g _ h=>by simp [exec.labelled] at h⟩
  intro code s r a w F σ hc he hs
  cases code <;> simp only[chk] at hc <;> (try(cases hc;done))
  rename_i id' cx
  simp only[Bool.and_eq_true,beq_iff_eq] at hc
  obtain⟨rfl,hc⟩:=hc
  simp only[exec] at he
  cases hx:exec K x s with
  |none=>simp [hx] at he
  |some p=>
   obtain⟨ex,s'⟩:=p
   refine wp_block (wp_mono (ih.1 cx s _ a w F σ hc hx hs) fun e a' w' hp=>?_)
   cases ex with
   |exit i=>
    obtain⟨rfl,F',σ',hs'⟩:=hp
    simp only[hx] at he
    simp only[Ex.to,Exit.inBlock]
    split at he
    ·rename_i hi
     rw[if_pos hi]
     simp only[Option.some.injEq] at he
     subst he
     exact⟨rfl,F',σ',hs'⟩
    ·rename_i hi
     rw[if_neg hi]
     simp only[Option.some.injEq] at he
     subst he
     exact⟨rfl,F',σ',hs'⟩
   |nrm=>obtain⟨rfl,F',σ',hs'⟩:=hp;simp only[hx,Option.some.injEq] at he;subst he;exact⟨rfl,F',σ',hs'⟩
   |goto l=>obtain⟨rfl,F',σ',hs'⟩:=hp;simp only[hx,Option.some.injEq] at he;subst he;exact⟨rfl,F',σ',hs'⟩
   |ret=>obtain⟨rfl,F',σ',hs'⟩:=hp;simp only[hx,Option.some.injEq] at he;subst he;exact⟨rfl,F',σ',hs'⟩
   |pan v=>obtain⟨pv,rfl,hpv,hs'⟩:=hp;simp only[hx,Option.some.injEq] at he;subst he;exact⟨pv,rfl,hpv,hs'⟩
 |loop x ih=>
  refine⟨?_,fun code l g _ h=>by simp [exec.labelled] at h⟩
  intro code s r a w F σ hc he hs
  cases code <;> simp only[chk] at hc <;> (try(cases hc;done))
  rename_i cx
  simp only[exec,q5H] at he
  split at he
  case isFalse=>cases he
  rename_i hex
  refine q9t (J:=fun m a w=>∃ s F σ,iter (exec K x) m s=some r∧StRel K X base w0 F0 m0 σ0 n s a w F σ) (fun a w h=>?_) (fun m a w h=>?_) (m:=hex.choose) ⟨s,F,σ,he,hs⟩
  ·obtain⟨s,F,σ,h,_⟩:=h
   simp [iter] at h
  ·obtain⟨s,F,σ,h,hs⟩:=h
   simp only[iter] at h
   cases hx:exec K x s with
   |none=>simp [hx] at h
   |some p=>
    obtain⟨ex,s'⟩:=p
    refine wp_mono (ih.1 cx s _ a w F σ hc hx hs) fun e a' w' hp=>?_
    cases ex with
    |nrm=>obtain⟨rfl,F',σ',hs'⟩:=hp;simp only[hx] at h;exact⟨s',F',σ',h,hs'⟩
    |exit id=>obtain⟨rfl,F',σ',hs'⟩:=hp;simp only[hx,Option.some.injEq] at h;subst h;exact⟨rfl,F',σ',hs'⟩
    |goto l=>obtain⟨rfl,F',σ',hs'⟩:=hp;simp only[hx,Option.some.injEq] at h;subst h;exact⟨rfl,F',σ',hs'⟩
    |ret=>obtain⟨rfl,F',σ',hs'⟩:=hp;simp only[hx,Option.some.injEq] at h;subst h;exact⟨rfl,F',σ',hs'⟩
    |pan v=>obtain⟨pv,rfl,hpv,hs'⟩:=hp;simp only[hx,Option.some.injEq] at h;subst h;exact⟨pv,rfl,hpv,hs'⟩
 |exit id=>
  refine⟨?_,fun code l g _ h=>by simp [exec.labelled] at h⟩
  intro code s r a w F σ hc he hs
  cases code <;> simp only[chk] at hc <;> (try(cases hc;done))
  simp only[beq_iff_eq] at hc
  subst hc
  simp only[exec,Option.some.injEq] at he
  subst he
  exact wp_exit ⟨rfl,F,σ,hs⟩
 |scope x ls ihx ihl=>
  refine⟨?_,fun code l g _ h=>by simp [exec.labelled] at h⟩
  intro code s r a w F σ hc he hs
  cases code <;> simp only[chk] at hc <;> (try(cases hc;done))
  rename_i cx
  simp only[Bool.and_eq_true] at hc
  simp only[exec,z3S] at he
  split at he
  case isFalse=>cases he
  rename_i hex
  generalize hex.choose=m at he
  cases m with
  |zero=>simp [q37] at he
  |succ m=>
   have post:∀(m:Nat) (p:Ex×S) (e:Exit) (a:Act) (w:World),q37 (fun l=>exec.labelled K ls l) (m+1) (some p)=some r→Post K X base w0 F0 m0 σ0 n p e a w→
     Exit.jumpR (fun l a w=>∃ g s F σ,exec.labelled K ls l=some g∧q37 (fun l=>exec.labelled K ls l) m (g s)=some r∧StRel K X base w0 F0 m0 σ0 n s a w F σ) (Post K X base w0 F0 m0 σ0 n r) e a w:=by
    intro m p e a w hj hp
    obtain⟨ex,s'⟩:=p
    simp only[q37] at hj
    cases ex with
    |nrm=>obtain⟨rfl,F',σ',hs'⟩:=hp;simp only[Option.some.injEq] at hj;subst hj;exact⟨rfl,F',σ',hs'⟩
    |exit id=>obtain⟨rfl,F',σ',hs'⟩:=hp;simp only[Option.some.injEq] at hj;subst hj;exact⟨rfl,F',σ',hs'⟩
    |ret=>obtain⟨rfl,F',σ',hs'⟩:=hp;simp only[Option.some.injEq] at hj;subst hj;exact⟨rfl,F',σ',hs'⟩
    |pan v=>obtain⟨pv,rfl,hpv,hs'⟩:=hp;simp only[Option.some.injEq] at hj;subst hj;exact⟨pv,rfl,hpv,hs'⟩
    |goto l=>
     obtain⟨rfl,F',σ',hs'⟩:=hp
     simp only at hj
     cases hl:exec.labelled K ls l with
     |none=>simp [hl] at hj
     |some g=>
      simp only[hl] at hj
      exact⟨g,s',F',σ',hl,hj,hs'⟩
   cases hx:exec K x s with
   |none=>simp [hx,q37] at he
   |some p=>
    rw[hx] at he
    refine q8g (m:=m) (J:=fun m l a w=>∃ g s F σ,exec.labelled K ls l=some g∧q37 (fun l=>exec.labelled K ls l) m (g s)=some r∧StRel K X base w0 F0 m0 σ0 n s a w F σ) (fun l a w h=>?_) (fun m l a w h=>?_) (wp_mono (ihx.1 cx s _ a w F σ hc.1 hx hs) fun e a' w' hp=>post m p e a' w' he hp)
    ·obtain⟨g,s,F,σ,_,h,_⟩:=h
     simp [q37] at h
    ·obtain⟨g,s,F,σ,hl,hj,hs⟩:=h
     obtain⟨rest,hf,hrest⟩:=ihl.2 cx l g hc.2 hl
     refine⟨rest,hf,?_⟩
     cases hg:g s with
     |none=>rw[hg] at hj;simp [q37] at hj
     |some p=>
      rw[hg] at hj
      exact wp_mono (hrest s p a w F σ hg hs) fun e a' w' hp=>post m p e a' w' hj hp
 |lnil=>exact⟨fun code s r a w F σ hc he=>by simp [exec] at he,fun code l g _ h=>by simp [exec.labelled] at h⟩
 |lcons l0 c ls ihc ihl=>
  refine⟨fun code s r a w F σ hc he=>by simp [exec] at he,fun code l g hc h=>?_⟩
  have hc':((match findLabel code l0 with|some rest=>chk P m0 n c rest|none=>false)&&chk P m0 n ls code)=true:=by cases code <;> simpa only[chk] using hc
  simp only[Bool.and_eq_true] at hc'
  simp only[exec.labelled] at h
  split at h
  ·rename_i he
   subst he
   obtain rfl:=Option.some.inj h
   cases hf:findLabel code l0 with
   |none=>simp [hf] at hc'
   |some rest=>
    simp only[hf] at hc'
    exact⟨rest,rfl,fun s r a w F σ he hs=>ihc.1 rest s r a w F σ hc'.1 he hs⟩
  ·exact ihl.2 code l g hc'.2 h
 |label l=>
  refine⟨?_,fun code l g _ h=>by simp [exec.labelled] at h⟩
  intro code s r a w F σ hc he hs
  cases code <;> simp only[chk] at hc <;> (try(cases hc;done))
  simp only[exec,Option.some.injEq] at he
  subst he
  exact wp_label ⟨rfl,F,σ,hs⟩
 |goto l=>
  refine⟨?_,fun code l g _ h=>by simp [exec.labelled] at h⟩
  intro code s r a w F σ hc he hs
  cases code <;> simp only[chk] at hc <;> (try(cases hc;done))
  simp only[beq_iff_eq] at hc
  subst hc
  simp only[exec,Option.some.injEq] at he
  subst he
  exact wp_goto ⟨rfl,F,σ,hs⟩
 |ret=>
  refine⟨?_,fun code l g _ h=>by simp [exec.labelled] at h⟩
  intro code s r a w F σ hc he hs
  cases code <;> simp only[chk] at hc <;> (try(cases hc;done))
  simp only[exec,Option.some.injEq] at he
  subst he
  exact wp_ret ⟨rfl,F,σ,hs⟩
 |keep=>exact⟨fun code s r a w F σ hc he=>by cases code <;> simp [chk] at hc,fun code l g _ h=>by simp [exec.labelled] at h⟩
 |tidy=>exact⟨fun code s r a w F σ hc he=>by cases code <;> simp [chk] at hc,fun code l g _ h=>by simp [exec.labelled] at h⟩
 |own=>exact⟨fun code s r a w F σ hc he=>by cases code <;> simp [chk] at hc,fun code l g _ h=>by simp [exec.labelled] at h⟩
 |stuck=>exact⟨fun code s r a w F σ hc he=>by simp [exec] at he,fun code l g _ h=>by simp [exec.labelled] at h⟩
 |frz=>exact⟨fun code s r a w F σ hc he=>by cases code <;> simp [chk] at hc,fun code l g _ h=>by simp [exec.labelled] at h⟩
theorem q0Y(hm:P.follows .mixedOrders=true)(hK:K.Sound P)(c:C)(code:Code)(s:S)(r:Ex×S)(a:Act)(w:World)(F:Nat→Prop)(σ:Nat→Option Loc)(hc:chk P m0 n c code=true)(he:exec K c s=some r)(hs:StRel K X base w0 F0 m0 σ0 n s a w F σ) :
  code.wp P (Post K X base w0 F0 m0 σ0 n r) a w:=(z8O hm hK c).1 code s r a w F σ hc he hs
end Go.Vm
end

section
namespace Go.Vm
open Go.RowKit

def hNew (H : List (Nat × Blk)) : Bool := H.all fun p => match p.2 with
  | .dat c _ rows => c || q0R rows
  | .mix _ rows => rows.all (·.all V.newR)
  | .map es => es.all fun q => match q.2 with
    | .agg cs => cs.all V.newR
    | v => v.newR

def restH (bs : List Nat) (H : List (Nat × Blk)) : List (Nat × Blk) := forgetH bs.contains (H.filter fun p => !bs.contains p.1)

def finC (z : Bool) (bs : List Nat) (H : List (Nat × Blk)) : V → Option V
  | .d c y => some (.d c y)
  | .fs c k r => some (.fs c k r)
  | .ptr b i j => if bs.contains b then some (.ptr (bs.idxOf b) i j) else (q0b viewDepth (restH bs H) (.ptr b i j)).map (.d (z && hNew (restH bs H)))
  | .bsl b i n => if bs.contains b then some (.bsl (bs.idxOf b) i n) else (q0b viewDepth (restH bs H) (.bsl b i n)).map (.d (z && hNew (restH bs H)))
  | .bsx b i n => if bs.contains b then some (.bsx (bs.idxOf b) i n) else (q0b viewDepth (restH bs H) (.bsx b i n)).map (.d (z && hNew (restH bs H)))
  | .iface t v => (q0b viewDepth (restH bs H) (V.drop1 bs.contains (.iface t v))).map (.d false)
  | .map b => if bs.contains b then some (.map (bs.idxOf b)) else none
  | _ => none
def finA (z : Bool) (bs : List Nat) (H : List (Nat × Blk)) : V → Option V
  | .agg cs => (mapO (finC z bs H) cs).map .agg
  | .fn f cs => (mapO (finC z bs H) cs).map (.fn f)
  | v => finC z bs H v
def finV (z : Bool) (bs : List Nat) (H : List (Nat × Blk)) : V → Option V
  | .tup vs => (mapO (finA z bs H) vs).map .tup
  | v => finA z bs H v
def finB (z : Bool) (bs : List Nat) (H : List (Nat × Blk)) (b : Nat) : Option Blk := match look H b with
  | some (.dat c k rows) => some (.dat (c || (z && q0R rows)) k rows)
  | some (.mix k rows) => (mapO (mapO (finC z bs H)) rows).map (.mix k)
  | some (.map es) => (mapO (fun q => (finA z bs H q.2).map fun v => (q.1, v)) es).map .map
  | none => none

structure Fun where
  body : C
  res : List E
  own : Bool
  deriving Inhabited

def q0d : List V → V
  | [v] => v
  | vs => .tup vs

def finish (m : Nat) (own : Bool) (s : S) (v : V) : Option (V × List Blk × List Nat) :=
  let bs := if own then q03 s.heap (refN s.heap + 64) [] (List.range m ++ v.refs) else List.range m
  if decide bs.Nodup && decide (bs.take m = List.range m) then
    match finV (m == 0) bs s.heap v, mapO (finB (m == 0) bs s.heap) bs with
    | some r, some news => some (r, news, (List.range m).filter fun b => s.mv.contains b)
    | _, _ => none
  else none

def startS (args : List V) (blks : List Blk) : S := ⟨(args.zipIdx.map fun (v, i) => (i, v)), indexed blks, blks.length, []⟩

noncomputable def q0U (K : Cx) (g : Fun) (args : List V) (blks : List Blk) : Option (V × List Blk × List Nat) :=
  match exec K g.body (startS args blks) with
  | some (.nrm, s) => match mapO (ev K s) g.res with
    | some vs => finish blks.length g.own s (q0d vs)
    | none => none
  | some (.ret, s) => match mapO (ev K s) g.res with
    | some vs => finish blks.length g.own s (q0d vs)
    | none => none
  | _ => none

def resE (P : Program) : ResultVar → Option E
  | .tmp t => some (.sl t)
  | .cell a t => match P.info? t, P.underlying t with
    | some i, some d => some (.ld i.size (q3s d) (.sl a))
    | _, _ => none

def q1s (P : Program) (f : FuncId) (m n : Nat) (g : Fun) : Bool :=
  match P.funcs[f]? with
  | some fn => match fn.body with
    | some code => chk P m fn.ntmps g.body code && decide (mapO (resE P) fn.results.toList = some g.res) && decide (n ≤ fn.ntmps) && (fn.name != "runtime.NumGoroutine")
    | none => false
  | none => false

variable {P : Program} {w : World} {F : Nat → Prop} {X : Nat → Nat → Prop} {base nx : Nat} {σ : Nat → Option Loc} {H : List (Nat × Blk)} {bs : List Nat}

theorem q8S {f : V → Option V} : ∀ {es es' : List (D × V)}, mapO (fun q => (f q.2).map fun v => (q.1, v)) es = some es' → es'.map (·.1) = es.map (·.1)
  | [], es', h => by obtain rfl := Option.some.inj h; rfl
  | q :: es, es', h => by
    simp only [mapO] at h
    cases hq : f q.2 with
    | none => simp [hq] at h
    | some v =>
      cases hr : mapO (fun q => (f q.2).map fun v => (q.1, v)) es with
      | none => simp [hq, hr] at h
      | some r =>
        simp only [hq, hr, Option.map_some, Option.some.injEq] at h
        subst h
        simp only [List.map_cons, q8S hr]

theorem MemObj.ofO {f : V → Option V} {w w' : World} {σ σ' : Nat → Option Loc} {l : Loc} {ck : Nat} {es : Array MapEntry} {ds ds' : List (D × V)} (hw : w'.heap[l.blk]? = w.heap[l.blk]?) (hes : mapO (fun q => (f q.2).map fun v => (q.1, v)) ds = some ds')
    (hf : ∀ q ∈ ds, ∀ y, f q.2 = some y → ∀ v, BufV σ v q.2 → BufV σ' v y) (h : MemObj w σ l es ck ds) : MemObj w' σ' l es ck ds' := by
  have hk := q8S hes
  rcases h with ⟨h, hx, ht⟩ | ⟨T, p, v, x, h1, h2, h3, h4⟩ | ⟨T, cur, fz, bs, h1, h2, h3⟩
  · refine .inl ⟨by rw [hw]; exact h, hx, ?_⟩
    cases ds with
    | nil => obtain rfl : ds' = [] := by simpa using hk
             rfl
    | cons q ds =>
      obtain ⟨k, v⟩ := q
      cases ds' with
      | nil => simp at hk
      | cons q' ds' =>
        obtain ⟨k', v'⟩ := q'
        simp only [List.map_cons, List.cons.injEq] at hk
        obtain ⟨rfl, _⟩ := hk
        cases k' <;> first | rfl | (simp [q2p] at ht)
  · subst h1
    simp only [mapO] at hes
    cases hx : f x with
    | none => simp [hx] at hes
    | some y =>
      simp only [hx, Option.map_some, Option.some.injEq] at hes
      subst hes
      exact .inr (.inl ⟨T, p, v, y, rfl, by rw [hw]; exact h2, h3, hf (.nils T, x) (by simp) y hx v h4⟩)
  · exact .inr (.inr ⟨T, cur, fz, bs, by rw [hk]; exact h1, by rw [hw]; exact h2, h3⟩)

theorem z9p {c : Bool} {b : Nat} (h : col F base true b) : col (New F base) base c b := by
  cases c
  · exact h
  · exact ⟨h, h.2⟩

theorem RepV.newF {v : Value} {x : V} (hx : x.newR = true) (h : RepV w F base σ v x) : RepV w (New F base) base σ v x := by
  cases h with
  | d c v x h =>
    simp only [V.newR, V.new1, Bool.or_eq_true] at hx
    cases c with
    | true => exact .d _ _ _ (h.mono fun b hb => ⟨z9p hb, rfl⟩)
    | false => exact .d _ _ _ (h.flat (by simpa using hx))
  | fs c a len k rows h =>
    simp only [V.newR, V.new1] at hx
    subst hx
    exact .fs _ _ _ _ _ (h.mono fun b hb => ⟨z9p hb, rfl⟩)
  | ptr b i j l hl => exact .ptr b i j l hl
  | bsl0 a b i => exact .bsl0 a b i
  | bsl b i len cap l hl h1 h2 => exact .bsl b i len cap l hl h1 h2
  | bsx b i len cap l a hl h1 h2 h3 => exact .bsx b i len cap l a hl h1 h2 h3
  | map b l hl => exact .map b l hl
  | _ => simp [V.newR, V.new1] at hx

theorem j0l {c : Bool} (hc : c = true) (d : D) : (mkd c d).newR = true := by
  subst hc
  unfold mkd
  split <;> simp [V.newR, V.new1, *]

theorem z2d {rows : List (List D)} {i j : Nat} {r : List D} {d : D} (h : q0R rows = true) (hr : rows[i]? = some r) (hd : r[j]? = some d) : d.flat = true := by
  simp only [q0R, List.all_eq_true] at h
  exact h r (List.mem_of_getElem? hr) d (List.mem_of_getElem? hd)
theorem HeapRel.newF (hn : hNew H = true) (h : HeapRel w F X base σ nx H) : HeapRel w (New F base) X base σ nx H := by
  refine ⟨fun b blk hb => ?_, h.inj, fun b l hb => ⟨(h.own b l hb).1, fun hf => (h.own b l hb).2.1 hf.1, (h.own b l hb).2.2⟩, fun b hb => h.fro b hb.1⟩
  have hin : ∃ p ∈ H, p = (b, blk) := by
    clear hn h
    induction H with
    | nil => simp [look] at hb
    | cons p H ih =>
      obtain ⟨k, v⟩ := p
      simp only [look] at hb
      split at hb
      · rename_i hk
        subst hk
        obtain rfl := Option.some.inj hb
        exact ⟨_, List.mem_cons_self .., rfl⟩
      · obtain ⟨p, hp, he⟩ := ih hb
        exact ⟨p, List.mem_cons_of_mem _ hp, he⟩
  obtain ⟨p, hp, rfl⟩ := hin
  simp only [hNew, List.all_eq_true] at hn
  have hnb := hn _ hp
  rcases h.blk b blk hb with ⟨h1, h2⟩ | ⟨l, es, ck, ds, rfl, h1, h2, h3, h4, h5⟩ | ⟨l, cs, T, h1, h2, h3, h4, h5, h6, h7⟩
  · exact .inl ⟨h1, h2⟩
  · have := h5.transM (f := fun x => x) (w' := w) (F' := New F base) (base' := base) (σ' := σ) fun q hq v hv => by
      simp only [List.all_eq_true] at hnb
      have hqn := hnb q hq
      obtain ⟨qk, qv⟩ := q
      cases qv with
      | agg cs =>
        cases hv with
        | agg vs _ g1 g2 g3 =>
          simp only [List.all_eq_true] at hqn
          exact .agg vs cs g1 (fun j v x hv hx => (g2 j v x hv hx).newF (hqn x (List.mem_of_getElem? hx))) g3
      | _ => exact hv.newF hqn
    exact .inr (.inl ⟨l, es, ck, ds, rfl, h1, h2, h3, h4, by simpa using this⟩)
  · refine .inr <| .inr ⟨l, cs, T, h1, h2, h3, h4, h5, fun i row hrow => ⟨(h6 i row hrow).1, fun j x hx => ?_⟩, h7⟩
    obtain ⟨v, g1, g2, g3⟩ := (h6 i row hrow).2 j x hx
    refine ⟨v, g1, g2, g3.newF ?_⟩
    cases blk with
    | dat c k rows =>
      simp only [Blk.row?, Option.map_eq_some_iff] at hrow
      obtain ⟨r, hr, rfl⟩ := hrow
      simp only [List.getElem?_map, Option.map_eq_some_iff] at hx
      obtain ⟨d, hd, rfl⟩ := hx
      rcases Bool.or_eq_true _ _ ▸ hnb with hc | hf
      · exact j0l hc d
      · have := z2d hf hr hd
        simp [mkd, this, V.newR, V.new1]
    | mix k rows =>
      simp only [Blk.row?] at hrow
      simp only [List.all_eq_true] at hnb
      exact hnb row (List.mem_of_getElem? hrow) x (List.mem_of_getElem? hx)
    | map es => simp [Blk.entries] at h7

def wo (bs : List Nat) (σ : Nat → Option Loc) (b : Nat) : Option Loc := if bs.contains b then none else σ b
def outs (bs : List Nat) (σ : Nat → Option Loc) (i : Nat) : Option Loc := match bs[i]? with
  | some b => σ b
  | none => none

theorem q5N {b : Nat} {l : Loc} (h : wo bs σ b = some l) : bs.contains b = false ∧ σ b = some l := by
  unfold wo at h
  split at h
  · cases h
  · rename_i hb; exact ⟨by simpa using hb, h⟩
theorem z47 : ∀ b l, σ b = some l → bs.contains b = false → wo bs σ b = some l := by
  intro b l h1 h2
  unfold wo
  rw [if_neg (by rw [h2]; exact Bool.false_ne_true)]
  exact h1

theorem q5T (p : Nat → Bool) : ∀ (H : List (Nat × Blk)) (b : Nat) (blk : Blk), look (H.filter fun q => p q.1) b = some blk → p b = true ∧ look H b = some blk
  | [], b, blk, h => by simp [look] at h
  | (k, v) :: H, b, blk, h => by
    simp only [List.filter_cons] at h
    split at h
    · rename_i hk
      simp only [look] at h ⊢
      split at h
      · rename_i he
        subst he
        rw [if_pos rfl]
        exact ⟨hk, h⟩
      · rename_i he
        rw [if_neg he]
        exact q5T p H b blk h
    · rename_i hk
      obtain ⟨h1, h2⟩ := q5T p H b blk h
      refine ⟨h1, ?_⟩
      simp only [look]
      rw [if_neg (fun e => hk (by subst e; exact h1))]
      exact h2

theorem z1x (h : HeapRel w F X base σ nx H) : HeapRel w F X base (wo bs σ) nx (restH bs H) := by
  refine ⟨fun b blk hb => ?_, fun b b' l l' h1 h2 => h.inj b b' l l' (q5N h1).2 (q5N h2).2, fun b l hb => h.own b l (q5N hb).2, h.fro⟩
  unfold restH forgetH at hb
  rw [q3k] at hb
  simp only [Option.map_eq_some_iff] at hb
  obtain ⟨blk0, h1, rfl⟩ := hb
  obtain ⟨h2, h3⟩ := q5T (fun b => !bs.contains b) H b blk0 h1
  have h2' : bs.contains b = false := by simpa using h2
  have hs : ∀ l, σ b = some l → wo bs σ b = some l := fun l hl => z47 b l hl h2'
  refine (h.blk b blk0 h3).forget _ (fun b hb => ⟨hb, rfl⟩) z47 hs (fun h4 => ?_) (fun _ _ => rfl)
  unfold wo
  split
  · rfl
  · exact h4

def FZ (F : Nat → Prop) (bs : List Nat) (σ : Nat → Option Loc) : Nat → Prop := All F (wo bs σ)

variable {z : Bool}

def z56 (X : Nat → Nat → Prop) (base : Nat) (bs : List Nat) (σ : Nat → Option Loc) : Prop := ∀ i l, wo bs σ i = some l → base ≤ l.blk

theorem q8E {b : Nat} {l : Loc} (h1 : σ b = some l) (h2 : bs.contains b = true) : outs bs σ (bs.idxOf b) = some l := by
  unfold outs
  have hm : b ∈ bs := by simpa using h2
  have : bs[bs.idxOf b]? = some b := by
    rw [List.getElem?_eq_getElem (List.idxOf_lt_length_of_mem hm)]
    rw [List.getElem_idxOf]
  rw [this]
  exact h1

theorem j0F {z : Bool} {x y : V} (hy : finC z bs H x = some y) {v : Value} (hv : BufV σ v x) : BufV (outs bs σ) v y := by
  cases x with
  | bsl b i n =>
    simp only [finC] at hy
    split at hy
    · rename_i hb
      obtain rfl := Option.some.inj hy
      obtain ⟨h0, h | ⟨l, h1, h2⟩⟩ := hv
      · exact ⟨h0, .inl h⟩
      · exact ⟨h0, .inr ⟨l, q8E h1 hb, h2⟩⟩
    · simp only [Option.map_eq_some_iff] at hy
      obtain ⟨d, _, rfl⟩ := hy
      trivial
  | d c d => obtain rfl := Option.some.inj hy; trivial
  | fs c k r => obtain rfl := Option.some.inj hy; trivial
  | ptr b i j =>
    simp only [finC] at hy
    split at hy
    · obtain rfl := Option.some.inj hy; trivial
    · simp only [Option.map_eq_some_iff] at hy
      obtain ⟨d, _, rfl⟩ := hy
      trivial
  | bsx b i j =>
    simp only [finC] at hy
    split at hy
    · obtain rfl := Option.some.inj hy; trivial
    · simp only [Option.map_eq_some_iff] at hy
      obtain ⟨d, _, rfl⟩ := hy
      trivial
  | iface t u =>
    simp only [finC, Option.map_eq_some_iff] at hy
    obtain ⟨d, _, rfl⟩ := hy
    trivial
  | map b =>
    simp only [finC] at hy
    split at hy
    · obtain rfl := Option.some.inj hy; trivial
    · cases hy
  | _ => simp [finC] at hy
theorem j0G {z : Bool} {x y : V} (hy : finA z bs H x = some y) {v : Value} (hv : BufV σ v x) : BufV (outs bs σ) v y := by
  cases x with
  | agg cs =>
    simp only [finA, Option.map_eq_some_iff] at hy
    obtain ⟨d, _, rfl⟩ := hy
    trivial
  | fn f cs =>
    simp only [finA, Option.map_eq_some_iff] at hy
    obtain ⟨d, _, rfl⟩ := hy
    trivial
  | _ => exact j0F (by simpa only [finA] using hy) hv

theorem q97 (h : HeapRel w F X base σ nx H) (hy : z56 X base bs σ) (v : Value) (x r : V) (hr : finC z bs H x = some r) (hR : RepV w F base σ v x) : RepV w (FZ F bs σ) base (outs bs σ) v r := by
  have hsub : ∀ b, F b → FZ F bs σ b ∧ w.heap[b]? = w.heap[b]? := fun b hb => ⟨.inl hb, rfl⟩
  have frozen : ∀ (x : V), x.newR = true → (∃ y, (q0b viewDepth (restH bs H) x) = some y ∧ r = .d (z && hNew (restH bs H)) y) → RepV w F base (wo bs σ) v x → RepV w (FZ F bs σ) base (outs bs σ) v r := by
    rintro x hx ⟨y, hyy, rfl⟩ hR
    have hH := z1x (bs := bs) h
    cases hn : z && hNew (restH bs H) with
    | false => exact .d _ _ _ (q22 hH _ _ _ _ hyy hR)
    | true =>
      simp only [Bool.and_eq_true] at hn
      refine .d _ _ _ ((q22 (hH.newF hn.2) _ _ _ _ hyy (hR.newF hx)).mono fun b hb => ⟨?_, rfl⟩)
      rcases hb with hb | ⟨i, l, hl, rfl⟩
      · exact ⟨.inl hb.1, hb.2⟩
      · exact ⟨.inr ⟨i, l, hl, rfl⟩, hy i l hl⟩
  have hFF : ∀ b, F b → F b ∧ w.heap[b]? = w.heap[b]? := fun b hb => ⟨hb, rfl⟩
  cases x with
  | d c y =>
    simp only [finC, Option.some.injEq] at hr
    subst hr
    cases hR with
    | d _ _ _ hd => exact .d _ _ _ (hd.mono (q5E hsub c))
  | fs c k rows =>
    simp only [finC, Option.some.injEq] at hr
    subst hr
    cases hR with
    | fs _ _ _ _ _ hd => exact .fs _ _ _ _ _ (hd.mono (q5E hsub c))
  | ptr b i j =>
    simp only [finC] at hr
    split at hr
    · rename_i hb
      obtain rfl := Option.some.inj hr
      cases hR with
      | ptr _ _ _ l hl => exact .ptr _ _ _ l (q8E hl hb)
    · rename_i hb
      simp only [Option.map_eq_some_iff] at hr
      obtain ⟨y, hy, rfl⟩ := hr
      exact frozen (.ptr b i j) rfl ⟨y, hy, rfl⟩ (hR.keep0 hFF z47 (by simpa [V.ref0] using hb))
  | bsl b i n =>
    simp only [finC] at hr
    split at hr
    · rename_i hb
      obtain rfl := Option.some.inj hr
      cases hR with
      | bsl0 => exact .bsl0 _ _ _
      | bsl _ _ _ cap l hl h1 h2 => exact .bsl _ _ _ cap l (q8E hl hb) h1 h2
    · rename_i hb
      simp only [Option.map_eq_some_iff] at hr
      obtain ⟨y, hy, rfl⟩ := hr
      exact frozen (.bsl b i n) rfl ⟨y, hy, rfl⟩ (hR.keep0 hFF z47 (by simpa [V.ref0] using hb))
  | bsx b i n =>
    simp only [finC] at hr
    split at hr
    · rename_i hb
      obtain rfl := Option.some.inj hr
      cases hR with
      | bsx _ _ _ cap l a hl h1 h2 h3 => exact .bsx _ _ _ cap l a (q8E hl hb) h1 h2 h3
    · rename_i hb
      simp only [Option.map_eq_some_iff] at hr
      obtain ⟨y, hy, rfl⟩ := hr
      exact frozen (.bsx b i n) rfl ⟨y, hy, rfl⟩ (hR.keep0 hFF z47 (by simpa [V.ref0] using hb))
  | iface t u =>
    simp only [finC, Option.map_eq_some_iff] at hr
    obtain ⟨y, hy, rfl⟩ := hr
    exact .d _ _ _ (q22 (z1x (bs := bs) h) _ _ _ _ hy (hR.drop1 hFF z47))
  | map b =>
    simp only [finC] at hr
    split at hr
    · rename_i hb
      obtain rfl := Option.some.inj hr
      cases hR with
      | map _ l hl => exact .map _ l (q8E hl hb)
    · cases hr
  | _ => simp [finC] at hr

theorem z0l {f : V → Option V} {R R' : Value → V → Prop} (hf : ∀ v x r, f x = some r → R v x → R' v r) {cs : Array Value} {xs rs : List V} (hm : mapO f xs = some rs) (hsz : cs.size = xs.length) (h : ∀ (j : Nat) (v : Value) (x : V), cs[j]? = some v → xs[j]? = some x → R v x) :
    cs.size = rs.length ∧ ∀ (j : Nat) (v : Value) (x : V), cs[j]? = some v → rs[j]? = some x → R' v x := by
  obtain ⟨m1, m2⟩ := q0n hm
  refine ⟨by omega, fun j v x hv hx => ?_⟩
  have hj : j < xs.length := by rw [← m1]; exact (List.getElem?_eq_some_iff.1 hx).1
  obtain ⟨y, hy, hvd⟩ := m2 j _ (List.getElem?_eq_getElem hj)
  rw [hx] at hy
  obtain rfl := Option.some.inj hy
  exact hf v _ x hvd (h j v _ hv (List.getElem?_eq_getElem hj))

theorem q7m (h : HeapRel w F X base σ nx H) (hy : z56 X base bs σ) (v : Value) (x r : V) (hr : finA z bs H x = some r) (hR : RepV w F base σ v x) : RepV w (FZ F bs σ) base (outs bs σ) v r := by
  have one : ∀ v x r, finC z bs H x = some r → RepV w F base σ v x → RepV w (FZ F bs σ) base (outs bs σ) v r := fun v x r h1 h2 => q97 h hy v x r h1 h2
  cases x with
  | agg xs =>
    simp only [finA, Option.map_eq_some_iff] at hr
    obtain ⟨rs, hm, rfl⟩ := hr
    cases hR with
    | agg cs _ h1 h2 h3 =>
      obtain ⟨g1, g2⟩ := z0l one hm h1 h2
      exact .agg cs rs g1 g2 h3
  | fn f xs =>
    simp only [finA, Option.map_eq_some_iff] at hr
    obtain ⟨rs, hm, rfl⟩ := hr
    cases hR with
    | fn _ cs _ h1 h2 =>
      obtain ⟨g1, g2⟩ := z0l one hm h1 h2
      exact .fn f cs rs g1 g2
  | _ => simp only [finA] at hr; exact one v _ r hr hR

theorem q96 (h : HeapRel w F X base σ nx H) (hy : z56 X base bs σ) {v : Value} {x r : V} (hr : finV z bs H x = some r) (hR : RepV w F base σ v x) : RepV w (FZ F bs σ) base (outs bs σ) v r := by
  cases x with
  | tup xs =>
    simp only [finV, Option.map_eq_some_iff] at hr
    obtain ⟨rs, hm, rfl⟩ := hr
    cases hR with
    | tup cs _ h1 h2 =>
      obtain ⟨g1, g2⟩ := z0l (q7m h hy) hm h1 h2
      exact .tup cs rs g1 g2
  | _ => simp only [finV] at hr; exact q7m h hy v _ r hr hR

theorem q8D {i : Nat} {l : Loc} (hi : outs bs σ i = some l) : ∃ b, bs[i]? = some b ∧ σ b = some l := by
  unfold outs at hi
  split at hi
  · rename_i b hb; exact ⟨b, hb, hi⟩
  · cases hi

theorem z2h (h : HeapRel w F X base σ nx H) (hy : z56 X base bs σ) (hbs : bs.Nodup) (hX : ∀ b k, X b k → bs[b]? = some b) {news : List Blk} (hm : mapO (finB z bs H) bs = some news) : HeapRel w (FZ F bs σ) X base (outs bs σ) news.length (indexed news) := by
  obtain ⟨m1, m2⟩ := q0n hm
  have hsub : ∀ b, F b → FZ F bs σ b ∧ w.heap[b]? = w.heap[b]? := fun b hb => ⟨.inl hb, rfl⟩
  refine ⟨fun i blk hi => ?_, fun i j l l' h1 h2 he => ?_, fun i l hi => ?_, fun b hb => ?_⟩
  · rw [q3l] at hi
    have hil : i < bs.length := by rw [← m1]; exact (List.getElem?_eq_some_iff.1 hi).1
    obtain ⟨y, hyy, hb⟩ := m2 i _ (List.getElem?_eq_getElem hil)
    rw [hi] at hyy
    obtain rfl := Option.some.inj hyy
    have hout : outs bs σ i = σ bs[i] := by unfold outs; rw [List.getElem?_eq_getElem hil]
    unfold finB at hb
    split at hb
    · rename_i c k rows hlk
      obtain rfl := Option.some.inj hb
      rcases h.blk _ _ hlk with ⟨g1, g2⟩ | ⟨_, _, _, _, hbad, _⟩ | ⟨l, cs, T, g1, g2, g3, g4, g5, g6, g7⟩
      · exact .inl ⟨g1, by rw [hout]; exact g2⟩
      · cases hbad
      · refine .inr <| .inr ⟨l, cs, T, by rw [hout]; exact g1, g2, g3, g4, g5, fun i row hrow => ⟨by
          simp only [Blk.row?, Option.map_eq_some_iff] at hrow
          obtain ⟨r, hr, rfl⟩ := hrow
          have := (g6 i (r.map (mkd c)) (by simp [Blk.row?, hr])).1
          simpa [Blk.k] using this, fun j x hx => ?_⟩, rfl⟩
        simp only [Blk.row?, Option.map_eq_some_iff] at hrow
        obtain ⟨r, hr, rfl⟩ := hrow
        simp only [List.getElem?_map, Option.map_eq_some_iff] at hx
        obtain ⟨d, hd, rfl⟩ := hx
        have ed : mkd (c || (z && q0R rows)) d = mkd c d := by
          cases hf : q0R rows with
          | false => simp
          | true => simp only [mkd, z2d hf hr hd, if_true]
        rw [ed]
        obtain ⟨v, e1, e2, e3⟩ := (g6 i (r.map (mkd c)) (by simp [Blk.row?, hr])).2 j (mkd c d) (by simp [hd])
        refine ⟨v, e1, e2, ?_⟩
        refine e3.keep0 (p := fun _ => true) hsub (fun _ _ _ h => by cases h) ?_
        unfold mkd
        split <;> rfl
    · rename_i k rows hlk
      simp only [Option.map_eq_some_iff] at hb
      obtain ⟨rows', hrows, rfl⟩ := hb
      obtain ⟨p1, p2⟩ := q0n hrows
      rcases h.blk _ _ hlk with ⟨g1, g2⟩ | ⟨_, _, _, _, hbad, _⟩ | ⟨l, cs, T, g1, g2, g3, g4, g5, g6, g7⟩
      · exact .inl ⟨by simp only [Blk.n] at g1 ⊢; omega, by rw [hout]; exact g2⟩
      · cases hbad
      · refine .inr <| .inr ⟨l, cs, T, by rw [hout]; exact g1, g2, g3, by simp only [Blk.n] at g4 ⊢; omega, g5, fun i row hrow => ?_, rfl⟩
        simp only [Blk.row?] at hrow
        have hi' : i < rows.length := by rw [← p1]; exact (List.getElem?_eq_some_iff.1 hrow).1
        obtain ⟨row', hrow', hm'⟩ := p2 i _ (List.getElem?_eq_getElem hi')
        rw [hrow] at hrow'
        obtain rfl := Option.some.inj hrow'
        obtain ⟨q1, q2⟩ := q0n hm'
        obtain ⟨r1, r2⟩ := g6 i rows[i] (by simp [Blk.row?, hi'])
        refine ⟨by simp only [Blk.k] at r1 ⊢; omega, fun j x hx => ?_⟩
        have hj : j < rows[i].length := by rw [← q1]; exact (List.getElem?_eq_some_iff.1 hx).1
        obtain ⟨x', hx', hfx⟩ := q2 j _ (List.getElem?_eq_getElem hj)
        rw [hx] at hx'
        obtain rfl := Option.some.inj hx'
        obtain ⟨v, e1, e2, e3⟩ := r2 j _ (List.getElem?_eq_getElem hj)
        exact ⟨v, e1, e2, q97 h hy v _ x hfx e3⟩
    · rename_i es hlk
      simp only [Option.map_eq_some_iff] at hb
      obtain ⟨es', hes, rfl⟩ := hb
      obtain ⟨p1, p2⟩ := q0n hes
      rcases h.blk _ _ hlk with ⟨g1, _⟩ | ⟨l, xs, ck, ds, hds, g1, g2, g3, g4, g5⟩ | ⟨_, _, _, _, _, _, _, _, _, hbad⟩
      · refine .inl ⟨?_, by rw [hout]; assumption⟩
        have hk := q8S hes
        simp only [Blk.n, q9U, hk] at g1 ⊢
        exact g1
      · obtain rfl : es = ds := by injection hds
        refine .inr (.inl ⟨l, xs, ck, es', rfl, by rw [hout]; exact g1, g2.ofO rfl hes (fun q hq y hy v hv => j0G hy hv), g3, g4, by rw [g5.1, p1], fun j e p he hp => ?_⟩)
        have hj : j < es.length := by rw [← p1]; exact (List.getElem?_eq_some_iff.1 hp).1
        obtain ⟨y, hy', hfy⟩ := p2 j _ (List.getElem?_eq_getElem hj)
        rw [hp] at hy'
        obtain rfl := Option.some.inj hy'
        simp only [Option.map_eq_some_iff] at hfy
        obtain ⟨u, hu, rfl⟩ := hfy
        obtain ⟨q1, q2, q3⟩ := g5.2 j e _ he (List.getElem?_eq_getElem hj)
        exact ⟨q1, q2.flat q1, q7m h hy _ _ u hu q3⟩
      · simp [Blk.entries] at hbad
    · cases hb
  · obtain ⟨b, hb, h3⟩ := q8D h1
    obtain ⟨b', hb', h4⟩ := q8D h2
    obtain rfl := h.inj b b' l l' h3 h4 he
    have hi := (List.getElem?_eq_some_iff.1 hb).1
    exact (List.getElem?_inj hi hbs).1 (hb.trans hb'.symm)
  · obtain ⟨b, hb, h3⟩ := q8D hi
    obtain ⟨o1, o2, o3, o4⟩ := h.own b l h3
    refine ⟨by rw [m1]; exact (List.getElem?_eq_some_iff.1 hb).1, ?_, o3.imp id (fun hx => ?_), o4⟩
    · rintro (hF | ⟨b', l', hl', he⟩)
      · exact o2 hF
      · obtain ⟨h5, h6⟩ := q5N hl'
        obtain rfl := h.inj b' b l' l h6 h3 he
        have : b' ∈ bs := List.mem_of_getElem? hb
        simp [this] at h5
    · have := (List.getElem?_inj (List.getElem?_eq_some_iff.1 hb).1 hbs).1 (hb.trans (hX b _ hx).symm)
      rw [this]
      exact hx
  · rcases hb with hb | ⟨i, l, hl, rfl⟩
    · exact h.fro b hb
    · exact (h.own i l (q5N hl).2).2.2.2

def z96 (tmps : Array Value) (rv : ResultVar) : Sem Value := match rv with
  | .tmp t => pure (tmps.getD t undef)
  | .cell b t => do loadVar t (← asAddr (tmps.getD b undef))

theorem z5j (fn : Func) (tmps : Array Value) : results fn tmps = (do
    let vs ← fn.results.mapM (z96 tmps)
    pure (if h : vs.size = 1 then vs[0] else .tuple vs)) := by
  unfold results
  congr 1

theorem q6e {K : Cx} {n m0 : Nat} {σ0 : Nat → Option Loc} {w0 : World} {F0 : Nat → Prop} {s : S} {a : Act} (h : StRel K X base w0 F0 m0 σ0 n s a w F σ) {fn : Func} {es : List E} {vs : List V} (he : mapO (resE P) fn.results.toList = some es) (hv : mapO (ev K s) es = some vs) :
    ∃ v, (results fn a.tmps).run P w = .ok v w ∧ RepV w F base σ v (q0d vs) := by
  have one : ∀ (rv : ResultVar) (e : E) (x : V), resE P rv = some e → ev K s e = some x → ∃ v, (z96 a.tmps rv).run P w = .ok v w ∧ RepV w F base σ v x := by
    intro rv e x he hx
    cases rv with
    | tmp t =>
      simp only [resE, Option.some.injEq] at he
      subst he
      simp only [ev] at hx
      exact ⟨_, rfl, h.rho t x hx⟩
    | cell b t =>
      simp only [resE] at he
      cases hi : P.info? t with
      | none => simp [hi] at he
      | some i =>
        cases hd : P.underlying t with
        | none => simp [hi, hd] at he
        | some d =>
          simp only [hi, hd, Option.some.injEq] at he
          subst he
          simp only [ev] at hx
          cases hp : look s.rho b with
          | none => simp [hp] at hx
          | some p =>
            simp only [hp] at hx
            rw [z84] at hx
            cases hc : q4Q s.heap p with
            | none => simp [hc] at hx
            | some xs =>
              simp only [hc, Option.bind_some] at hx
              obtain ⟨ba, of, hva, hcell⟩ := q6P h.heap hc (h.rho b p hp)
              obtain ⟨v, h1, h2⟩ := q6q (P := P) hd hi hcell hx
              exact ⟨v, by simp [z96, hva, asAddr, h1], h2⟩
  have many : ∀ (l : List ResultVar) (es : List E) (vs : List V), mapO (resE P) l = some es → mapO (ev K s) es = some vs → ∃ us : List Value, (l.mapM (z96 a.tmps)).run P w = .ok us w ∧ us.length = vs.length ∧ ∀ (j : Nat) (v : Value) (x : V), us[j]? = some v → vs[j]? = some x → RepV w F base σ v x := by
    intro l
    induction l with
    | nil =>
      intro es vs he hv
      simp only [mapO, Option.some.injEq] at he
      subst he
      simp only [mapO, Option.some.injEq] at hv
      subst hv
      exact ⟨[], by simp, rfl, fun j v x h => by simp at h⟩
    | cons rv l ih =>
      intro es vs he hv
      simp only [mapO] at he
      cases hr : resE P rv with
      | none => simp [hr] at he
      | some e =>
        cases hl : mapO (resE P) l with
        | none => simp [hr, hl] at he
        | some es' =>
          simp only [hr, hl, Option.some.injEq] at he
          subst he
          simp only [mapO] at hv
          cases hx : ev K s e with
          | none => simp [hx] at hv
          | some x =>
            cases hxs : mapO (ev K s) es' with
            | none => simp [hx, hxs] at hv
            | some xs =>
              simp only [hx, hxs, Option.some.injEq] at hv
              subst hv
              obtain ⟨v, h1, h2⟩ := one rv e x hr hx
              obtain ⟨us, h3, h4, h5⟩ := ih es' xs hl hxs
              refine ⟨v :: us, ?_, by simp [h4], fun j u y hu hy => ?_⟩
              · rw [List.mapM_cons, Sem.run_bind, h1]
                show Sem.run P (do let a ← List.mapM _ l; pure (v :: a)) w = _
                rw [Sem.run_bind, h3]
                rfl
              · cases j with
                | zero => simp only [List.getElem?_cons_zero, Option.some.injEq] at hu hy; subst hu; subst hy; exact h2
                | succ j => exact h5 j u y (by simpa using hu) (by simpa using hy)
  obtain ⟨us, h1, h2, h3⟩ := many _ es vs he hv
  refine ⟨if h : us.length = 1 then us[0] else .tuple us.toArray, ?_, ?_⟩
  · rw [z5j, Sem.run_bind]
    rw [Array.mapM_eq_mapM_toList, ← bind_pure_comp, Sem.run_bind, h1]
    show Sem.run P (pure (if h : us.toArray.size = 1 then us.toArray[0] else .tuple us.toArray)) w = _
    by_cases hu : us.length = 1
    · rw [dif_pos hu, dif_pos (by simpa using hu)]; rfl
    · rw [dif_neg hu, dif_neg (by simpa using hu)]; rfl
  · match us, vs, h2, h3 with
    | [], [], _, h3 => exact .tup _ _ rfl fun j v x hv hx => h3 j v x (by simp at hv) hx
    | [u], [x], _, h3 => exact h3 0 u x rfl rfl
    | u1 :: u2 :: us, x1 :: x2 :: xs, h2, h3 =>
      simp only [List.length_cons, Nat.reduceEqDiff, q0d]
      rw [dif_neg (by simp)]
      exact .tup _ _ (by simpa using h2) fun j v x hv hx => h3 j v x (by simpa using hv) hx

theorem q6p (l : List V) : ∀ (k t : Nat) (v : V), look ((l.zipIdx k).map fun (v, i) => (i, v)) t = some v → k ≤ t ∧ l[t - k]? = some v := by
  induction l with
  | nil => intro k t v h; simp [look] at h
  | cons x l ih =>
    intro k t v h
    simp only [List.zipIdx_cons, List.map_cons, look] at h
    split at h
    · rename_i he
      subst he
      exact ⟨Nat.le_refl _, by simpa using h⟩
    · obtain ⟨h1, h2⟩ := ih (k + 1) t v h
      refine ⟨by omega, ?_⟩
      have : t - k = (t - (k + 1)) + 1 := by omega
      rw [this, List.getElem?_cons_succ]
      exact h2

theorem z1u (hm : P.follows .mixedOrders = true) {K : Cx} (hd0 : K.dfr = []) (hK : K.Sound P) {f : FuncId} {g : Fun} {args : List V} {blks : List Blk} {r : V} {news : List Blk} {mv : List Nat} (hok : q1s P f blks.length args.length g = true) (hr : q0U K g args blks = some (r, news, mv))
    {w : World} {F : Nat → Prop} {σ : Nat → Option Loc} {vals : Array Value} (hG : GlobRel w F K.glob) (hH : HeapRel w F (OwnB σ) w.heap.size σ blks.length (indexed blks)) (hargs : Reps w F w.heap.size σ vals args) :
    q0p P f = true ∧ Calls P f vals w fun e w' => ∃ v F' σ', e = .returned v ∧ Frame (OwnB σ) w.heap.size w w' ∧ (∀ b, F b → F' b) ∧ (∀ b, F' b → F b ∨ w.heap.size ≤ b) ∧
      RepV w' F' w.heap.size σ' v r ∧ HeapRel w' F' (OwnB σ) w.heap.size σ' news.length (indexed news) ∧ ∀ i l, i < blks.length → σ i = some l → i ∉ mv → σ' i = some l := by
  unfold q1s at hok
  cases hf : P.funcs[f]? with
  | none => simp [hf] at hok
  | some fn =>
    cases hb : fn.body with
    | none => simp [hf, hb] at hok
    | some code =>
      simp only [hf, hb, Bool.and_eq_true, decide_eq_true_eq] at hok
      obtain ⟨⟨⟨hc, hres⟩, hn⟩, hname⟩ := hok
      refine ⟨by simp [q0p, hf, hb, hname], ?_⟩
      refine calls_of_wp hf hb ?_
      have hst : StRel K (OwnB σ) w.heap.size w F blks.length σ fn.ntmps (startS args blks) { tmps := vals ++ Array.replicate (fn.ntmps - vals.size) undef, defers := [] } w F σ := by
        refine ⟨hH, hG, Nat.le_refl _, .refl _ _ _, fun b hb => .inl hb, ?_, hd0.symm, fun t v hv => ?_, fun b blk h => ?_, fun _ _ _ h _ => h, Nat.le_refl _, fun b k hx => ?_, fun _ h => h⟩
        · have := hargs.1
          simp; omega
        · obtain ⟨_, hv'⟩ := q6p args 0 t v hv
          rw [Nat.sub_zero] at hv'
          have ht : t < vals.size := by rw [hargs.1]; exact (List.getElem?_eq_some_iff.1 hv').1
          have hget : (vals ++ Array.replicate (fn.ntmps - vals.size) undef).getD t undef = vals[t] := by
            rw [Array.getD_eq_getD_getElem?, Array.getElem?_append_left ht]
            simp [ht]
          show RepV w F w.heap.size σ ((vals ++ Array.replicate (fn.ntmps - vals.size) undef).getD t undef) v
          rw [hget]
          exact hargs.2 t _ v (by simp [ht]) hv'
        · have : (indexed blks).length = blks.length := by simp [indexed]
          simp only [startS] at h ⊢
          rw [q3l] at h
          exact (List.getElem?_eq_some_iff.1 h).1
        · obtain ⟨l, hl, _⟩ := hx
          exact (hH.own b l hl).1
      have fin : ∀ (s : S) (a : Act) (w' : World) (F' : Nat → Prop) (σ' : Nat → Option Loc) (vs : List V), StRel K (OwnB σ) w.heap.size w F blks.length σ fn.ntmps s a w' F' σ' → mapO (ev K s) g.res = some vs → finish blks.length g.own s (q0d vs) = some (r, news, mv) →
          a.defers = [] ∧ ∃ v, (results fn a.tmps).run P w' = .ok v w' ∧ ∃ v' F' σ', Ending.returned v = .returned v' ∧ Frame (OwnB σ) w.heap.size w w' ∧ (∀ b, F b → F' b) ∧ (∀ b, F' b → F b ∨ w.heap.size ≤ b) ∧
            RepV w' F' w.heap.size σ' v' r ∧ HeapRel w' F' (OwnB σ) w.heap.size σ' news.length (indexed news) ∧ ∀ i l, i < blks.length → σ i = some l → i ∉ mv → σ' i = some l := by
        intro s a w' F' σ' vs hs hvs hfin
        obtain ⟨v, h1, h2⟩ := q6e hs hres hvs
        unfold finish at hfin
        simp only at hfin
        generalize (if g.own = true then q03 s.heap (refN s.heap + 64) [] (List.range blks.length ++ (q0d vs).refs) else List.range blks.length) = bs at hfin
        split at hfin
        case isFalse => cases hfin
        rename_i hc2
        simp only [Bool.and_eq_true, decide_eq_true_eq] at hc2
        obtain ⟨hnd, hpre⟩ := hc2
        cases h3 : finV (blks.length == 0) bs s.heap (q0d vs) with
        | none => simp [h3] at hfin
        | some r' =>
          cases h4 : mapO (finB (blks.length == 0) bs s.heap) bs with
          | none => simp [h3, h4] at hfin
          | some news' =>
            simp only [h3, h4, Option.some.injEq, Prod.mk.injEq] at hfin
            obtain ⟨rfl, rfl, rfl⟩ := hfin
            have hpin : ∀ b, b < blks.length → bs[b]? = some b := fun b hb' => by
              have : (bs.take blks.length)[b]? = some b := by rw [hpre]; simp [hb']
              simpa [List.getElem?_take, hb'] using this
            have hX : ∀ b k, OwnB σ b k → bs[b]? = some b := fun b k hx => hpin b (hs.xm b k hx)
            have hy : z56 (OwnB σ) w.heap.size bs σ' := by
              intro i l hl
              obtain ⟨hni, hl'⟩ := q5N hl
              rcases (hs.heap.own i l hl').2.2.1 with h | h
              · exact h
              · have := List.mem_of_getElem? (hX i _ h)
                simp [this] at hni
            refine ⟨hs.dfr.trans hd0, v, h1, v, FZ F' bs σ', outs bs σ', rfl, hs.frame, fun b hb' => .inl (hs.sub b hb'), fun b hb' => ?_, q96 hs.heap hy h3 h2, z2h hs.heap hy hnd hX h4, fun i l hi hl hm' => ?_⟩
            · rcases hb' with hb' | ⟨i, l, hl, rfl⟩
              · exact hs.frz b hb'
              · exact .inr (hy i l hl)
            · unfold outs
              rw [hpin i hi]
              exact hs.stab i l hi hl (fun hc => hm' (List.mem_filter.2 ⟨List.mem_range.2 hi, by simpa [List.contains_eq_mem] using hc⟩))
      unfold q0U at hr
      cases hex : exec K g.body (startS args blks) with
      | none => simp [hex] at hr
      | some p =>
        obtain ⟨ex, s⟩ := p
        refine wp_mono (q0Y hm hK g.body code _ _ _ _ _ _ hc hex hst) fun e a w' hp => ?_
        cases ex with
        | pan v => simp [hex] at hr
        | nrm =>
          obtain ⟨rfl, F', σ', hs⟩ := hp
          simp only [hex] at hr
          cases hvs : mapO (ev K s) g.res with
          | none => simp [hvs] at hr
          | some vs =>
            simp only [hvs] at hr
            exact fin s a w' F' σ' vs hs hvs hr
        | ret =>
          obtain ⟨rfl, F', σ', hs⟩ := hp
          simp only [hex] at hr
          cases hvs : mapO (ev K s) g.res with
          | none => simp [hvs] at hr
          | some vs =>
            simp only [hvs] at hr
            exact fin s a w' F' σ' vs hs hvs hr
        | exit id => simp [hex] at hr
        | goto l => simp [hex] at hr

theorem q4q (hm : P.follows .mixedOrders = true) {K : Cx} (hK : K.Sound P) {f : FuncId} {g : Fun} {args : List V} {r : V} {news : List Blk} {mv : List Nat} (hok : q1s P f 0 args.length g = true) (hr : q0U K g args [] = some (r, news, mv)) (hd0 : K.dfr = [] := by rfl) :
    q0p P f = true ∧ q2o P K.glob f args r news := by
  have hcal : q0p P f = true := by
    unfold q1s at hok
    cases hf : P.funcs[f]? with
    | none => simp [hf] at hok
    | some fn =>
      cases hb : fn.body with
      | none => simp [hf, hb] at hok
      | some code =>
        simp only [hf, hb, Bool.and_eq_true] at hok
        simp [q0p, hf, hb, hok.2]
  refine ⟨hcal, fun w F vals hF hG hargs => ?_⟩
  have hX : ∀ b k, ¬ OwnB (fun _ => none) b k := by rintro b k ⟨l, h, _⟩; cases h
  have hH : HeapRel w F (OwnB fun _ => none) w.heap.size (fun _ => none) ([] : List Blk).length (indexed []) := ⟨fun b blk h => by simp [indexed, look] at h, fun b b' l l' h => (by cases h), fun b l h => (by cases h), hF⟩
  obtain ⟨_, h⟩ := z1u hm hd0 hK hok hr hG hH hargs
  refine h.mono fun e w' ⟨v, F', σ', he, hfr, _, hF', hR, hHr, _⟩ => ⟨v, F', σ', he, ⟨hfr.os, hfr.tape, hfr.output, hfr.size, fun k hk => hfr.block k hk (fun b => hX b k)⟩, hF', hR, ⟨hHr.blk, hHr.inj, fun b l hb => ?_, hHr.fro⟩⟩
  obtain ⟨o1, o2, o3, o4⟩ := hHr.own b l hb
  exact ⟨o1, o2, o3.imp id (fun hx => hX b _ hx), o4⟩

theorem z2o (hm : P.follows .mixedOrders = true) {K : Cx} (hK : K.Sound P) {f : FuncId} {g : Fun} {args : List V} {blks : List Blk} {r : V} {news : List Blk} {mv : List Nat} (hok : q1s P f blks.length args.length g = true) (hr : q0U K g args blks = some (r, news, mv)) (hd0 : K.dfr = [] := by rfl) :
    q0p P f = true ∧ q56 P K.glob f args blks r news mv := by
  have hcal : q0p P f = true := by
    unfold q1s at hok
    cases hf : P.funcs[f]? with
    | none => simp [hf] at hok
    | some fn =>
      cases hb : fn.body with
      | none => simp [hf, hb] at hok
      | some code =>
        simp only [hf, hb, Bool.and_eq_true] at hok
        simp [q0p, hf, hb, hok.2]
  exact ⟨hcal, fun w F σ vals hG hH hargs => (z1u hm hd0 hK hok hr hG hH hargs).2⟩

theorem z1C (hm : P.follows .mixedOrders = true) {K : Cx} (hK : K.Sound P) {f : FuncId} {g : Fun} {args : List V} {blks : List Blk} {v : V} {s : S} (hok : q1s P f blks.length args.length g = true) (hr : exec K g.body (startS args blks) = some (.pan v, s)) (hd0 : K.dfr = [] := by rfl) :
    q0p P f = true ∧ z3G P K.glob f args blks v := by
  unfold q1s at hok
  cases hf : P.funcs[f]? with
  | none => simp [hf] at hok
  | some fn =>
    cases hb : fn.body with
    | none => simp [hf, hb] at hok
    | some code =>
      simp only [hf, hb, Bool.and_eq_true, decide_eq_true_eq] at hok
      obtain ⟨⟨⟨hc, hres⟩, hn⟩, hname⟩ := hok
      refine ⟨by simp [q0p, hf, hb, hname], fun w F σ vals hG hH hargs => ?_⟩
      refine calls_of_wp hf hb ?_
      have hst : StRel K (OwnB σ) w.heap.size w F blks.length σ fn.ntmps (startS args blks) { tmps := vals ++ Array.replicate (fn.ntmps - vals.size) undef, defers := [] } w F σ := by
        refine ⟨hH, hG, Nat.le_refl _, .refl _ _ _, fun b hb => .inl hb, ?_, hd0.symm, fun t v hv => ?_, fun b blk h => ?_, fun _ _ _ h _ => h, Nat.le_refl _, fun b k hx => ?_, fun _ h => h⟩
        · have := hargs.1
          simp; omega
        · obtain ⟨_, hv'⟩ := q6p args 0 t v hv
          rw [Nat.sub_zero] at hv'
          have ht : t < vals.size := by rw [hargs.1]; exact (List.getElem?_eq_some_iff.1 hv').1
          have hget : (vals ++ Array.replicate (fn.ntmps - vals.size) undef).getD t undef = vals[t] := by
            rw [Array.getD_eq_getD_getElem?, Array.getElem?_append_left ht]
            simp [ht]
          show RepV w F w.heap.size σ ((vals ++ Array.replicate (fn.ntmps - vals.size) undef).getD t undef) v
          rw [hget]
          exact hargs.2 t _ v (by simp [ht]) hv'
        · have : (indexed blks).length = blks.length := by simp [indexed]
          simp only [startS] at h ⊢
          rw [q3l] at h
          exact (List.getElem?_eq_some_iff.1 h).1
        · obtain ⟨l, hl, _⟩ := hx
          exact (hH.own b l hl).1
      refine wp_mono (q0Y hm hK g.body code _ _ _ _ _ _ hc hr hst) fun e a w' hp => ?_
      obtain ⟨pv, rfl, hpv, F', σ', hs⟩ := hp
      exact ⟨hs.dfr.trans hd0, pv, F', rfl, hpv, hs.frame, hs.sub, hs.frz, hs.heap.fro⟩

end Go.Vm
end

section
namespace Go.Vm
theorem q8U{f:S→Option (Ex×S)}:∀ {n:Nat}{s:S}{r:Ex×S},iter f n s=some r→∀ m,n≤m→iter f m s=some r
 |0,s,r,h,m,_=>by simp [iter] at h
 |n+1,s,r,h,0,hm=>by omega
 |n+1,s,r,h,m+1,hm=>by
  simp only[iter] at h ⊢
  cases hf:f s with
  |none=>simp [hf] at h
  |some p=>
   obtain⟨e,s'⟩:=p
   cases e with
   |nrm=>simp only[hf] at h⊢;exact q8U h m (by omega)
   |exit id=>simpa [hf] using h
   |goto l=>simpa [hf] using h
   |ret=>simpa [hf] using h
   |pan v=>simpa [hf] using h
theorem q4J{f:S→Option (Ex×S)}{n:Nat}{s:S}{r:Ex×S}(h:iter f n s=some r):q5H f s=some r:=by
 have hex:∃ n,(iter f n s).isSome:=⟨n,by rw[h];rfl⟩
 unfold q5H
 rw[dif_pos hex]
 have hc:=hex.choose_spec
 obtain⟨r',hr'⟩:=Option.isSome_iff_exists.1 hc
 have h1:=q8U h (n+hex.choose) (by omega)
 have h2:=q8U hr' (n+hex.choose) (by omega)
 rw[hr',←h2,h1]
theorem q7i{f:Nat→Option (S→Option (Ex×S))}:∀ {n:Nat}{q:Option (Ex×S)}{r:Ex×S},q37 f n q=some r→∀ m,n≤m→q37 f m q=some r
 |0,q,r,h,m,_=>by simp [q37] at h
 |n+1,q,r,h,0,hm=>by omega
 |n+1,q,r,h,m+1,hm=>by
  simp only[q37] at h ⊢
  cases q with
  |none=>simp at h
  |some p=>
   obtain⟨e,s'⟩:=p
   cases e with
   |goto l=>
    simp only at h ⊢
    cases hl:f l with
    |none=>simp [hl] at h
    |some g=>simp only[hl] at h⊢;exact q7i h m (by omega)
   |nrm=>simpa using h
   |exit id=>simpa using h
   |ret=>simpa using h
   |pan v=>simpa using h
theorem z7d{f:Nat→Option (S→Option (Ex×S))}{n:Nat}{q:Option (Ex×S)}{r:Ex×S}(h:q37 f n q=some r):z3S f q=some r:=by
 have hex:∃ n,(q37 f n q).isSome:=⟨n,by rw[h];rfl⟩
 unfold z3S
 rw[dif_pos hex]
 have hc:=hex.choose_spec
 obtain⟨r',hr'⟩:=Option.isSome_iff_exists.1 hc
 have h1:=q7i h (n+hex.choose) (by omega)
 have h2:=q7i hr' (n+hex.choose) (by omega)
 rw[hr',←h2,h1]
end Go.Vm
end

section
namespace Go.Vm
def thn(x:Option (Ex×S))(f:S→Option (Ex×S)):Option (Ex×S):=match x with
 |some (.nrm,s)=>f s
 |r=>r
theorem q3P(s:S) (f):thn (some (.nrm,s)) f=f s:=rfl
theorem z0h(s:S) (f):thn (some (.ret,s)) f=some (.ret,s):=rfl
theorem z91(n:Nat)(s:S) (f):thn (some (.exit n,s)) f=some (.exit n,s):=rfl
theorem z90(n:Nat)(s:S) (f):thn (some (.goto n,s)) f=some (.goto n,s):=rfl
def brn(x:Option V)(f g:S→Option (Ex×S))(s:S):Option (Ex×S):=match x with
 |some (.d _ (.bool b))=>if b then f s else g s
 |_=>none
theorem q4h(c) (f g)(s:S):brn (some (.d c (.bool true))) f g s=f s:=rfl
theorem q2Y(c) (f g)(s:S):brn (some (.d c (.bool false))) f g s=g s:=rfl
def blk(id:Nat)(x:Option (Ex×S)):Option (Ex×S):=match x with
 |some (.exit i,s')=>if i=id then some (.nrm,s') else some (.exit i,s')
 |r=>r
theorem q7w(id)(s:S):blk id (some (.nrm,s))=some (.nrm,s):=rfl
theorem z9g(id)(s:S):blk id (some (.ret,s))=some (.ret,s):=rfl
theorem j09(id n)(s:S):blk id (some (.goto n,s))=some (.goto n,s):=rfl
theorem j1a(id i)(s:S):blk id (some (.exit i,s))=if i=id then some (.nrm,s) else some (.exit i,s):=rfl
def nrm(x:Option S):Option (Ex×S):=x.map fun s=>(.nrm,s)
theorem q4G(s:S):nrm (some s)=some (.nrm,s):=rfl
theorem q2R(K s):exec K .skip s=some (.nrm,s):=rfl
def nrmP(y:Option (Ex×S))(x:Option S):Option (Ex×S):=match x with
 |some s=>some (.nrm,s)
 |none=>y
theorem q0E(y)(s:S):nrmP y (some s)=some (.nrm,s):=rfl
theorem q0r(y):nrmP y none=y:=rfl
theorem q0K(v:V)(s:S) (f):thn (some (.pan v,s)) f=some (.pan v,s):=rfl
theorem q2m(id)(v:V)(s:S):blk id (some (.pan v,s))=some (.pan v,s):=rfl
theorem q19(K l s):exec K (.reg l) s=nrmP (q3n K s l) (q3t K s l):=by
 simp only[exec,nrmP];cases q3t K s l <;> rfl
theorem q2w(K a b s):exec K (.seq a b) s=thn (exec K a s) (exec K b):=by
 simp only[exec,thn];cases exec K a s with
 |none=>rfl
 |some p=>obtain⟨e,s'⟩:=p;cases e <;> rfl
theorem q2S(K e a b s):exec K (.cond e a b) s=brn (ev K s e) (exec K a) (exec K b) s:=by
 simp only[exec,brn]
 rcases ev K s e with _|v
 ·rfl
 ·cases v with
  |d c x=>cases x <;> rfl
  |_=>rfl
theorem q3H(K id c s):exec K (.block id c) s=blk id (exec K c s):=by
 simp only[exec,blk]
 rcases exec K c s with _|⟨e,s'⟩
 ·rfl
 ·cases e <;> rfl
theorem z8N(K id s):exec K (.exit id) s=some (.exit id,s):=rfl
theorem z8M(K l s):exec K (.goto l) s=some (.goto l,s):=rfl
theorem q6B(K s):exec K .ret s=some (.ret,s):=rfl
theorem q84(K m l s):exec K (.tidy m l) s=nrm (q7P m l s):=by
 simp only[exec,nrm];cases q7P m l s <;> rfl
theorem exec_own(K t k s):exec K (.own t k) s=match look s.rho t with
  |some (.fs _ k' [])=>if k'=k then some (.nrm,⟨put s.rho t (.bsl s.nx 0 0),(s.nx,.dat true k []) :: s.heap,s.nx+1,s.mv⟩) else some (.nrm,s)
  |_=>some (.nrm,s):=rfl
def o1{α β:Type}(f:α→Option β)(x:Option α):Option β:=x.bind f
theorem q10{α β:Type}(f:α→Option β)(a:α):o1 f (some a)=f a:=rfl
def o2{α β γ:Type}(f:α→β→Option γ)(x:Option α)(y:Option β):Option γ:=x.bind fun a=>y.bind fun b=>f a b
theorem q2L{α β γ:Type}(f:α→β→Option γ)(a:α)(b:β):o2 f (some a) (some b)=f a b:=rfl
def o4(f:V→V→V→V→Option V)(x y z w:Option V):Option V:=x.bind fun a=>y.bind fun b=>z.bind fun c=>w.bind fun d=>f a b c d
theorem q65(f:V→V→V→V→Option V)(a b c d:V):o4 f (some a) (some b) (some c) (some d)=f a b c d:=rfl
noncomputable def segs(K:Cx)(r:List Seg)(s:S):Option S:=q3t K s r
theorem q15(K s):segs K [] s=some s:=rfl
theorem q0N(K s g r):q3t K s (g :: r)=o1 (segs K r) (q04 K s g):=by
 simp only[q3t,o1,segs];cases q04 K s g <;> rfl
theorem q1v(K s g r):segs K (g :: r) s=o1 (segs K r) (q04 K s g):=q0N K s g r
def segL(K:Cx)(s:S)(g:Seg)(p:S×List Blk):Option S:=
 match q2U K p.1 g.lets with
  |some l=>if q6E K p.1 g.chk then match g.wr with
    |none=>some ⟨l++q0e p.1.rho g.keep,addBlks s.heap s.nx p.2,p.1.nx,s.mv⟩
    |some (d,wr)=>match wonB K p.1 g.wg with
     |some true=>match evWr K p.1 (addBlks s.heap s.nx p.2) wr with
      |some (H,v,q,nx)=>match d with
       |some d=>some ⟨(d,v) :: lose q (l++q0e p.1.rho g.keep),loseH q H,nx,q.ids++s.mv⟩
       |none=>some ⟨lose q (l++q0e p.1.rho g.keep),loseH q H,nx,q.ids++s.mv⟩
      |none=>none
     |some false=>some ⟨l++q0e p.1.rho g.keep,addBlks s.heap s.nx p.2,p.1.nx,s.mv⟩
     |none=>none
   else none
  |none=>none
def segW(K:Cx)(s s1:S)(news:List Blk)(keep:List Nat)(wr:Option (Option Nat×Wr))(won:Option Bool)(chk:Bool)(l:Option (List (Nat×V))):Option S:=
 match l with
 |some l=>if chk then match wr with
   |none=>some ⟨l++q0e s1.rho keep,addBlks s.heap s.nx news,s1.nx,s.mv⟩
   |some (d,wr)=>match won with
    |some true=>match evWr K s1 (addBlks s.heap s.nx news) wr with
     |some (H,v,q,nx)=>match d with
      |some d=>some ⟨(d,v) :: lose q (l++q0e s1.rho keep),loseH q H,nx,q.ids++s.mv⟩
      |none=>some ⟨lose q (l++q0e s1.rho keep),loseH q H,nx,q.ids++s.mv⟩
     |none=>none
    |some false=>some ⟨l++q0e s1.rho keep,addBlks s.heap s.nx news,s1.nx,s.mv⟩
    |none=>none
  else none
 |none=>none
theorem q2b(K s mks lets chk wr keep cnt aux wg):q04 K s ⟨mks,lets,chk,wr,keep,cnt,aux,wg,[]⟩=o1 (segL K s ⟨[],lets,chk,wr,keep,cnt,[],wg,[]⟩) (q2A K s mks):=by
 have h:∀ mv H1,z1T K s mv H1 ⟨mks,lets,chk,wr,keep,cnt,aux,wg,[]⟩:=fun mv H1 e he=>by simp at he
 have h2:q04 K s ⟨mks,lets,chk,wr,keep,cnt,aux,wg,[]⟩=q5h K s ⟨mks,lets,chk,wr,keep,cnt,aux,wg,[]⟩:=by
  unfold q04
  split
  ·rename_i s' he;rw[if_pos (h _ _),he]
  ·rename_i he;rw[he]
 rw[h2]
 simp only[q5h,o1,segL];cases q2A K s mks <;> rfl
theorem q2F(K s mks lets chk wr keep cnt aux wg late s1 news):segL K s ⟨mks,lets,chk,wr,keep,cnt,aux,wg,late⟩ (s1,news)=segW K s s1 news keep wr (wonB K s1 wg) (q6E K s1 chk) (q2U K s1 lets):=by
 simp only[segL,segW]
def segO(s:S)(d:Option Nat)(ρ:List (Nat×V))(x:Option (List (Nat×Blk)×V×Lost×Nat)):Option S:=match x with
 |some (H,v,q,nx)=>match d with
  |some d=>some ⟨(d,v) :: lose q ρ,loseH q H,nx,q.ids++s.mv⟩
  |none=>some ⟨lose q ρ,loseH q H,nx,q.ids++s.mv⟩
 |none=>none
theorem q3R(s d ρ H v q nx):segO s (some d) ρ (some (H,v,q,nx))=some ⟨(d,v) :: lose q ρ,loseH q H,nx,q.ids++s.mv⟩:=rfl
theorem q1y(s ρ H v q nx):segO s none ρ (some (H,v,q,nx))=some ⟨lose q ρ,loseH q H,nx,q.ids++s.mv⟩:=rfl
theorem q1x(K s s1 news keep won l):segW K s s1 news keep none won true (some l)=some ⟨l++q0e s1.rho keep,addBlks s.heap s.nx news,s1.nx,s.mv⟩:=rfl
theorem q1w(K s s1 news keep d wr l):segW K s s1 news keep (some (d,wr)) (some true) true (some l)=segO s d (l++q0e s1.rho keep) (evWr K s1 (addBlks s.heap s.nx news) wr):=by
 simp only[segW,segO,if_true]
theorem q5u(K s s1 news keep d wr l):segW K s s1 news keep (some (d,wr)) (some false) true (some l)=some ⟨l++q0e s1.rho keep,addBlks s.heap s.nx news,s1.nx,s.mv⟩:=rfl
theorem q1E(K s):q2A K s []=some (s,[]):=rfl
def mksA(K:Cx)(s:S)(d:Nat)(r:List (Nat×Mk))(p:V×List Blk):Option (S×List Blk):=
 match q2A K ⟨put s.rho d p.1,s.heap,s.nx+p.2.length,s.mv⟩ r with
 |some (s',more)=>some (s',p.2++more)
 |none=>none
def mksB(news:List Blk)(p:S×List Blk):Option (S×List Blk):=some (p.1,news++p.2)
theorem q2M(news s' more):mksB news (s',more)=some (s',news++more):=rfl
theorem q1f(K s d m r):q2A K s ((d,m) :: r)=o1 (mksA K s d r) (evMk K s m):=by
 simp only[q2A,o1,mksA];cases evMk K s m <;> rfl
theorem q2N(K s d r v news):mksA K s d r (v,news)=o1 (mksB news) (q2A K ⟨put s.rho d v,s.heap,s.nx+news.length,s.mv⟩ r):=by
 simp only[mksA,o1];cases q2A K ⟨put s.rho d v,s.heap,s.nx+news.length,s.mv⟩ r <;> rfl
theorem q1g(K s):q2U K s []=some []:=rfl
def letC(d:Nat)(v:V)(l:List (Nat×V)):Option (List (Nat×V)):=some ((d,v) :: l)
theorem q2P(d v l):letC d v l=some ((d,v) :: l):=rfl
theorem q0X(K s d e r):q2U K s ((d,e) :: r)=o2 (letC d) (ev K s e) (q2U K s r):=by
 simp only[q2U,o2,letC];cases ev K s e <;> cases q2U K s r <;> rfl
theorem q1F(K s):q6E K s []=true:=rfl
theorem z5Q(K s e r):q6E K s (e :: r)=((ev K s e).isSome&&q6E K s r):=rfl
theorem q12(K s):wonB K s []=some true:=rfl
theorem e_sl(K s t):ev K s (.sl t)=look s.rho t:=rfl
theorem q9d(K s k n):ev K s (.int k n)=some (.int k n):=rfl
theorem j4V(K s b):ev K s (.bool b)=some (.bool b):=rfl
theorem j0X(K s l):ev K s (.str l)=some (.str l):=rfl
theorem q4O(K s k):ev K s (.nilsl k)=some (.fs true k []):=rfl
theorem j3a(K s):ev K s .nilif=some (.d false .nilif):=rfl
theorem e_un(K s o a):ev K s (.un o a)=o1 (evUn o) (ev K s a):=by
 simp only[ev,o1];cases ev K s a <;> rfl
theorem q9f(K s o a b):ev K s (.bin o a b)=o2 (evBin o) (ev K s a) (ev K s b):=by
 simp only[ev,o2];cases ev K s a <;> cases ev K s b <;> rfl
theorem e_eqs(K s n g ks a b):ev K s (.eqs n g ks a b)=o2 (q4M n g ks) (ev K s a) (ev K s b):=by
 simp only[ev,o2];cases ev K s a <;> cases ev K s b <;> rfl
def andV(x y:Option V):Option V:=match x,y with
 |some (.d _ (.bool x)),some (.d _ (.bool y))=>some (.bool (x&&y))
 |some (.d _ (.bool false)),_=>some (.bool false)
 |_,_=>none
theorem q3m(c c' x y):andV (some (.d c (.bool x))) (some (.d c' (.bool y)))=some (.bool (x&&y)):=by cases x <;> rfl
theorem q3M(c y):andV (some (.d c (.bool false))) y=some (.bool false):=by
 unfold andV;split <;> simp_all
theorem z2q(K s a b):ev K s (.and a b)=andV (ev K s a) (ev K s b):=rfl
def orV(x y:Option V):Option V:=match x,y with
 |some (.d _ (.bool x)),some (.d _ (.bool y))=>some (.bool (x||y))
 |some (.d _ (.bool true)),_=>some (.bool true)
 |_,_=>none
theorem q70(c c' x y):orV (some (.d c (.bool x))) (some (.d c' (.bool y)))=some (.bool (x||y)):=by cases x <;> rfl
theorem j0f(c y):orV (some (.d c (.bool true))) y=some (.bool true):=by
 unfold orV;split <;> simp_all
theorem e_or(K s a b):ev K s (.or a b)=orV (ev K s a) (ev K s b):=rfl
def j4Y(x a b:Option V):Option V:=match x with
 |some (.d _ (.bool x))=>if x then a else b
 |_=>none
theorem q7r(c x a b):j4Y (some (.d c (.bool x))) a b=if x then a else b:=rfl
theorem z87(K s c a b):ev K s (.cond c a b)=j4Y (ev K s c) (ev K s a) (ev K s b):=rfl
theorem e_fa(K s o a):ev K s (.fa o a)=o1 (evFa o) (ev K s a):=by
 simp only[ev,o1];cases ev K s a <;> rfl
theorem e_ia(K s k a b):ev K s (.ia k a b)=o2 (evIa s.heap k) (ev K s a) (ev K s b):=by
 simp only[ev,o2];cases ev K s a <;> cases ev K s b <;> rfl
theorem e_aa(K s l k a b):ev K s (.aa l k a b)=o2 (evAa l k) (ev K s a) (ev K s b):=by
 simp only[ev,o2];cases ev K s a <;> cases ev K s b <;> rfl
theorem e_ix(K s a b):ev K s (.ix a b)=o2 evIx (ev K s a) (ev K s b):=by
 simp only[ev,o2];cases ev K s a <;> cases ev K s b <;> rfl
theorem e_ld(K s n g a):ev K s (.ld n g a)=o1 (evLd s.heap n g) (ev K s a):=by
 simp only[ev,o1];cases ev K s a <;> rfl
theorem q9e(K s i a):ev K s (.ext i a)=o1 (evExt i) (ev K s a):=by
 simp only[ev,o1];cases ev K s a <;> rfl
theorem q9c(K s b a):ev K s (.len b a)=o1 (evLen b) (ev K s a):=by
 simp only[ev,o1];cases ev K s a <;> rfl
def q5i(H:List (Nat×Blk))(str bl bh bm:Bool)(k:Nat)(v l h m:V):Option V:=if str==v.isStr then q89 H bl bh bm k v l h m else none
theorem z5T(K s str bl bh bm k a lo hi mx):ev K s (.cut str bl bh bm k a lo hi mx)=o4 (q5i s.heap str bl bh bm k) (ev K s a) (ev K s lo) (ev K s hi) (ev K s mx):=by
 simp only[ev,o4,q5i];cases ev K s a <;> cases ev K s lo <;> cases ev K s hi <;> cases ev K s mx <;> rfl
def aggV:V→Option V
 |.tup vs=>some (.agg vs)
 |_=>none
theorem q2d(vs):aggV (.tup vs)=some (.agg vs):=rfl
theorem q6I(K s a):ev K s (.agg a)=o1 aggV (ev K s a):=by
 simp only[ev,o1];cases ev K s a with
 |none=>rfl
 |some v=>cases v <;> rfl
theorem j0Y(K s o n a b):ev K s (.set o n a b)=o2 (evSet o n) (ev K s a) (ev K s b):=by
 simp only[ev,o2];cases ev K s a <;> cases ev K s b <;> rfl
theorem j4U(K s k a):ev K s (.conv k a)=o1 (q0D k) (ev K s a):=by
 simp only[ev,o1];cases ev K s a <;> rfl
def mkiV(t:TypeId)(v:V):Option V:=some (.iface t v)
theorem q45(t v):mkiV t v=some (.iface t v):=rfl
theorem z2p(K s t a):ev K s (.mki t a)=o1 (mkiV t) (ev K s a):=by
 simp only[ev,o1];cases ev K s a <;> rfl
def j40(K:Cx)(H:List (Nat×Blk))(f:FuncId):V→Option V
 |.tup vs=>q5M K H f vs
 |_=>none
theorem q2X(K H f vs):j40 K H f (.tup vs)=q5M K H f vs:=rfl
theorem q6H(K s f a):ev K s (.call f a)=o1 (j40 K s.heap f) (ev K s a):=by
 simp only[ev,o1];cases ev K s a with
 |none=>rfl
 |some v=>cases v <;> rfl
def j1z(K:Cx)(H:List (Nat×Blk)):V→V→Option V
 |.fn f caps,.tup vs=>q5M K H f (vs++caps)
 |_,_=>none
theorem z50(K H f caps vs):j1z K H (.fn f caps) (.tup vs)=q5M K H f (vs++caps):=rfl
theorem j3b(K s f a):ev K s (.callv f a)=o2 (j1z K s.heap) (ev K s f) (ev K s a):=by
 simp only[ev,o2];cases ev K s f with
 |none=>rfl
 |some v=>cases ev K s a with
  |none=>cases v <;> rfl
  |some u=>cases v <;> cases u <;> rfl
theorem q6G(K s):ev K s .nil=some (.tup []):=rfl
def j4X(v:V):V→Option V
 |.tup vs=>some (.tup (v :: vs))
 |_=>none
theorem q1H(v vs):j4X v (.tup vs)=some (.tup (v :: vs)):=rfl
theorem q4e(K s a b):ev K s (.cons a b)=o2 j4X (ev K s a) (ev K s b):=by
 simp only[ev,o2];cases ev K s a with
 |none=>rfl
 |some v=>cases ev K s b with
  |none=>rfl
  |some u=>cases u <;> rfl
def z3z(own ps:Bool)(x:Option (V×List Blk)):Option V:=match x with
 |some (r,[])=>if ps then some r.renew else if own&&!r.new then none else some r
 |some (r,b :: bs)=>if own then none else view (indexed (b :: bs)) r
 |_=>none
theorem q2n(own r):z3z own false (some (r,[]))=if own&&!r.new then none else some r:=rfl
theorem z52(own r):z3z own true (some (r,[]))=some r.renew:=rfl
def j41(K:Cx)(f:FuncId)(own ps:Bool)(ws:List V):Option V:=z3z own ps (K.call f ws)
theorem q3C(K f own ps ws):j41 K f own ps ws=z3z own ps (K.call f ws):=rfl
theorem q2I(C:Cx) (f vs):q9R C f vs=(vs.all V.new&&!vs.all V.flatV&&C.loc f):=rfl
theorem q2V(K H f vs):q5M K H f vs=o1 (j41 K f (vs.any V.own) (q9R K f vs)) (mapO (view H) vs):=by
 unfold q5M
 cases mapO (view H) vs with
 |none=>rfl
 |some ws=>
  show _=z3z (vs.any V.own) (q9R K f vs) (K.call f ws)
  cases hk:K.call f ws with
  |none=>simp [hk,z3z]
  |some p=>obtain⟨r,news⟩:=p;cases news <;> simp [hk,z3z]
def mapC{β:Type}(b:β)(bs:List β):Option (List β):=some (b :: bs)
theorem q2O{β:Type}(b:β) (bs):mapC b bs=some (b :: bs):=rfl
theorem q18{α β:Type}(f:α→Option β):mapO f []=some []:=rfl
theorem q1B{α β:Type}(f:α→Option β) (a r):mapO f (a :: r)=o2 mapC (f a) (mapO f r):=by
 simp only[mapO,o2,mapC];cases f a <;> cases mapO f r <;> rfl
def mkBox(nx:Nat)(v:V):Option (V×List Blk):=if v.laid then some (.ptr nx 0 0,[.mix v.cells.length [v.cells]]) else none
theorem q2c(K s e):evMk K s (.box e)=o1 (mkBox s.nx) (ev K s e):=by
 simp only[evMk,o1,mkBox];cases ev K s e <;> rfl
theorem z5v:q7D []=false:=rfl
theorem z3f(t v r):q7D ((t,v) :: r)=if t=1000000000 then true else q7D r:=rfl
theorem q6m:z0x []=[]:=rfl
theorem q5z(t r):z0x (t :: r)=if t=1000000000 then [(t,.junk)] else z0x r:=rfl
def j0m(mk:Bool)(nx k:Nat)(z l c:V):Option (V×List Blk):=match z,l,c with
 |.tup zs,.d _ (.int _ n),.d _ (.int _ c)=>match mapO asD zs with
  |some ds=>if 0≤n∧n≤c∧c≤most∧ds.length=k∧0<k∧ds.all D.flat0 then some (bif mk then .bsx nx 0 n.toNat else .bsl nx 0 n.toNat,[.dat true k (List.replicate n.toNat ds)]) else none
  |none=>none
 |_,_,_=>none
def o3{β:Type}(f:V→V→V→Option β)(x y z:Option V):Option β:=x.bind fun a=>y.bind fun b=>z.bind fun c=>f a b c
theorem j2p{β:Type}(f:V→V→V→Option β)(a b c:V):o3 f (some a) (some b) (some c)=f a b c:=rfl
theorem j0Q(K s k z l c):evMk K s (.mks k z l c)=o3 (j0m (q7D s.rho) s.nx k) (ev K s z) (ev K s l) (ev K s c):=by
 simp only[evMk,o3]
 cases ev K s z with
 |none=>rfl
 |some z=>cases ev K s l with
  |none=>cases z <;> rfl
  |some l=>cases ev K s c with
   |none=>
    cases z <;> try rfl
    cases l <;> try rfl
    rename_i d;cases d <;> rfl
   |some c=>
    cases z <;> try rfl
    cases l <;> try rfl
    rename_i d;cases d <;> try rfl
    cases c <;> try rfl
    rename_i d;cases d <;> rfl
def j1q(nx k:Nat):V→Option (V×List Blk)
 |.tup vs=>if vs.all (fun v=>v.laid&&v.cells.length==k)&&decide (0<k) then some (.bsl nx 0 vs.length,[mkBlk k (vs.map V.cells)]) else none
 |_=>none
theorem z5t(nx k vs):j1q nx k (.tup vs)=if vs.all (fun v=>v.laid&&v.cells.length==k)&&decide (0<k) then some (.bsl nx 0 vs.length,[mkBlk k (vs.map V.cells)]) else none:=rfl
theorem z8Z(K s k e):evMk K s (.lits k e)=o1 (j1q s.nx k) (ev K s e):=by
 simp only[evMk,o1];cases ev K s e with
 |none=>rfl
 |some v=>cases v <;> rfl
def mkOR(nx:Nat)(own:Bool)(x:Option (V×List Blk)):Option (V×List Blk):=match x with
 |some (r,news)=>if news.all Blk.plain&&(!own||(r.new2&&news.all Blk.new)) then some (r.shift nx,news) else if news.all Blk.lays&&(!own||(r.new2&&news.all Blk.newM)) then some (r.shift nx,news.map (Blk.shift nx)) else none
 |none=>none
theorem q8L(nx own r news):mkOR nx own (some (r,news))=if news.all Blk.plain&&(!own||(r.new2&&news.all Blk.new)) then some (r.shift nx,news) else if news.all Blk.lays&&(!own||(r.new2&&news.all Blk.newM)) then some (r.shift nx,news.map (Blk.shift nx)) else none:=rfl
def mkOA(K:Cx)(nx:Nat)(f:FuncId)(own:Bool)(ws:List V):Option (V×List Blk):=mkOR nx own (K.call f ws)
theorem q69(K nx f own ws):mkOA K nx f own ws=mkOR nx own (K.call f ws):=rfl
def mkO(K:Cx)(s:S)(f:FuncId):V→Option (V×List Blk)
 |.tup vs=>o1 (mkOA K s.nx f (vs.any V.own)) (mapO (view s.heap) vs)
 |_=>none
theorem q68(K s f vs):mkO K s f (.tup vs)=o1 (mkOA K s.nx f (vs.any V.own)) (mapO (view s.heap) vs):=rfl
theorem q3I(K s f e):evMk K s (.callo f e)=o1 (mkO K s f) (ev K s e):=by
 simp only[evMk,o1];cases ev K s e with
 |none=>rfl
 |some v=>
  cases v <;> try rfl
  rename_i vs
  simp only[Option.bind_some,mkO,o1]
  cases mapO (view s.heap) vs with
  |none=>rfl
  |some ws=>simp only[Option.bind_some,mkOA,mkOR];cases K.call f ws <;> rfl
def z2M(H:List (Nat×Blk))(nx n:Nat)(a x:V):Option (List (Nat×Blk)×V×Lost×Nat):=match a with
 |.ptr b i j=>if x.laid&&x.cells.length==n then match look H b with
    |some blk=>match blk.set i j x.cells with
     |some blk'=>some (put H b blk',.junk,.none,nx)
     |none=>none
    |none=>none
   else none
 |_=>none
def stB(H:List (Nat×Blk))(nx b:Nat)(x:Option Blk):Option (List (Nat×Blk)×V×Lost×Nat):=x.bind fun k=>some (put H b k,.junk,.none,nx)
theorem q13(H nx b k):stB H nx b (some k)=some (put H b k,.junk,.none,nx):=rfl
def stA(H:List (Nat×Blk))(nx b i j:Nat)(cs:List V)(k:Blk):Option (List (Nat×Blk)×V×Lost×Nat):=stB H nx b (k.set i j cs)
theorem q38(H nx b i j cs k):stA H nx b i j cs k=stB H nx b (k.set i j cs):=rfl
theorem q0T(H nx n b i j x):z2M H nx n (.ptr b i j) x=if x.laid&&x.cells.length==n then o1 (stA H nx b i j x.cells) (look H b) else none:=by
 simp only[z2M]
 split
 ·cases look H b with
  |none=>rfl
  |some k=>simp only[o1,Option.bind_some,stA,stB];cases k.set i j x.cells <;> rfl
 ·rfl
theorem q1e(K s H n a v):evWr K s H (.store n a v)=o2 (z2M H s.nx n) (ev K s a) (ev K s v):=by
 simp only[evWr,o2]
 cases ev K s a with
 |none=>rfl
 |some a=>cases ev K s v with
  |none=>cases a <;> rfl
  |some v=>cases a <;> rfl
def z9W(s:S)(H:List (Nat×Blk))(k:Nat)(x:V)(rows:Rows):Option (List (Nat×Blk)×V×Lost×Nat):=match x with
 |.bsl id i len=>match look H id with
  |some blk=>if i=0∧blk.n=len∧blk.k=k∧len+rows.n≤most then some (put H id (blk.app rows),.bsl id 0 (len+rows.n),.some id,s.nx) else none
  |none=>none
 |.fs _ k' []=>if k'=k∧rows.n≤most then some ((s.nx,rows.blk k) :: H,.bsl s.nx 0 rows.n,.none,s.nx+1) else none
 |_=>none
def apA(s:S)(H:List (Nat×Blk))(k id i len:Nat)(rows:Rows)(blk:Blk):Option (List (Nat×Blk)×V×Lost×Nat):=
 if i=0∧blk.n=len∧blk.k=k∧len+rows.n≤most then some (put H id (blk.app rows),.bsl id 0 (len+rows.n),.some id,s.nx) else none
theorem z6Y(s H k id i len rows):z9W s H k (.bsl id i len) rows=o1 (apA s H k id i len rows) (look H id):=by
 simp only[z9W,o1,apA];cases look H id <;> rfl
theorem z9V(s H k c rows)(h:rows.n≤most):z9W s H k (.fs c k []) rows=some ((s.nx,rows.blk k) :: H,.bsl s.nx 0 rows.n,.none,s.nx+1):=if_pos ⟨rfl,h⟩
theorem j0P(K s H k a b):evWr K s H (.app k a b)=o2 (z9W s H k) (ev K s a) (o1 (q2q H k) (ev K s b)):=by
 simp only[evWr,o2,o1]
 cases ev K s a with
 |none=>rfl
 |some x=>cases ev K s b with
  |none=>cases x <;> rfl
  |some y=>
   simp only[Option.bind_some]
   cases q2q H k y <;> rfl
def j1R(K:Cx)(nx:Nat)(H:List (Nat×Blk))(f:FuncId):V→Option (List (Nat×Blk)×V×Lost×Nat)
 |.tup vs=>match q1I f vs with
  |some (g,ws)=>q9z K nx H g ws (q03 H (refN H+64) [] (refsL ws))
  |none=>none
 |_=>none
theorem q3N{K nx H f vs}(h:(f==4294967295)=false):j1R K nx H f (.tup vs)=q9z K nx H f vs (q03 H (refN H+64) [] (refsL vs)):=by
 simp only[j1R,q1I,dynF,h,Bool.false_eq_true,if_false]
theorem q3a(K s H f e):evWr K s H (.calle f e)=o1 (j1R K s.nx H f) (ev K s e):=by
 simp only[evWr,o1];cases ev K s e with
 |none=>rfl
 |some v=>cases v with
  |tup vs=>rfl
  |_=>rfl
def effR(nx:Nat)(H:List (Nat×Blk))(bs:List Nat)(p:V×List Blk×List Nat):Option (List (Nat×Blk)×V×Lost×Nat):=
 if bs.length≤p.2.1.length then some (putAll (q0q (p.2.2.map (q1L bs nx)) H) (q1L bs nx) 0 p.2.1,p.1.ren (q1L bs nx),.many (p.2.2.map (q1L bs nx)),nx+(p.2.1.length - bs.length)) else none
theorem q50(nx H bs r b m):effR nx H bs (r,b,m)=if bs.length≤b.length then some (putAll (q0q (m.map (q1L bs nx)) H) (q1L bs nx) 0 b,r.ren (q1L bs nx),.many (m.map (q1L bs nx)),nx+(b.length - bs.length)) else none:=rfl
def effA(K:Cx)(nx:Nat)(H:List (Nat×Blk))(f:FuncId)(vs:List V)(bs:List Nat)(blks:List Blk):Option (List (Nat×Blk)×V×Lost×Nat):=o1 (effR nx H bs) (K.eff f (vs.map fun v=>v.dim.ren bs.idxOf) blks)
theorem q51(K nx H f vs bs blks):effA K nx H f vs bs blks=o1 (effR nx H bs) (K.eff f (vs.map fun v=>v.dim.ren bs.idxOf) blks):=rfl
theorem q4N(K nx H f vs bs):q9z K nx H f vs bs=if decide bs.Nodup&&vs.all (V.within bs.contains)&&closedB H bs then o1 (effA K nx H f vs bs) (handed H bs) else none:=by
 unfold q9z
 split
 ·cases handed H bs with
  |none=>rfl
  |some blks=>
   simp only[q10,effA]
   cases K.eff f (vs.map fun v=>v.dim.ren bs.idxOf) blks with
   |none=>rfl
   |some p=>obtain⟨r,b,m⟩:=p;rfl
 ·rfl
theorem q8b(bs nx i):q1L bs nx i=(bs[i]?).getD (nx+(i - bs.length)):=by
 unfold q1L;cases bs[i]? <;> rfl
def wonV(b:Bool):Option V→Option Bool
 |some (.d _ (.bool x))=>some (x==b)
 |_=>none
theorem q4W(b c x):wonV b (some (.d c (.bool x)))=some (x==b):=rfl
theorem q5p(K s e b):wonB K s [(e,b)]=wonV b (ev K s e):=by
 simp only[wonB,wonV]
 cases ev K s e with
 |none=>rfl
 |some v=>cases v with
  |d c x=>cases x <;> rfl
  |_=>rfl
theorem q5A{α:Type} (t):look ([]:List (Nat×α)) t=none:=rfl
def z7X{α:Type}(v:α)(r:List (Nat×α))(t:Nat):Bool→Option α
 |true=>some v
 |false=>look r t
theorem q1d{α:Type}(v:α) (r t):z7X v r t true=some v:=rfl
theorem q0W{α:Type}(v:α) (r t):z7X v r t false=look r t:=rfl
theorem q1n{α:Type} (k v r t):look ((k,v) :: r:List (Nat×α)) t=z7X v r t (k==t):=by
 simp only[look]
 by_cases h:k=t
 ·simp [h,z7X]
 ·have:(k==t)=false:=by simpa using h
  simp [h,this,z7X]
def putB{α:Type}(k:Nat)(u:α)(r:List (Nat×α))(t:Nat)(v:α):Bool→List (Nat×α)
 |true=>(t,v) :: r
 |false=>(k,u) :: put r t v
theorem q4p{α:Type}(k:Nat)(u:α) (r t v):putB k u r t v true=(t,v) :: r:=rfl
theorem q1c{α:Type}(k:Nat)(u:α) (r t v):putB k u r t v false=(k,u) :: put r t v:=rfl
theorem q2H{α:Type} (t v):put ([]:List (Nat×α)) t v=[(t,v)]:=rfl
theorem q17{α:Type} (k u r t v):put ((k,u) :: r:List (Nat×α)) t v=putB k u r t v (k==t):=by
 simp only[put]
 by_cases h:k=t
 ·simp [h,putB]
 ·have:(k==t)=false:=by simpa using h
  simp [h,this,putB]
def resC{α:Type}(l:List (Nat×α))(t:Nat)(r:List Nat)(x:Option α):List (Nat×α):=match x with
 |some v=>(t,v) :: q0e l r
 |none=>q0e l r
theorem q1z{α:Type}(l:List (Nat×α)) (t r v):resC l t r (some v)=(t,v) :: q0e l r:=rfl
theorem q0H{α:Type}(l:List (Nat×α)):q0e l []=[]:=rfl
theorem q0y{α:Type}(l:List (Nat×α)) (t r):q0e l (t :: r)=resC l t r (look l t):=rfl
noncomputable def endF(K:Cx)(res:List E)(own:Bool)(m:Nat)(x:Option (Ex×S)):Option (V×List Blk×List Nat):=match x with
 |some (.nrm,s)=>o1 (finish m own s) ((mapO (ev K s) res).map q0d)
 |some (.ret,s)=>o1 (finish m own s) ((mapO (ev K s) res).map q0d)
 |_=>none
theorem j0V(K res own m s):endF K res own m (some (.ret,s))=o1 (finish m own s) ((mapO (ev K s) res).map q0d):=rfl
theorem z7f(K body res own args blks):q0U K ⟨body,res,own⟩ args blks=endF K res own blks.length (exec K body (startS args blks)):=by
 unfold q0U endF
 simp only
 cases exec K body (startS args blks) with
 |none=>rfl
 |some p=>
  obtain⟨e,s⟩:=p
  cases e <;> try rfl
  all_goals
   simp only[o1]
   cases mapO (ev K s) res <;> rfl
theorem q7E(f:S→Option (Ex×S))(s:S):q5H f s=match f s with
  |some (.nrm,s')=>q5H f s'
  |r=>r:=by
 have key:∀ r,q5H f s=some r→(match f s with|some (.nrm,s')=>q5H f s'|r=>r)=some r:=by
  intro r h
  unfold q5H at h
  split at h
  ·rename_i hex
   generalize hex.choose=n at h
   cases n with
   |zero=>simp [iter] at h
   |succ n=>
    simp only[iter] at h
    cases hf:f s with
    |none=>simp [hf] at h
    |some p=>
     obtain⟨e,s'⟩:=p
     cases e with
     |nrm=>simp only[hf] at h⊢;exact q4J h
     |_=>simpa [hf] using h
  ·cases h
 have back:∀ r,(match f s with|some (.nrm,s')=>q5H f s'|r=>r)=some r→q5H f s=some r:=by
  intro r h
  cases hf:f s with
  |none=>simp [hf] at h
  |some p=>
   obtain⟨e,s'⟩:=p
   cases e with
   |nrm=>
    simp only[hf] at h
    have h0:=h
    unfold q5H at h
    split at h
    ·rename_i hex
     exact q4J (n:=hex.choose+1) (by simp only[iter,hf];exact h)
    ·cases h
   |exit id=>exact q4J (n:=1) (by simpa [iter,hf] using h)
   |goto id=>exact q4J (n:=1) (by simpa [iter,hf] using h)
   |ret=>exact q4J (n:=1) (by simpa [iter,hf] using h)
   |pan v=>exact q4J (n:=1) (by simpa [iter,hf] using h)
 cases h1:q5H f s with
 |some r=>exact(key r h1).symm
 |none=>
  cases h2:(match f s with|some (.nrm,s')=>q5H f s'|r=>r) with
  |none=>rfl
  |some r=>rw[back r h2] at h1;cases h1
noncomputable def lp(K:Cx)(m:Nat)(sl:List Nat)(body:C)(s:S):Option (Ex×S):=match exec K body s with
 |some (.nrm,s')=>exec K (.loop (.seq (.tidy m sl) body)) s'
 |r=>r
noncomputable def lpT(K:Cx)(m:Nat)(sl:List Nat)(body:C)(x:Option (Ex×S)):Option (Ex×S):=match x with
 |some (.nrm,s')=>o1 (lp K m sl body) (q7P m sl s')
 |r=>r
theorem q8O(K m sl body s):lpT K m sl body (some (.nrm,s))=o1 (lp K m sl body) (q7P m sl s):=rfl
theorem j0r(K m sl body n s):lpT K m sl body (some (.exit n,s))=some (.exit n,s):=rfl
theorem z7U(K m sl body s):lpT K m sl body (some (.ret,s))=some (.ret,s):=rfl
theorem j0q(K m sl body n s):lpT K m sl body (some (.goto n,s))=some (.goto n,s):=rfl
theorem z0z(K m sl body v s):lpT K m sl body (some (.pan v,s))=some (.pan v,s):=rfl
theorem z2j(K m sl body s):exec K (.loop (.seq (.tidy m sl) body)) s=o1 (lp K m sl body) (q7P m sl s):=by
 show q5H (exec K (.seq (.tidy m sl) body)) s=_
 rw[q7E,q2w,q84]
 cases q7P m sl s with
 |none=>rfl
 |some s'=>
  rw[q4G,q3P,q10]
  rfl
theorem j31(K m sl body s):lp K m sl body s=lpT K m sl body (exec K body s):=by
 unfold lp lpT
 cases exec K body s with
 |none=>rfl
 |some p=>
  obtain⟨e,s'⟩:=p
  cases e <;> try rfl
  exact z2j K m sl body s'
theorem q1O{K m sl body body' s}(h:body=body'):lp K m sl body s=lpT K m sl body (exec K body' s):=by
 subst h;exact j31 K m sl body s
end Go.Vm
end

section
namespace Go.Vm
def nth{α:Type} [Inhabited α](l:List α)(n:Int):α:=l.getD n.toNat default
theorem z3e{α:Type} [Inhabited α](l:List α)(i:Nat):nth l (i:Int)=l.getD i default:=by simp [nth]
theorem z0u{α:Type} [Inhabited α]{l:List α}{n:Int}(h:n.toNat<l.length):l[n.toNat]? = some (nth l n):=by
 unfold nth;rw[List.getD_eq_getElem?_getD,List.getElem?_eq_getElem h];rfl
theorem q8K{α:Type} [Inhabited α]{l:List α}{n:Int}(h:n.toNat<l.length):l[n.toNat]=nth l n:=by
 have:=z0u h
 rw[List.getElem?_eq_getElem h] at this
 exact Option.some.inj this
theorem q3d{α:Type} [Inhabited α]{l:List α}{i:Nat}(h:i<l.length):l.drop i=nth l (i:Int) :: l.drop (i+1):=by
 rw[List.drop_eq_getElem_cons h,←q8K (n:=(i:Int)) (by simpa using h)]
 simp
def j1U(m:Nat)(H:List (Nat×Blk))(mv:List Nat)(ρ:List (Nat×V))(bs:List Nat):Option S:=
 if decide bs.Nodup&&decide (bs.take m=List.range m)&&ρ.all (fun p=>p.2.within bs.contains)&&closedB H bs then
  some ⟨ρ.map fun p=>(p.1,p.2.ren bs.idxOf),bs.zipIdx.filterMap fun p=>(look H p.1).map fun k=>(p.2,k.ren bs.idxOf),bs.length,(List.range m).filter mv.contains⟩
 else none
def j3q(m:Nat)(H:List (Nat×Blk))(mv:List Nat)(ρ:List (Nat×V)):Option S:=j1U m H mv ρ (q03 H (refN H+64) [] (List.range m++refsL (ρ.map (·.2))))
theorem q60(m slots ρ H nx mv):q7P m slots ⟨ρ,H,nx,mv⟩=j3q m H mv (q0e ρ slots):=rfl
theorem q5t(m H mv ρ):j3q m H mv ρ=j1U m H mv ρ (q03 H (refN H+64) [] (List.range m++refsL (ρ.map (·.2)))):=rfl
theorem q5s(m H mv ρ bs):j1U m H mv ρ bs=if decide bs.Nodup&&decide (bs.take m=List.range m)&&ρ.all (fun p=>p.2.within bs.contains)&&closedB H bs then
  some ⟨ρ.map fun p=>(p.1,p.2.ren bs.idxOf),bs.zipIdx.filterMap fun p=>(look H p.1).map fun k=>(p.2,k.ren bs.idxOf),bs.length,(List.range m).filter mv.contains⟩
 else none:=rfl
theorem q1u(H n done):q03 H n done []=done:=by cases n <;> rfl
def z3U(H:List (Nat×Blk))(n:Nat)(done:List Nat)(b:Nat)(todo:List Nat):Bool→List Nat
 |true=>q03 H n done todo
 |false=>q03 H n (done++[b]) (todo++(match look H b with|some k=>k.refs|none=>[]))
def j0a:Option Blk→List Nat
 |some k=>k.refs
 |none=>[]
theorem q0O(k):j0a (some k)=k.refs:=rfl
theorem q0x(H n done b todo):q03 H (n+1) done (b :: todo)=z3U H n done b todo (done.contains b):=by
 simp only[q03];cases done.contains b <;> rfl
theorem z25(H n done b todo):z3U H n done b todo true=q03 H n done todo:=rfl
theorem q0s(H n done b todo):z3U H n done b todo false=q03 H n (done++[b]) (todo++j0a (look H b)):=by
 simp only[z3U,j0a]
theorem j4T(H k c rows c' kd)(n:Int):evIa H k (.d c (.sl k rows)) (.d c' (.int kd n))=if 0≤n then(rows[n.toNat]?).map (fun row=>.d c (.ptr row)) else none:=by
 simp only[evIa]
 by_cases h:0≤n <;> simp [h]
 cases rows[n.toNat]? <;> rfl
theorem q7p{α:Type} [Inhabited α] (H k c)(l:List α)(e:α→List D) (c' kd)(n:Int)(h0:0≤n)(h:n<l.length):evIa H k (.d c (.sl k (l.map e))) (.d c' (.int kd n))=some (.d c (.ptr (e (nth l n)))):=by
 rw[j4T,if_pos h0,List.getElem?_map,z0u (by omega)];rfl
def iaB(k b i len:Nat)(n:Int)(blk:Blk):Option V:=if blk.k=k∧0≤n∧n<len then some (.ptr b (i+n.toNat) 0) else none
theorem q5B(H k b i len c kd)(n:Int):evIa H k (.bsl b i len) (.d c (.int kd n))=o1 (iaB k b i len n) (look H b):=by
 simp only[evIa,o1,iaB];cases look H b <;> rfl
theorem j0T(H k b i len c kd)(n:Int):evIa H k (.bsx b i len) (.d c (.int kd n))=o1 (iaB k b i len n) (look H b):=by
 simp only[evIa,o1,iaB];cases look H b <;> rfl
theorem q7k(k b i)(len:Nat)(n:Int) (c rows)(h0:0≤n)(h:n<len):iaB k b i len n (.dat c k rows)=some (.ptr b (i+n.toNat) 0):=if_pos ⟨rfl,h0,h⟩
def ldR(n:Nat)(g:Bool)(j:Nat)(row:List V):Option V:=part g n (row.drop j)
theorem q6r(n g j row):ldR n g j row=part g n (row.drop j):=rfl
def ldB(n:Nat)(g:Bool)(i j:Nat)(blk:Blk):Option V:=o1 (ldR n g j) (blk.row? i)
theorem q6s(n g i j blk):ldB n g i j blk=o1 (ldR n g j) (blk.row? i):=rfl
theorem q3B(H n g b i j):evLd H n g (.ptr b i j)=o1 (ldB n g i j) (look H b):=by
 simp only[evLd,o1,ldB,ldR]
 cases look H b with
 |none=>rfl
 |some blk=>
  show _=o1 (ldR n g j) (blk.row? i)
  cases h:blk.row? i <;> simp [h,o1,ldR]
theorem z0b(H n g c cells):evLd H n g (.d c (.ptr cells))=part g n (cells.map (mkd c)):=rfl
theorem q2J(n cs):part true n cs=if n≤cs.length then some (.agg (cs.take n)) else none:=rfl
theorem q3x(v cs):part false 1 (v :: cs)=some v:=rfl
theorem q4E(k rows i):(Blk.mix k rows).row? i=rows[i]?:=rfl
theorem j2b(c k rows i):(Blk.dat c k rows).row? i=(rows[i]?).map (·.map (mkd c)):=rfl
theorem q5w{α:Type} [Inhabited α] (c k)(l:List α)(e:α→List D)(i:Nat)(h:i<l.length):(Blk.dat c k (l.map e)).row? i=some ((e (nth l i)).map (mkd c)):=by
 rw[j2b,List.getElem?_map,List.getElem?_eq_getElem h,z3e,List.getD_eq_getElem?_getD,List.getElem?_eq_getElem h];rfl
theorem q14(k row rows j cells):(Blk.mix k (row :: rows)).set 0 j cells=if j+cells.length≤row.length then some (.mix k (splice j cells row :: rows)) else none:=by
 simp [Blk.set]
def setD(c:Bool)(k:Nat)(rows:List (List D))(row:List D)(i j:Nat)(cells:List V)(x:Option (List D)):Option Blk:=match x with
 |some ds=>some (.dat (c&&cells.all V.new1) k (rows.set i (splice j ds row)))
 |none=>some (.mix k ((rows.map (·.map (mkd c))).set i (splice j cells (row.map (mkd c)))))
theorem z7b(c k rows row i j cells ds):setD c k rows row i j cells (some ds)=some (.dat (c&&cells.all V.new1) k (rows.set i (splice j ds row))):=rfl
theorem z94{α:Type} [Inhabited α] (c k)(l:List α)(e:α→List D) (i j cells)(hi:i<l.length):(Blk.dat c k (l.map e)).set i j cells=if j+cells.length≤(e (nth l i)).length then setD c k (l.map e) (e (nth l i)) i j cells (mapO asD cells) else none:=by
 have:(l.map e)[i]? = some (e (nth l i)):=by
  rw[List.getElem?_map,List.getElem?_eq_getElem hi,z3e,List.getD_eq_getElem?_getD,List.getElem?_eq_getElem hi];rfl
 simp only[Blk.set,this,setD]
 split
 ·cases mapO asD cells <;> rfl
 ·rfl
theorem q4S{x:Int}(h1 : -9223372036854775808≤x)(h2:x≤9223372036854775807):IntKind.i64.wrap x=x:=by
 unfold IntKind.wrap
 have e1:(2:Int) ^ IntKind.i64.bits=18446744073709551616:=by decide
 have e2:(2:Int) ^ (IntKind.i64.bits - 1)=9223372036854775808:=by decide
 simp only[e1,e2]
 have:IntKind.i64.signed=true:=rfl
 simp only[this,Bool.true_and,decide_eq_true_eq]
 split <;> omega
end Go.Vm
namespace Go.Vm
theorem eq_t{a b:Int}(h:a=b):(a==b)=true:=by simpa using h
theorem eq_f{a b:Int}(h:¬ a=b):(a==b)=false:=by simpa using h
theorem ne_t{a b:Int}(h:¬ a=b):(a != b)=true:=by simpa using h
theorem ne_f{a b:Int}(h:a=b):(a != b)=false:=by simp [h]
theorem j3H{α:Type} (H k c)(l:List α)(e:α→List D):q2q H k (.d c (.sl k (l.map e)))=some (.dat (c||q0R (l.map e)) (l.map e)):=by simp [q2q]
theorem z2e:q0R []=true:=rfl
theorem z0I(r rows):q0R (r :: rows)=(r.all D.flat&&q0R rows):=rfl
theorem q7H{α:Type}(l:List α)(e:α→List D)(h:∀ x,(e x).all D.flat=true):q0R (l.map e)=true:=by
 simp only[q0R,List.all_map,List.all_eq_true,Function.comp]
 exact fun x _=>by simpa using h x
theorem j3j(s H k id len rs c rows)(h:rows.length=len)(h2:len+rs.n≤most):apA s H k id 0 len rs (.dat c k rows)=some (put H id ((Blk.dat c k rows).app rs),.bsl id 0 (len+rs.n),.some id,s.nx):=if_pos ⟨rfl,h,rfl,h2⟩
theorem ile_T{a b:Int}(h:a≤b):(a≤b)=True:=by simpa using h
theorem ile_F{a b:Int}(h:¬ a≤b):(a≤b)=False:=by simpa using h
theorem z3j{a b:Int}(h:a<b):(a<b)=True:=by simpa using h
theorem z3k{a b:Int}(h:¬ a<b):(a<b)=False:=by simpa using h
theorem j0j{a b:Nat}(h:a≤b):(a≤b)=True:=by simpa using h
theorem nlt_T{a b:Nat}(h:a<b):(a<b)=True:=by simpa using h
theorem q3u{α:Type}{l:List α}{n:Nat}(h:l.length≤n):l.take n=l:=List.take_of_length_le h
theorem z5b(n:Nat):((n:Int)+1).toNat=n+1:=by omega
theorem j0S(c c' k)(s:List UInt8)(n:Int)(h0:0≤n)(h:n<s.length):evIx (.d c (.str s)) (.d c' (.int k n))=some (.int .u8 (nth s n).toNat):=by
 simp only[evIx,h0,if_true]
 rw[z0u (by omega)]
theorem z7C{α:Type} [Inhabited α](l:List α)(n:Int):nth l ((n.toNat:Nat):Int)=nth l n:=by
 unfold nth;rw[Int.toNat_natCast]
theorem z7K:most=1099511627776:=rfl
theorem q9O:List.range 0=[]:=rfl
theorem q0C:List.range 1=[0]:=rfl
end Go.Vm
end

section
namespace Go.Vm
theorem j0R(K s):evMk K s .mkm=some (.map s.nx,[.map []]):=rfl
theorem e_lkp(K s ok kk z m k):ev K s (.lkp ok kk z m k)=o3 (q88 s.heap ok kk) (ev K s z) (ev K s m) (ev K s k):=by
 simp only[ev,o3];cases ev K s z <;> cases ev K s m <;> cases ev K s k <;> rfl
def lkO(ok:Bool)(z:V):Option (Option V)→Option V
 |some (some v)=>some (if ok then .tup [v,.bool true] else v)
 |some none=>some (if ok then .tup [z,.bool false] else z)
 |none=>none
theorem j0u(z v):lkO false z (some (some v))=some v:=rfl
theorem j0v(z):lkO false z (some none)=some z:=rfl
def lkB(ok:Bool)(kk:Nat)(z:V)(k:D):Blk→Option V
 |.map es=>lkO ok z (q6y kk k es)
 |_=>none
theorem j2u(ok kk z k es):lkB ok kk z k (.map es)=lkO ok z (q6y kk k es):=rfl
theorem z83(H ok kk z b c k):q88 H ok kk z (.map b) (.d c k)=o1 (lkB ok kk z k) (look H b):=by
 simp only[q88,o1]
 cases look H b with
 |none=>rfl
 |some blk=>
  cases blk with
  |map es=>
   simp only[Blk.entries,Option.bind_some,lkB,lkO]
   cases q6y kk k es with
   |none=>rfl
   |some r=>cases r <;> rfl
  |_=>rfl
def stM(H:List (Nat×Blk))(nx b:Nat)(x:Option (List (D×V))):Option (List (Nat×Blk)×V×Lost×Nat):=x.bind fun es=>some (put H b (.map es),.junk,.none,nx)
theorem z3P(H nx b es):stM H nx b (some es)=some (put H b (.map es),.junk,.none,nx):=rfl
def msB(H:List (Nat×Blk))(nx b kk:Nat)(d:D)(x:V):Blk→Option (List (Nat×Blk)×V×Lost×Nat)
 |.map es=>stM H nx b (setE kk d x es)
 |_=>none
theorem z7I(H nx b kk d x es):msB H nx b kk d x (.map es)=stM H nx b (setE kk d x es):=rfl
def z6W(H:List (Nat×Blk))(nx kk:Nat)(m k x:V):Option (List (Nat×Blk)×V×Lost×Nat):=match m,k with
 |.map b,.d _ d=>if x.laid then o1 (msB H nx b kk d x) (look H b) else none
 |_,_=>none
theorem q9F(H nx kk b c d x):z6W H nx kk (.map b) (.d c d) x=if x.laid then o1 (msB H nx b kk d x) (look H b) else none:=rfl
theorem z2l(K s H kk m k v):evWr K s H (.mset kk m k v)=o3 (z6W H s.nx kk) (ev K s m) (ev K s k) (ev K s v):=by
 simp only[evWr,o3]
 cases ev K s m with
 |none=>rfl
 |some a=>cases ev K s k with
  |none=>cases a <;> rfl
  |some b=>cases ev K s v with
   |none=>cases a <;> cases b <;> rfl
   |some c=>
    cases a <;> try rfl
    cases b <;> try rfl
    simp only[Option.bind_some,z6W]
    split
    ·rename_i b c' d _
     cases look H b with
     |none=>rfl
     |some blk=>
      cases blk with
      |map es=>simp only[Blk.entries,o1,Option.bind_some,msB,stM];cases setE kk d c es <;> rfl
      |_=>rfl
    ·rfl
def mcB(H:List (Nat×Blk))(nx b:Nat):Blk→Option (List (Nat×Blk)×V×Lost×Nat)
 |.map es=>if q2p es then none else some (put H b (.map []),.junk,.none,nx)
 |_=>none
theorem z7P(H nx b es)(h:q2p es=false):mcB H nx b (.map es)=some (put H b (.map []),.junk,.none,nx):=by simp [mcB,h]
def z6X(H:List (Nat×Blk))(nx:Nat):V→Option (List (Nat×Blk)×V×Lost×Nat)
 |.map b=>o1 (mcB H nx b) (look H b)
 |_=>none
theorem z45(H nx b):z6X H nx (.map b)=o1 (mcB H nx b) (look H b):=rfl
theorem z8X(K s H m):evWr K s H (.mclr m)=o1 (z6X H s.nx) (ev K s m):=by
 simp only[evWr,o1]
 cases ev K s m with
 |none=>rfl
 |some a=>
  cases a <;> try rfl
  rename_i b
  simp only[Option.bind_some,z6X,o1]
  cases look H b with
  |none=>rfl
  |some blk=>cases blk <;> rfl
def q3S(l:List (List UInt8)):List (D×V):=l.map fun m=>(.str m,.d false (.int .i64 1))
theorem z5J(n:List UInt8)(l:List (List UInt8)):q6y 2 (.str n) (q3S l)=some (if l.contains n then some (.d false (.int .i64 1)) else none):=by
 induction l with
 |nil=>rfl
 |cons m l ih=>
  simp only[q3S,List.map_cons,q6y,q3A,List.contains_cons] at ih ⊢
  by_cases h:n=m
  ·simp [h]
  ·have:(n==m)=false:=by simpa using h
   simp only[this,Bool.false_or]
   have hd:decide (n=m)=false:=by simpa using h
   simp only[hd]
   exact ih
theorem z1r(n:List UInt8)(l:List (List UInt8))(h:l.contains n=false):setE 2 (.str n) (.d false (.int .i64 1)) (q3S l)=some (q3S (l++[n])):=by
 induction l with
 |nil=>simp [q3S,setE,q3A]
 |cons m l ih=>
  simp only[List.contains_cons,Bool.or_eq_false_iff] at h
  have hd:decide (n=m)=false:=by simpa using h.1
  have ih:=ih h.2
  simp only[q3S,List.map_cons,setE,q3A,hd,List.cons_append] at ih ⊢
  rw[ih]
theorem z1t:q3S []=[]:=rfl
theorem z7c(l:List (List UInt8)):(q3S l).flatMap (fun q=>q.2.refs)=[]:=by
 induction l with
 |nil=>rfl
 |cons m l ih=>simp [q3S,V.refs]
theorem z22(l:List (List UInt8))(p:Nat→Bool):(q3S l).all (fun q=>q.2.within p)=true:=by
 simp [q3S,V.within]
theorem z95(l:List (List UInt8))(g:Nat→Nat):(q3S l).map (fun q=>(q.1,q.2.ren g))=q3S l:=by
 simp [q3S,V.ren]
theorem cast7:((7:Nat):Int)=7:=rfl
theorem z05(c x):wonV true (some (.d c (.bool x)))=some x:=by cases x <;> rfl
theorem e_s2r(K s a):ev K s (.s2r a)=o1 z8Y (ev K s a):=by
 simp only[ev,o1];cases ev K s a <;> rfl
theorem e_sh(K s l a b):ev K s (.sh l a b)=o2 (evSh l) (ev K s a) (ev K s b):=by
 simp only[ev,o2];cases ev K s a <;> cases ev K s b <;> rfl
theorem z3u(K s a):ev K s (.b2s a)=o1 (z5R s.heap) (ev K s a):=by
 simp only[ev];cases ev K s a <;> rfl
end Go.Vm
end

section
namespace Go.Vm
def rwB(k i len:Nat):Blk→Option Rows
 |.dat c k' rows=>if k'=k∧i+len≤rows.length then some (.dat (c||q0R rows) ((rows.drop i).take len)) else none
 |.mix k' rows=>if k'=k∧i+len≤rows.length then some (.mix ((rows.drop i).take len)) else none
 |.map _=>none
theorem z97(H k b i len):q2q H k (.bsl b i len)=o1 (rwB k i len) (look H b):=by
 simp only[q2q,o1]
 cases look H b with
 |none=>rfl
 |some blk=>cases blk <;> rfl
theorem j19(k i len c rows):rwB k i len (.dat c k rows)=if i+len≤rows.length then some (.dat (c||q0R rows) ((rows.drop i).take len)) else none:=by simp [rwB]
theorem j18(k i len rows):rwB k i len (.mix k rows)=if i+len≤rows.length then some (.mix ((rows.drop i).take len)) else none:=by simp [rwB]
end Go.Vm
end

section
namespace Go.Vm
def LN0:=PLift.up (And.intro (And.intro (And.intro @List.length_map.{0,0} (And.intro @List.length_append.{0} @List.length_take.{0})) (And.intro @List.length_drop.{0} (And.intro @List.length_replicate.{0} @List.length_set.{0}))) (And.intro (And.intro @List.length_cons.{0} (And.intro @List.length_nil.{0} @Rows.n.eq_1)) (And.intro (And.intro @Rows.n.eq_2 @z7K) (And.intro @Int.toNat_natCast @Nat.zero_add))))
theorem LN:type_of% LN0.down:=LN0.down
def SX0:=PLift.up (And.intro (And.intro (And.intro (And.intro (And.intro (And.intro (And.intro (And.intro @e_sl @q1n) (And.intro @q1d @q2L)) (And.intro (And.intro @q0W @q10) (And.intro @List.length_nil.{0} (And.intro @List.map_nil.{0,0} @q1E)))) (And.intro (And.intro (And.intro @List.nil_append.{0} @List.append_nil.{0}) (And.intro @q2F @q12)) (And.intro (And.intro @q1F @q0X) (And.intro @q1g (And.intro @q2P @q0y))))) (And.intro (And.intro (And.intro (And.intro @q1z @q0H) (And.intro @addBlks.eq_1 @addBlks.eq_2)) (And.intro (And.intro @List.map_cons.{0,0} @q2w) (And.intro @q2b (And.intro @q1x @List.cons_append.{0})))) (And.intro (And.intro (And.intro @q15 @q4G) (And.intro @q3P (And.intro @List.zipIdx_nil.{0} @q19))) (And.intro (And.intro @q0N @q60) (And.intro @q5t (And.intro @refsL.eq_1 @refsL.eq_2)))))) (And.intro (And.intro (And.intro (And.intro (And.intro @q1u @q5s) (And.intro @List.nodup_nil.{0} @List.all_nil.{0})) (And.intro (And.intro @closedB.eq_1 @Blk.ren.eq_1) (And.intro @Blk.ren.eq_2 (And.intro @Blk.ren.eq_3 @List.filterMap_nil.{0,0})))) (And.intro (And.intro (And.intro @List.filter_nil.{0} @q9O) (And.intro @List.all_cons.{0} (And.intro @V.within.eq_1 @V.within.eq_2))) (And.intro (And.intro @V.within.eq_4 @V.within.eq_5) (And.intro @V.within.eq_6 (And.intro @V.within.eq_7 @V.within.eq_8))))) (And.intro (And.intro (And.intro (And.intro @V.within.eq_9 @V.within.eq_10) (And.intro @V.within.eq_11 @V.ren.eq_1)) (And.intro (And.intro @V.ren.eq_2 @V.ren.eq_4) (And.intro @V.ren.eq_5 (And.intro @V.ren.eq_6 @V.ren.eq_7)))) (And.intro (And.intro (And.intro @V.ren.eq_8 @V.ren.eq_9) (And.intro @V.ren.eq_10 (And.intro @V.ren.eq_11 @q3u))) (And.intro (And.intro @q9f @List.length_cons.{0}) (And.intro @Blk.within.eq_1 (And.intro @Blk.within.eq_2 @Blk.within.eq_3))))))) (And.intro (And.intro (And.intro (And.intro (And.intro (And.intro @q2S @Option.map_some.{0,0}) (And.intro @q9d @q84)) (And.intro (And.intro @q1B @q18) (And.intro @q2O (And.intro @e_ld @q3H)))) (And.intro (And.intro (And.intro @List.drop_zero.{0} @q17) (And.intro @List.zipIdx_cons.{0} (And.intro @q3B @q6s))) (And.intro (And.intro @q6r @q4E) (And.intro @q3x (And.intro @q1f @q2N))))) (And.intro (And.intro (And.intro (And.intro @q2H @q2M) (And.intro @e_fa @q1c)) (And.intro (And.intro @List.drop_succ_cons.{0} @q2Y) (And.intro @q6B (And.intro @q4h @q2c)))) (And.intro (And.intro (And.intro @mkBox.eq_1 @List.take_zero.{0}) (And.intro @j0V (And.intro @finish.eq_1 @q2R))) (And.intro (And.intro @z7f @startS.eq_1) (And.intro @indexed.eq_1 (And.intro @z5Q @Option.isSome_some.{0})))))) (And.intro (And.intro (And.intro (And.intro (And.intro @j4V @q6G) (And.intro @loseH.eq_1 @loseH.eq_2)) (And.intro (And.intro @loseH.eq_3 @Lost.ids.eq_1) (And.intro @Lost.ids.eq_2 (And.intro @Lost.ids.eq_3 @q1w)))) (And.intro (And.intro (And.intro @q4p @q1y) (And.intro @q4e (And.intro @q1H @splice.eq_1))) (And.intro (And.intro @q1e @q0T) (And.intro @q38 (And.intro @q13 @q14))))) (And.intro (And.intro (And.intro (And.intro @q2J @q7w) (And.intro @e_ia @z3j)) (And.intro (And.intro @mkd.eq_1 @eq_f) (And.intro @viewDepth.eq_1 (And.intro @q7p @z0h)))) (And.intro (And.intro (And.intro @z0b @List.any_cons.{0}) (And.intro @List.any_nil.{0} (And.intro @q2V @q2I))) (And.intro (And.intro @q3C @q6I) (And.intro @q2d (And.intro @List.length_map.{0,0} @q6H)))))))) (And.intro (And.intro (And.intro (And.intro (And.intro (And.intro (And.intro @q2X @q9c) (And.intro @z2q @q3m)) (And.intro (And.intro @q0x @List.contains_nil.{0}) (And.intro @q0s (And.intro @q0O @Blk.refs.eq_1)))) (And.intro (And.intro (And.intro @Blk.refs.eq_2 @Blk.refs.eq_3) (And.intro @List.nodup_cons.{0} @List.not_mem_nil.{0})) (And.intro (And.intro @List.idxOf_cons.{0} @List.contains_cons.{0}) (And.intro @q2n (And.intro @q4S @List.filterMap_cons.{0,0}))))) (And.intro (And.intro (And.intro (And.intro @q4O @List.flatMap_cons.{0,0}) (And.intro @List.flatMap_nil.{0,0} @withinL.eq_1)) (And.intro (And.intro @withinL.eq_2 @renL.eq_1) (And.intro @renL.eq_2 (And.intro @e_or @q70)))) (And.intro (And.intro (And.intro @z9g @q1v) (And.intro @e_un (And.intro @List.mem_cons.{0} @z3k))) (And.intro (And.intro @ile_T @q9e) (And.intro @q8O (And.intro @j0X @q5B)))))) (And.intro (And.intro (And.intro (And.intro (And.intro @q7k @z7U) (And.intro @nlt_T @z2j)) (And.intro (And.intro @q5w @q5A) (And.intro @j1a (And.intro @z8Z @z5t)))) (And.intro (And.intro (And.intro @j0j @Option.map_none.{0,0}) (And.intro @List.take_succ_cons.{0} (And.intro @ile_F @z8N))) (And.intro (And.intro @z91 @q3R) (And.intro @j0Y (And.intro @Option.some.injEq.{0} @j0r))))) (And.intro (And.intro (And.intro (And.intro @z52 @e_eqs) (And.intro @z94 @z7b)) (And.intro (And.intro @j0P @Rows.n.eq_1) (And.intro @Rows.n.eq_2 (And.intro @e_lkp @z83)))) (And.intro (And.intro (And.intro @j2u @z5J) (And.intro @q5p (And.intro @ne_t @z7c))) (And.intro (And.intro @z22 @z95) (And.intro @z97 (And.intro @j19 @z0I))))))) (And.intro (And.intro (And.intro (And.intro (And.intro (And.intro @z2e @forgetR.eq_1) (And.intro @List.filter_cons.{0} @q3a)) (And.intro (And.intro @q3N @q4N) (And.intro @handed.eq_1 (And.intro @Blk.dim.eq_1 @Blk.dim.eq_2)))) (And.intro (And.intro (And.intro @Blk.dim.eq_3 @q51) (And.intro @V.dim.eq_1 (And.intro @V.dim.eq_2 @V.dim.eq_3))) (And.intro (And.intro @V.dim.eq_4 @V.dim.eq_5) (And.intro @V.dim.eq_6 (And.intro @V.dim.eq_7 @V.dim.eq_8))))) (And.intro (And.intro (And.intro (And.intro @V.dim.eq_10 @V.dim.eq_11) (And.intro @q50 @putAll.eq_1)) (And.intro (And.intro @putAll.eq_2 @q8b) (And.intro @Option.getD_some.{0} (And.intro @j0v @z6Y)))) (And.intro (And.intro (And.intro @j3j @Blk.app.eq_1) (And.intro @Blk.app.eq_2 (And.intro @Blk.app.eq_3 @Blk.app.eq_4))) (And.intro (And.intro @restH.eq_1 @z7C) (And.intro @j0R (And.intro @q3I @q68)))))) (And.intro (And.intro (And.intro (And.intro (And.intro @q69 @q8L) (And.intro @Blk.plain.eq_1 @Blk.plain.eq_2)) (And.intro (And.intro @Blk.plain.eq_3 @Blk.new.eq_1) (And.intro @Blk.new.eq_2 (And.intro @Blk.new.eq_3 @z9V)))) (And.intro (And.intro (And.intro @Rows.blk.eq_1 @Rows.blk.eq_2) (And.intro @q5u (And.intro @q3M @j0Q))) (And.intro (And.intro @z7K @z25) (And.intro @j09 (And.intro @z90 @cast7))))) (And.intro (And.intro (And.intro (And.intro @ne_f @j0u) (And.intro @z8X @z45)) (And.intro (And.intro @z7P @List.set_cons_succ.{0}) (And.intro @List.set_cons_zero.{0} (And.intro @z87 @q7r)))) (And.intro (And.intro (And.intro @List.length_drop.{0} @List.length_take.{0}) (And.intro @e_ix (And.intro @j0S @z5b))) (And.intro (And.intro @j3b @z50) (And.intro @j3H (And.intro @z8M @j0q)))))))))
theorem SX:type_of% SX0.down:=SX0.down
def SV0:=PLift.up (And.intro SX (And.intro (And.intro @mkBlk.eq_1 (And.intro @j2p @forgetH.eq_1)) (And.intro (And.intro @Blk.forget.eq_1 @Blk.forget.eq_2) (And.intro @Blk.forget.eq_3 @finB.eq_1))))
theorem SV:type_of% SV0.down:=SV0.down
end Go.Vm
end

section
namespace Go.Vm
theorem j1E   (c x):(V.d c x).refs=[]:=rfl
theorem z9t   (c k r):(V.fs c k r).refs=[]:=rfl
theorem z4G:(V.junk).refs=[]:=rfl
theorem z6l   (b i j):(V.ptr b i j).new1=false:=rfl
theorem z6o   (b i n):(V.bsl b i n).new1=false:=rfl
theorem z6m   (b):(V.map b).new1=false:=rfl
theorem z6p   (cs):(V.agg cs).new1=false:=rfl
theorem z6k   (vs):(V.tup vs).new1=false:=rfl
theorem z9E   (f cs):(V.fn f cs).new1=false:=rfl
theorem z2E   (t v):(V.iface t v).new1=false:=rfl
theorem z4K:(V.junk).new1=false:=rfl
theorem j3m   (c x):(V.d c x).new=(V.d c x).new1:=rfl
theorem j1G   (c k r):(V.fs c k r).new=(V.fs c k r).new1:=rfl
theorem z9A   (b i j):(V.ptr b i j).new=(V.ptr b i j).new1:=rfl
theorem z9D   (b i n):(V.bsl b i n).new=(V.bsl b i n).new1:=rfl
theorem z9B   (b):(V.map b).new=(V.map b).new1:=rfl
theorem j1H   (f cs):(V.fn f cs).new=(V.fn f cs).new1:=rfl
theorem z4J   (t v):(V.iface t v).new=(V.iface t v).new1:=rfl
theorem z6j:(V.junk).new=(V.junk).new1:=rfl
theorem z6e   (b i j):(V.ptr b i j).own1=true:=rfl
theorem z6h   (b i n):(V.bsl b i n).own1=true:=rfl
theorem z6f   (b):(V.map b).own1=true:=rfl
theorem z6i   (cs):(V.agg cs).own1=true:=rfl
theorem z6d   (vs):(V.tup vs).own1=true:=rfl
theorem z9z   (f cs):(V.fn f cs).own1=true:=rfl
theorem z2D   (t v):(V.iface t v).own1=true:=rfl
theorem z4I:(V.junk).own1=true:=rfl
theorem j3l   (c x):(V.d c x).own=(V.d c x).own1:=rfl
theorem j1F   (c k r):(V.fs c k r).own=(V.fs c k r).own1:=rfl
theorem z9v   (b i j):(V.ptr b i j).own=(V.ptr b i j).own1:=rfl
theorem z9y   (b i n):(V.bsl b i n).own=(V.bsl b i n).own1:=rfl
theorem z9w   (b):(V.map b).own=(V.map b).own1:=rfl
theorem z9u   (vs):(V.tup vs).own=(V.tup vs).own1:=rfl
theorem z4H   (t v):(V.iface t v).own=(V.iface t v).own1:=rfl
theorem z6c:(V.junk).own=(V.junk).own1:=rfl
theorem z6x   (c k r):(V.fs c k r).flat1=false:=rfl
theorem z4S   (b i j):(V.ptr b i j).flat1=false:=rfl
theorem z4V   (b i n):(V.bsl b i n).flat1=false:=rfl
theorem z4T   (b):(V.map b).flat1=false:=rfl
theorem z4W   (cs):(V.agg cs).flat1=false:=rfl
theorem z4R   (vs):(V.tup vs).flat1=false:=rfl
theorem z6y   (f cs):(V.fn f cs).flat1=false:=rfl
theorem z01   (t v):(V.iface t v).flat1=false:=rfl
theorem z2H:(V.junk).flat1=false:=rfl
theorem z9H   (c x):(V.d c x).flatV=(V.d c x).flat1:=rfl
theorem z6v   (c k r):(V.fs c k r).flatV=(V.fs c k r).flat1:=rfl
theorem z4N   (b i j):(V.ptr b i j).flatV=(V.ptr b i j).flat1:=rfl
theorem z4Q   (b i n):(V.bsl b i n).flatV=(V.bsl b i n).flat1:=rfl
theorem z4O   (b):(V.map b).flatV=(V.map b).flat1:=rfl
theorem z4M   (vs):(V.tup vs).flatV=(V.tup vs).flat1:=rfl
theorem z6w   (f cs):(V.fn f cs).flatV=(V.fn f cs).flat1:=rfl
theorem z00   (t v):(V.iface t v).flatV=(V.iface t v).flat1:=rfl
theorem z2G:(V.junk).flatV=(V.junk).flat1:=rfl
theorem j1D(H)  (c x):view H (V.d c x)=(q0b viewDepth H (V.d c x)).map (.d false):=rfl
theorem z9s(H)  (c k r):view H (V.fs c k r)=(q0b viewDepth H (V.fs c k r)).map (.d false):=rfl
theorem z58(H)  (b i j):view H (V.ptr b i j)=(q0b viewDepth H (V.ptr b i j)).map (.d false):=rfl
theorem z6b(H)  (b i n):view H (V.bsl b i n)=(q0b viewDepth H (V.bsl b i n)).map (.d false):=rfl
theorem z59(H)  (b):view H (V.map b)=(q0b viewDepth H (V.map b)).map (.d false):=rfl
theorem z57(H)  (vs):view H (V.tup vs)=(q0b viewDepth H (V.tup vs)).map (.d false):=rfl
theorem z2C(H)  (t v):view H (V.iface t v)=(q0b viewDepth H (V.iface t v)).map (.d false):=rfl
theorem z4F(H):view H (V.junk)=(q0b viewDepth H (V.junk)).map (.d false):=rfl
theorem j1I   (c x):(V.d c x).laid=(V.d c x).cell:=rfl
theorem z9F   (c k r):(V.fs c k r).laid=(V.fs c k r).cell:=rfl
theorem z6r   (b i j):(V.ptr b i j).laid=(V.ptr b i j).cell:=rfl
theorem z6u   (b i n):(V.bsl b i n).laid=(V.bsl b i n).cell:=rfl
theorem z6s   (b):(V.map b).laid=(V.map b).cell:=rfl
theorem z6q   (vs):(V.tup vs).laid=(V.tup vs).cell:=rfl
theorem z9G   (f cs):(V.fn f cs).laid=(V.fn f cs).cell:=rfl
theorem z2F   (t v):(V.iface t v).laid=(V.iface t v).cell:=rfl
theorem z4L:(V.junk).laid=(V.junk).cell:=rfl
theorem z9Q   (c x):(V.d c x).cells=[(V.d c x)]:=rfl
theorem z6M   (c k r):(V.fs c k r).cells=[(V.fs c k r)]:=rfl
theorem z40   (b i j):(V.ptr b i j).cells=[(V.ptr b i j)]:=rfl
theorem z43   (b i n):(V.bsl b i n).cells=[(V.bsl b i n)]:=rfl
theorem z41   (b):(V.map b).cells=[(V.map b)]:=rfl
theorem z4Z   (vs):(V.tup vs).cells=[(V.tup vs)]:=rfl
theorem z6N   (f cs):(V.fn f cs).cells=[(V.fn f cs)]:=rfl
theorem z02   (t v):(V.iface t v).cells=[(V.iface t v)]:=rfl
theorem z2K:(V.junk).cells=[(V.junk)]:=rfl
theorem j1J(z) (bs) (H)  (c x):finV z bs H (V.d c x)=finA z bs H (V.d c x):=rfl
theorem z9I(z) (bs) (H)  (c k r):finV z bs H (V.fs c k r)=finA z bs H (V.fs c k r):=rfl
theorem z6z(z) (bs) (H)  (b i j):finV z bs H (V.ptr b i j)=finA z bs H (V.ptr b i j):=rfl
theorem z6C(z) (bs) (H)  (b i n):finV z bs H (V.bsl b i n)=finA z bs H (V.bsl b i n):=rfl
theorem z6A(z) (bs) (H)  (b):finV z bs H (V.map b)=finA z bs H (V.map b):=rfl
theorem z6D(z) (bs) (H)  (cs):finV z bs H (V.agg cs)=finA z bs H (V.agg cs):=rfl
theorem z9J(z) (bs) (H)  (f cs):finV z bs H (V.fn f cs)=finA z bs H (V.fn f cs):=rfl
theorem z2I(z) (bs) (H)  (t v):finV z bs H (V.iface t v)=finA z bs H (V.iface t v):=rfl
theorem z4X(z) (bs) (H):finV z bs H (V.junk)=finA z bs H (V.junk):=rfl
theorem j1K(z) (bs) (H)  (c x):finA z bs H (V.d c x)=finC z bs H (V.d c x):=rfl
theorem z9K(z) (bs) (H)  (c k r):finA z bs H (V.fs c k r)=finC z bs H (V.fs c k r):=rfl
theorem z6F(z) (bs) (H)  (b i j):finA z bs H (V.ptr b i j)=finC z bs H (V.ptr b i j):=rfl
theorem z6I(z) (bs) (H)  (b i n):finA z bs H (V.bsl b i n)=finC z bs H (V.bsl b i n):=rfl
theorem z6G(z) (bs) (H)  (b):finA z bs H (V.map b)=finC z bs H (V.map b):=rfl
theorem z6E(z) (bs) (H)  (vs):finA z bs H (V.tup vs)=finC z bs H (V.tup vs):=rfl
theorem z2J(z) (bs) (H)  (t v):finA z bs H (V.iface t v)=finC z bs H (V.iface t v):=rfl
theorem z4Y(z) (bs) (H):finA z bs H (V.junk)=finC z bs H (V.junk):=rfl
theorem z6T   (cs):(V.agg cs).cell=false:=rfl
theorem z6O   (vs):(V.tup vs).cell=false:=rfl
theorem z44:(V.junk).cell=false:=rfl
theorem j1O   (c x):(V.d c x).cell=true:=rfl
theorem z9R   (c k r):(V.fs c k r).cell=true:=rfl
theorem z6P   (b i j):(V.ptr b i j).cell=true:=rfl
theorem z6S   (b i n):(V.bsl b i n).cell=true:=rfl
theorem z6n   (b i n):(V.bsx b i n).new1=false:=rfl
theorem z9C   (b i n):(V.bsx b i n).new=(V.bsx b i n).new1:=rfl
theorem z6g   (b i n):(V.bsx b i n).own1=true:=rfl
theorem z9x   (b i n):(V.bsx b i n).own=(V.bsx b i n).own1:=rfl
theorem z4U   (b i n):(V.bsx b i n).flat1=false:=rfl
theorem z4P   (b i n):(V.bsx b i n).flatV=(V.bsx b i n).flat1:=rfl
theorem z6a(H)  (b i n):view H (V.bsx b i n)=(q0b viewDepth H (V.bsx b i n)).map (.d false):=rfl
theorem z6t   (b i n):(V.bsx b i n).laid=(V.bsx b i n).cell:=rfl
theorem z42   (b i n):(V.bsx b i n).cells=[(V.bsx b i n)]:=rfl
theorem z6B(z) (bs) (H)  (b i n):finV z bs H (V.bsx b i n)=finA z bs H (V.bsx b i n):=rfl
theorem z6H(z) (bs) (H)  (b i n):finA z bs H (V.bsx b i n)=finC z bs H (V.bsx b i n):=rfl
theorem z6R   (b i n):(V.bsx b i n).cell=true:=rfl
theorem z6Q   (b):(V.map b).cell=true:=rfl
theorem z9S   (f cs):(V.fn f cs).cell=true:=rfl
theorem z2L   (t v):(V.iface t v).cell=true:=rfl
theorem j1N(k n):(D.int k n).flat=true:=rfl
theorem z9P(b):(D.bool b).flat=true:=rfl
theorem j1L(s):(D.str s).flat=true:=rfl
theorem j3n(k r):(D.sl k r).flat=false:=rfl
theorem j1M(c):(D.ptr c).flat=false:=rfl
theorem z9M:(D.nilp).flat=true:=rfl
theorem z6J:(D.nilif).flat=true:=rfl
theorem z6K:(D.nilfn).flat=true:=rfl
theorem z6L(t c):(D.iface t c).flat=false:=rfl
theorem z9L(k):(D.nils k).flat=true:=rfl
theorem z9O(k):(D.emps k).flat=true:=rfl
theorem z9N:(D.nilm).flat=true:=rfl
def SW0:=PLift.up (And.intro @q0E (And.intro (And.intro (And.intro (And.intro (And.intro @z6n @z9C) (And.intro @z6g (And.intro @z9x @z4U))) (And.intro (And.intro @z4P (And.intro @z6a @z6t)) (And.intro @z42 (And.intro @z6B @z6H)))) (And.intro (And.intro (And.intro @z6R @evLen.eq_5) (And.intro @V.drop1.eq_3 (And.intro @V.ref0.eq_3 @V.refs.eq_3))) (And.intro (And.intro @V.ren.eq_3 (And.intro @V.within.eq_3 @V.dim.eq_9)) (And.intro @finC.eq_5 (And.intro @V.isNilS.eq_2 @V.shift.eq_3))))) (And.intro (And.intro @z5v (And.intro @z3f (And.intro @q6m (And.intro @q5z (And.intro @j0T (And.intro @D.flat0.eq_1 (And.intro @D.flat0.eq_2 (And.intro @D.flat0.eq_3 (And.intro @D.flat0.eq_4 (And.intro @D.flat0.eq_5 (And.intro @D.flat0.eq_6 (And.intro @D.flat0.eq_7 (And.intro @D.flat0.eq_8 (And.intro @D.flat0.eq_9 (And.intro @D.flat0.eq_10 (And.intro @D.flat0.eq_11 @D.flat0.eq_12)))))))))))))))) (And.intro (And.intro (And.intro (And.intro (And.intro (And.intro (And.intro @beq_self_eq_true.{0} (And.intro @if_true.{1} @Bool.and_self)) (And.intro (And.intro @decide_true @Nat.zero_add) (And.intro @if_false.{1} @Bool.false_eq_true))) (And.intro (And.intro @Bool.or_true (And.intro @Bool.or_self @Bool.and_false)) (And.intro (And.intro @Bool.not_true @List.getElem?_cons_zero.{0}) (And.intro @Bool.false_and @Bool.or_false)))) (And.intro (And.intro (And.intro @Nat.le_refl (And.intro @decide_false @and_self)) (And.intro (And.intro @not_false_eq_true @cond_true.{1}) (And.intro @Nat.add_zero @Bool.and_true))) (And.intro (And.intro @Bool.not_false (And.intro @List.getElem?_cons_succ.{0} @or_self)) (And.intro (And.intro @cond_false.{1} @bne_self_eq_false.{0}) (And.intro @z5T @q65))))) (And.intro (And.intro (And.intro (And.intro @Bool.true_or (And.intro @beq_iff_eq.{0} @or_false)) (And.intro (And.intro @eq_t @or_true) (And.intro @j3a @List.length_append.{0}))) (And.intro (And.intro @Int.toNat_natCast (And.intro @and_true @true_or)) (And.intro (And.intro @j4U @j0f) (And.intro @Bool.true_and @Prod.mk.injEq.{0,0})))) (And.intro (And.intro (And.intro @evBin.eq_1 (And.intro @evBin.eq_2 @intBin.eq_1)) (And.intro (And.intro @intBin.eq_2 @intBin.eq_3) (And.intro @intBin.eq_4 @intBin.eq_5))) (And.intro (And.intro @intBin.eq_6 (And.intro @intBin.eq_7 @intBin.eq_8)) (And.intro (And.intro @intBin.eq_9 @intBin.eq_10) (And.intro @intBin.eq_11 @intBin.eq_12)))))) (And.intro (And.intro (And.intro (And.intro (And.intro @intBin.eq_13 (And.intro @intBin.eq_14 @intBin.eq_15)) (And.intro (And.intro @evLen.eq_1 @evLen.eq_2) (And.intro @evLen.eq_3 @evLen.eq_4))) (And.intro (And.intro @evFa.eq_1 (And.intro @evFa.eq_2 @strBin.eq_1)) (And.intro (And.intro @strBin.eq_2 @strBin.eq_3) (And.intro @strBin.eq_4 @strBin.eq_5)))) (And.intro (And.intro (And.intro @strBin.eq_6 (And.intro @strBin.eq_7 @evUn.eq_1)) (And.intro (And.intro @evUn.eq_2 @evExt.eq_1) (And.intro @evSet.eq_1 @asD.eq_1))) (And.intro (And.intro @asD.eq_2 (And.intro @V.refs.eq_1 @V.refs.eq_2)) (And.intro (And.intro @V.refs.eq_4 @V.refs.eq_5) (And.intro @V.refs.eq_6 @V.refs.eq_7))))) (And.intro (And.intro (And.intro (And.intro @V.refs.eq_8 (And.intro @V.new1.eq_1 @V.new1.eq_2)) (And.intro (And.intro @V.new.eq_1 @V.new.eq_2) (And.intro @V.own.eq_1 @V.own.eq_2))) (And.intro (And.intro @V.own1.eq_1 (And.intro @V.own1.eq_2 @V.flat1.eq_1)) (And.intro (And.intro @V.flatV.eq_1 @view.eq_1) (And.intro @view.eq_2 @V.laid.eq_1)))) (And.intro (And.intro (And.intro @V.cells.eq_1 (And.intro @finC.eq_1 @finC.eq_2)) (And.intro (And.intro @finC.eq_3 @finC.eq_4) (And.intro @finC.eq_6 @finC.eq_7))) (And.intro (And.intro (And.intro @finA.eq_1 @finA.eq_2) (And.intro @finV.eq_1 @j1E)) (And.intro (And.intro @z9t @z4G) (And.intro @z6l @z6o))))))) (And.intro (And.intro (And.intro (And.intro (And.intro (And.intro @z6m (And.intro @z6p @z6k)) (And.intro (And.intro @z9E @z2E) (And.intro @z4K @j3m))) (And.intro (And.intro @j1G (And.intro @z9A @z9D)) (And.intro (And.intro @z9B @j1H) (And.intro @z4J @z6j)))) (And.intro (And.intro (And.intro @z6e (And.intro @z6h @z6f)) (And.intro (And.intro @z6i @z6d) (And.intro @z9z @z2D))) (And.intro (And.intro @z4I (And.intro @j3l @j1F)) (And.intro (And.intro @z9v @z9y) (And.intro @z9w @z9u))))) (And.intro (And.intro (And.intro (And.intro @z4H (And.intro @z6c @z6x)) (And.intro (And.intro @z4S @z4V) (And.intro @z4T @z4W))) (And.intro (And.intro @z4R (And.intro @z6y @z01)) (And.intro (And.intro @z2H @z9H) (And.intro @z6v @z4N)))) (And.intro (And.intro (And.intro @z4Q (And.intro @z4O @z4M)) (And.intro (And.intro @z6w @z00) (And.intro @z2G @j1D))) (And.intro (And.intro @z9s (And.intro @z58 @z6b)) (And.intro (And.intro @z59 @z57) (And.intro @z2C @z4F)))))) (And.intro (And.intro (And.intro (And.intro (And.intro @j1I (And.intro @z9F @z6r)) (And.intro (And.intro @z6u @z6s) (And.intro @z6q @z9G))) (And.intro (And.intro @z2F (And.intro @z4L @z9Q)) (And.intro (And.intro @z6M @z40) (And.intro @z43 @z41)))) (And.intro (And.intro (And.intro @z4Z (And.intro @z6N @z02)) (And.intro (And.intro @z2K @j1J) (And.intro @z9I @z6z))) (And.intro (And.intro @z6C (And.intro @z6A @z6D)) (And.intro (And.intro @z9J @z2I) (And.intro @z4X @j1K))))) (And.intro (And.intro (And.intro (And.intro @z9K (And.intro @z6F @z6I)) (And.intro (And.intro @z6G @z6E) (And.intro @z2J @z4Y))) (And.intro (And.intro @z6T (And.intro @z6O @z44)) (And.intro (And.intro @j1O @z9R) (And.intro @z6P @z6S)))) (And.intro (And.intro (And.intro @z6Q (And.intro @z9S @z2L)) (And.intro (And.intro @j1N @z9P) (And.intro @j1L @j3n))) (And.intro (And.intro (And.intro @j1M @z9M) (And.intro @z6J @z6K)) (And.intro (And.intro @z6L @z9L) (And.intro @z9O @z9N)))))))))))
theorem SW:type_of% SW0.down:=SW0.down
end Go.Vm
end

section
namespace Go.Vm
theorem q08(K sl s):exec K (.keep sl) s=some (.nrm,skipM s sl):=rfl
theorem q1Z(ρ H nx mv sl):skipM ⟨ρ,H,nx,mv⟩ sl=⟨q0e ρ sl++z0x sl,H,nx,mv⟩:=rfl
noncomputable def lpk(K:Cx)(sl:List Nat)(body:C)(s:S):Option (Ex×S):=match exec K body s with
 |some (.nrm,s')=>exec K (.loop (.seq (.keep sl) body)) s'
 |r=>r
noncomputable def lpkT(K:Cx)(sl:List Nat)(body:C)(x:Option (Ex×S)):Option (Ex×S):=match x with
 |some (.nrm,s')=>lpk K sl body (skipM s' sl)
 |r=>r
theorem z0y(K sl body s):lpkT K sl body (some (.nrm,s))=lpk K sl body (skipM s sl):=rfl
theorem q8N(K sl body n s):lpkT K sl body (some (.exit n,s))=some (.exit n,s):=rfl
theorem q4I(K sl body v s):lpkT K sl body (some (.pan v,s))=some (.pan v,s):=rfl
theorem q29(K sl body s):exec K (.loop (.seq (.keep sl) body)) s=lpk K sl body (skipM s sl):=by
 show q5H (exec K (.seq (.keep sl) body)) s=_
 rw[q7E,q2w,q08]
 simp only[q3P]
 unfold lpk
 cases exec K body (skipM s sl) with
 |none=>rfl
 |some p=>
  obtain⟨e,s'⟩:=p
  cases e <;> rfl
theorem j2t(K sl body s):lpk K sl body s=lpkT K sl body (exec K body s):=by
 unfold lpk lpkT
 cases exec K body s with
 |none=>rfl
 |some p=>
  obtain⟨e,s'⟩:=p
  cases e <;> try rfl
  exact q29 K sl body s'
theorem q4u{K sl body body' s}(h:body=body'):lpk K sl body s=lpkT K sl body (exec K body' s):=by
 subst h;exact j2t K sl body s
theorem q9V{a b:Nat}(h:a≠b):(a==b)=false:=by simpa using h
theorem q3o{α:Type}{k t:Nat}(v:α)(r:List (Nat×α))(h:k≠t):look ((k,v) :: r) t=look r t:=by simp only[look,if_neg h]
theorem z7W{α:Type}(k:Nat)(v:α)(r:List (Nat×α)):look ((k,v) :: r) k=some v:=by simp only[look,if_true]
theorem q0c{α:Type}{k t:Nat}(v:α)(r:List (Nat×α))(h:k≠t):look (put r k v) t=look r t:=by rw[q0u,if_neg h]
theorem q0G{α:Type}(k:Nat)(v:α)(r:List (Nat×α)):look (put r k v) k=some v:=by rw[q0u,if_pos rfl]
theorem q1J(p:Nat→Bool)(H:List (Nat×Blk))(t:Nat):look (forgetH p H) t=(look H t).map (Blk.forget p):=by
 unfold forgetH;exact q3k (Blk.forget p) H t
theorem q47{p:Nat→Bool}{H:List (Nat×Blk)}{t k:Nat}{c:Bool}{rows:List (List D)}(h:look H t=some (.dat c k rows)):look (forgetH p H) t=some (.dat c k rows):=by rw[q1J,h];rfl
end Go.Vm
end

section
namespace Go.Vm
structure Instr where
 op:Int
 a:Int
 b:Int
 deriving DecidableEq,Inhabited
structure Shape where
 name:List UInt8
 fields:Int
 deriving DecidableEq,Inhabited
structure Glob where
 name:List UInt8
 arity:Int
 code:List Instr
 deriving DecidableEq,Inhabited
structure Table where
 shapes:List Shape
 globals:List Glob
 deriving DecidableEq,Inhabited
def eInt(n:Int):List D:=[.int .i64 n]
def q0J(x:Instr):List D:=[.int .i64 x.op,.int .i64 x.a,.int .i64 x.b]
def q0k(s:Shape):List D:=[.str s.name,.int .i64 s.fields]
def q00(g:Glob):List D:=[.str g.name,.int .i64 g.arity,.sl 3 (g.code.map q0J)]
theorem q11(n):eInt n=[.int .i64 n]:=rfl
theorem q1b(x):q0J x=[.int .i64 x.op,.int .i64 x.a,.int .i64 x.b]:=rfl
theorem q1a(s):q0k s=[.str s.name,.int .i64 s.fields]:=rfl
theorem q2W(g):q00 g=[.str g.name,.int .i64 g.arity,.sl 3 (g.code.map q0J)]:=rfl
theorem flat_Int(l:List Int):q0R (l.map eInt)=true:=q7H l eInt fun _=>rfl
theorem j0I(l:List Instr) (a b c):l.map q0J++[[D.int .i64 a,.int .i64 b,.int .i64 c]]=(l++[Instr.mk a b c]).map q0J:=by simp [q0J]
theorem j0H(l:List Int) (i b):(l.map eInt).set i [D.int .i64 b]=(l.set i b).map eInt:=by rw[List.map_set];rfl
theorem j2G(n b):List.replicate n [D.int .i64 b]=(List.replicate n b).map eInt:=by rw[List.map_replicate];rfl
theorem j2H(x:Instr):Instr.mk x.op x.a x.b=x:=rfl
end Go.Vm
end

section
namespace Go.Vm
theorem q44{α:Type} [Inhabited α]{l:List α}{i:Int}(h0:0≤i)(h:i<l.length):nth l i∈l:=by
 rw[←q8K (n:=i) (by omega)];exact List.getElem_mem _
def z0D(b:UInt8):Bool:=decide (32≤(b.toNat:Int))&&decide ((b.toNat:Int)≤126)
def q2s(s:List UInt8):Bool:=s.all z0D&&(decide (1≤(s.length:Int))&&decide ((s.length:Int)≤4096))
def givenS:List Shape:=[⟨[70,97,108,115,101],0⟩,⟨[84,114,117,101],0⟩,⟨[85,110,105,116],0⟩,⟨[78,105,108],0⟩,⟨[67,111,110,115],2⟩,⟨[80,97,105,114],2⟩,⟨[84,114,105,112,108,101],3⟩]
def q4U:List Glob→Int→Option Int
 |[],n=>some n
 |g :: r,n=>if 8000<(g.code.length:Int) then none else q4U r (n+g.code.length)
def q7G(t:Table):Bool:=match q4U t.globals 0 with
 |none=>true
 |some n=>decide (2000<(t.shapes.length:Int))||decide (2000<(t.globals.length:Int))||decide (200000<n)
theorem z8q:∀(l:List Glob)(n m:Int),q4U l n=some m→n≤m∧m≤n+8000*l.length:=by
 intro l
 induction l with
 |nil=>intro n m h;simp only[q4U,Option.some.injEq] at h;subst h;simp
 |cons g l ih=>
  intro n m h
  simp only[q4U] at h
  split at h
  ·cases h
  ·have:=ih _ _ h
   simp only[List.length_cons]
   omega
def q1U(ng ns nc at_ n kind:Int):Int:=
 if kind=8 then(if n≤at_∨nc≤n then 174 else 0) else
 if(if kind=0 then decide (n=0) else if kind=1 then decide (0≤n) else if kind=2 then decide (1≤n)
  else if kind=3 then decide (-4611686018427387904≤n∧n≤4611686018427387903) else if kind=4 then decide (0≤n∧n<ng)
  else if kind=5 then decide (0≤n∧n<ns) else if kind=6 then decide (1≤n∧n≤11) else if kind=7 then decide (1≤n∧n≤4) else true) then 0 else 172
def q2G(Dp:List Int)(at_ d:Int):List Int:=if nth Dp at_=0 then Dp.set at_.toNat d else Dp
def q4i(Dp:List Int)(at_ d:Int):Bool:=if nth Dp at_=0 then true else nth Dp at_==d
theorem z1K{α:Type} [Inhabited α](l:List α)(i:Int)(x:α)(h0:0≤i)(h:i<l.length):nth (l.set i.toNat x) i=x:=by
 unfold nth
 rw[List.getD_eq_getElem?_getD,List.getElem?_set_self (by omega)]
 rfl
def q7n(sh:List Shape)(a:Int):Int:=(nth sh a).fields
def q06(sh:List Shape)(x:Instr)(d:Int):Int×Bool:=
 let r:Int×Bool:=
  if x.op=1 then(d+1,decide (x.a<d)) else if x.op=2∨x.op=3 then(d+1,true)
  else if x.op=4 then(d - x.a,decide (x.a<d)) else if x.op=5 then(d - x.a,decide (x.a<d - 1))
  else if x.op=6∨x.op=12 then(d - 1,decide (2<d)) else if x.op=7 then(d - 1,decide (x.a<d))
  else if x.op=8 then(d+(if 8000<x.a then 8000 else x.a),decide (x.a≤8000))
  else if x.op=9 then(d - q7n sh x.a+1,decide (q7n sh x.a<d)) else if x.op=10 then(d - 1+q7n sh x.a,decide (1<d))
  else if x.op=11∨x.op=14∨x.op=15 then(d,decide (1<d)) else if x.op=17 then(d,decide (d=1)) else(d,true)
 (r.1,r.2&&decide (r.1≤8000))
def z5H:List (List UInt8×Int×Int):=[([],0,0),([112,117,115,104],1,0),([103,108,111,98],4,0),([105,110,116],3,0),([112,111,112],1,0),([115,108,105,100,101],1,0),([97,112,112,108,121],0,0),([117,112,100,97,116,101],2,0),
 ([97,108,108,111,99],1,0),([112,97,99,107],5,0),([115,112,108,105,116],5,0),([101,118,97,108],0,0),([97,114,105,116,104],6,0),([106,117,109,112],8,0),([116,101,115,116,99,111,110],5,8),([116,101,115,116,105,110,116],3,8),([102,97,105,108],7,0),([117,110,119,105,110,100],0,0)]
def q0S(op:Int):List UInt8×Int×Int:=if 1≤op∧op<18 then nth z5H op else([],0,0)
def z49(f:List UInt8×Int×Int)(ok:Bool):V:=.tup [.agg [.d false (.str f.1),.d false (.int .i64 f.2.1),.d false (.int .i64 f.2.2)],.d false (.bool ok)]
def q6i(ng ns nc i:Int)(x:Instr):Int:=
 if 1≤x.op∧x.op<18 then
  let a:=q1U ng ns nc i x.a (q0S x.op).2.1
  let b:=q1U ng ns nc i x.b (q0S x.op).2.2
  if a=172∨b=172 then 172 else if a≠0∨b≠0 then 174 else 0
 else 172
def q5G(ng ns nc:Int)(l:List Instr):Nat→Nat→Int
 |0,_=>0
 |k+1,i=>if q6i ng ns nc i (nth l i)=0 then q5G ng ns nc l k (i+1) else q6i ng ns nc i (nth l i)
theorem z5I(op:Int):(0≤(q0S op).2.1∧(q0S op).2.1≤8)∧(0≤(q0S op).2.2∧(q0S op).2.2≤8):=by
 unfold q0S
 by_cases h:1≤op∧op<18
 ·rw[if_pos h]
  have:op=1∨op=2∨op=3∨op=4∨op=5∨op=6∨op=7∨op=8∨op=9∨op=10∨op=11∨op=12∨op=13∨op=14∨op=15∨op=16∨op=17:=by omega
  clear h
  rcases this with rfl|rfl|rfl|rfl|rfl|rfl|rfl|rfl|rfl|rfl|rfl|rfl|rfl|rfl|rfl|rfl|rfl <;> decide
 ·rw[if_neg h];decide
theorem q8J(ng ns nc at_ n kind:Int):q1U ng ns nc at_ n kind=0∨q1U ng ns nc at_ n kind=172∨q1U ng ns nc at_ n kind=174:=by
 have key:∀ b:Bool,(if b=true then(0:Int) else 172)=0∨(if b=true then(0:Int) else 172)=172∨(if b=true then(0:Int) else 172)=174:=by
  intro b;cases b <;> simp
 unfold q1U
 split
 ·split <;> simp
 ·exact key _
def q59(x:Instr):Int:=if x.op=13 then x.a else if x.op=14∨x.op=15 then x.b else 0
def z4l(x:Instr):Bool:=x.op != 13&&x.op != 16&&x.op != 17
def depL(sh:List Shape)(cd:List Instr):Nat→Nat→List Int→Int
 |0,_,_=>0
 |k+1,i,Dp=>
  let x:=nth cd i
  let d:=nth Dp i
  if d=0 then 174 else
  if(q06 sh x d).2=false then 173 else
  if z4l x=true then
   if(i:Int)+1=cd.length then 174 else
   if q4i Dp (i+1) (q06 sh x d).1=false then 173 else
   if 0<q59 x then
    if q4i (q2G Dp (i+1) (q06 sh x d).1) (q59 x) (q06 sh x d).1=false then 173 else depL sh cd k (i+1) (q2G (q2G Dp (i+1) (q06 sh x d).1) (q59 x) (q06 sh x d).1)
   else depL sh cd k (i+1) (q2G Dp (i+1) (q06 sh x d).1)
  else if 0<q59 x then
    if q4i Dp (q59 x) (q06 sh x d).1=false then 173 else depL sh cd k (i+1) (q2G Dp (q59 x) (q06 sh x d).1)
   else depL sh cd k (i+1) Dp
structure NumOk(ns nc i:Int)(x:Instr):Prop where
 op:1≤x.op∧x.op<18
 cnt:x.op=1∨x.op=4∨x.op=5∨x.op=8→0≤x.a
 upd:x.op=7→1≤x.a
 con:x.op=9∨x.op=10→0≤x.a∧x.a<ns
 jmp:x.op=13→i<x.a∧x.a<nc
 tst:x.op=14∨x.op=15→i<x.b∧x.b<nc
theorem j0h{ng ns nc i:Int}{x:Instr}(h:q6i ng ns nc i x=0):NumOk ns nc i x:=by
 unfold q6i at h
 by_cases g:1≤x.op∧x.op<18
 ·rw[if_pos g] at h
  have key:∀ a b:Int,(if a=172∨b=172 then(172:Int) else if a≠0∨b≠0 then 174 else 0)=0→a=0∧b=0:=by
   intro a b h
   split at h
   ·omega
   ·split at h <;> omega
  obtain⟨ha,hb⟩:=key _ _ h
  clear h
  have:x.op=1∨x.op=2∨x.op=3∨x.op=4∨x.op=5∨x.op=6∨x.op=7∨x.op=8∨x.op=9∨x.op=10∨x.op=11∨x.op=12∨x.op=13∨x.op=14∨x.op=15∨x.op=16∨x.op=17:=by omega
  obtain⟨op,a,b⟩:=x
  simp only at this ha hb g
  rcases this with rfl|rfl|rfl|rfl|rfl|rfl|rfl|rfl|rfl|rfl|rfl|rfl|rfl|rfl|rfl|rfl|rfl <;>
   simp [q0S,z5H,nth,q1U] at ha hb <;> exact⟨by simp,by simp;try omega,by simp;try omega,by simp;try omega,by simp;try omega,by simp;try omega⟩
 ·rw[if_neg g] at h;cases h
def ShOk(sh:List Shape):Prop:=∀ s∈sh,0≤s.fields∧s.fields≤8
theorem z0i{sh:List Shape}{nc i d:Int}{x:Instr}(hs:ShOk sh)(hx:NumOk sh.length nc i x)(hd:1≤d∧d≤8000)(h:(q06 sh x d).2=true):1≤(q06 sh x d).1∧(q06 sh x d).1≤8000:=by
 obtain⟨op,a,b⟩:=x
 have hf:(op=9∨op=10)→0≤q7n sh a:=fun ho=>(hs _ (q44 (hx.con ho).1 (hx.con ho).2)).1
 have h1:=hx.op
 have h2:=hx.cnt
 have h3:=hx.upd
 simp only at h1 h2 h3
 have:op=1∨op=2∨op=3∨op=4∨op=5∨op=6∨op=7∨op=8∨op=9∨op=10∨op=11∨op=12∨op=13∨op=14∨op=15∨op=16∨op=17:=by omega
 unfold q06 at h ⊢
 rcases this with rfl|rfl|rfl|rfl|rfl|rfl|rfl|rfl|rfl|rfl|rfl|rfl|rfl|rfl|rfl|rfl|rfl <;> simp at h h2 h3 hf⊢<;> (try split at h) <;> (try split) <;> omega
theorem q64(Dp:List Int)(at_ d:Int):(q2G Dp at_ d).length=Dp.length:=by
 unfold q2G;split <;> simp
def DpOk(Dp:List Int):Prop:=∀ v∈Dp,0≤v∧v≤8000
theorem q8z{Dp:List Int}{at_ d:Int}(h:DpOk Dp)(hd:0≤d∧d≤8000):DpOk (q2G Dp at_ d):=by
 unfold q2G
 split
 ·intro v hv
  rcases List.mem_or_eq_of_mem_set hv with h1|h1
  ·exact h v h1
  ·subst h1;exact hd
 ·exact h
end Go.Vm
end

section
namespace Go.Vm
/- 'sloth/slothref17.Numbers' -/
/- 'sloth/slothref17.Needs' -/
/- 'sloth/slothref17.Ends' -/
/- 'sloth/slothref17.Behind' -/
/- 'sloth/slothref17.Target' -/
/- 'sloth/slothref17.jumps' -/
theorem opn{op:Int}(g:¬(1≤op∧op<18)):op≠1∧op≠2∧op≠3∧op≠4∧op≠5∧op≠6∧op≠7∧op≠8∧op≠9∧op≠10∧op≠11∧op≠12∧op≠13∧op≠14∧op≠15∧op≠16∧op≠17:=by omega
end Go.Vm
end

section
namespace Go.Vm
set_option maxRecDepth 20000
open Go.Proofs
/- 'sloth/slothref17.put' -/
/- 'sloth/slothref17.quoted' -/
/- 'sloth/slothref17.digits' -/
abbrev Bs:=List UInt8
def eU(c:UInt8):List D:=[.int .u8 c.toNat]
theorem j3c(c):eU c=[.int .u8 c.toNat]:=rfl
theorem q5L(l:Bs):q0R (l.map eU)=true:=q7H l eU fun _=>rfl
theorem q7M:∀ l:Bs,q5l (l.map eU)=some l
 |[]=>rfl
 |c :: l=>by
  simp only[List.map_cons,eU,q5l,q7M l]
  simp
theorem u8k2{a c:UInt8}:((a.toNat:Int)=(c.toNat:Int))↔a=c:=by
 constructor
 ·intro h;exact UInt8.toNat_inj.1 (by omega)
 ·rintro rfl;rfl
end Go.Vm
end

section
namespace Go.Vm
mutual
def D.eqb:D→D→Bool
 |.int k n,.int k' n'=>decide (k=k')&&decide (n=n')
 |.bool b,.bool b'=>b==b'
 |.str s,.str s'=>decide (s=s')
 |.sl k rows,.sl k' rows'=>decide (k=k')&&q9C rows rows'
 |.ptr cs,.ptr cs'=>dRow cs cs'
 |.nilp,.nilp=>true
 |.nilif,.nilif=>true
 |.nilfn,.nilfn=>true
 |.nilm,.nilm=>true
 |.nils k,.nils k'=>decide (k=k')
 |.emps k,.emps k'=>decide (k=k')
 |.iface t cs,.iface t' cs'=>decide (t=t')&&dRow cs cs'
 |_,_=>false
def dRow:List D→List D→Bool
 |[],[]=>true
 |a :: r,b :: s=>a.eqb b&&dRow r s
 |_,_=>false
def q9C:List (List D)→List (List D)→Bool
 |[],[]=>true
 |a :: r,b :: s=>dRow a b&&q9C r s
 |_,_=>false
end
mutual
theorem D.eqb_ok:∀ {x y:D},x.eqb y=true→x=y:=by
 intro x y h
 cases x <;> cases y <;> simp only[D.eqb,Bool.and_eq_true,decide_eq_true_eq,beq_iff_eq,reduceCtorEq,Bool.false_eq_true] at h <;> try rfl
 ·obtain⟨rfl,rfl⟩:=h;rfl
 ·subst h;rfl
 ·subst h;rfl
 ·obtain⟨rfl,h⟩:=h;rw[q77 h]
 ·rw[z0Q h]
 ·obtain⟨rfl,h⟩:=h;rw[z0Q h]
 ·subst h;rfl
 ·subst h;rfl
theorem z0Q:∀ {x y:List D},dRow x y=true→x=y:=by
 intro x y h
 cases x with
 |nil=>cases y with
  |nil=>rfl
  |cons b s=>simp [dRow] at h
 |cons a r=>cases y with
  |nil=>simp [dRow] at h
  |cons b s=>
   simp only[dRow,Bool.and_eq_true] at h
   rw[D.eqb_ok h.1,z0Q h.2]
theorem q77:∀ {x y:List (List D)},q9C x y=true→x=y:=by
 intro x y h
 cases x with
 |nil=>cases y with
  |nil=>rfl
  |cons b s=>simp [q9C] at h
 |cons a r=>cases y with
  |nil=>simp [q9C] at h
  |cons b s=>
   simp only[q9C,Bool.and_eq_true] at h
   rw[z0Q h.1,q77 h.2]
end
def V.eqb1:V→V→Bool
 |.d c x,.d c' x'=>c==c'&&x.eqb x'
 |.fs c k r,.fs c' k' r'=>c==c'&&decide (k=k')&&q9C r r'
 |_,_=>false
def vRow:List V→List V→Bool
 |[],[]=>true
 |a :: r,b :: s=>a.eqb1 b&&vRow r s
 |_,_=>false
def V.eqb:V→V→Bool
 |.agg cs,.agg cs'=>vRow cs cs'
 |v,u=>v.eqb1 u
theorem V.eqb1_ok{v u:V}(h:v.eqb1 u=true):v=u∧v.own1=false:=by
 cases v <;> cases u <;> simp only[V.eqb1,Bool.and_eq_true,decide_eq_true_eq,beq_iff_eq,Bool.false_eq_true] at h
 ·obtain⟨rfl,h⟩:=h;rw[D.eqb_ok h];exact⟨rfl,rfl⟩
 ·obtain⟨⟨rfl,rfl⟩,h⟩:=h;rw[q77 h];exact⟨rfl,rfl⟩
theorem j1S:∀ {x y:List V},vRow x y=true→x=y∧x.any V.own1=false:=by
 intro x
 induction x with
 |nil=>intro y h;cases y with
  |nil=>exact⟨rfl,rfl⟩
  |cons b s=>simp [vRow] at h
 |cons a r ih=>intro y h;cases y with
  |nil=>simp [vRow] at h
  |cons b s=>
   simp only[vRow,Bool.and_eq_true] at h
   obtain⟨h1,h2⟩:=V.eqb1_ok h.1
   obtain⟨h3,h4⟩:=ih h.2
   rw[←h1,←h3]
   exact⟨rfl,by simp [h2,h4]⟩
theorem V.eqb_ok{v u:V}(h:v.eqb u=true):v=u∧v.own=false:=by
 cases v with
 |agg cs=>cases u with
  |agg cs'=>
   simp only[V.eqb] at h
   obtain⟨h1,h2⟩:=j1S h
   exact⟨by rw[h1],h2⟩
  |_=>simp [V.eqb,V.eqb1] at h
 |d c x=>exact V.eqb1_ok (v:=.d c x) (by cases u <;> exact h)
 |fs c k r=>exact V.eqb1_ok (v:=.fs c k r) (by cases u <;> exact h)
 |_=>cases u <;> simp [V.eqb,V.eqb1] at h
def q7S(mv:List Nat):V→V→Bool
 |.ptr b i j,.ptr b' i' j'=>b==b'&&i==i'&&j==j'&&!mv.contains b
 |.bsl b i j,.bsl b' i' j'=>b==b'&&i==i'&&j==j'&&!mv.contains b
 |.map b,.map b'=>b==b'&&!mv.contains b
 |v,u=>v.eqb u
theorem z4h{mv:List Nat}{v u:V}(h:q7S mv v u=true):v=u∧q5U mv v:=by
 have other:v.eqb u=true→v=u∧q5U mv v:=fun h=>by
  obtain⟨h1,h2⟩:=V.eqb_ok h
  refine⟨h1,?_⟩
  cases v with
  |ptr b i j=>simp [V.own,V.own1] at h2
  |bsl b i j=>simp [V.own,V.own1] at h2
  |bsx b i j=>simp [V.own,V.own1] at h2
  |map b=>simp [V.own,V.own1] at h2
  |_=>exact h2
 unfold q7S at h
 split at h
 ·simp only[Bool.and_eq_true,beq_iff_eq,Bool.not_eq_true'] at h
  obtain⟨⟨⟨rfl,rfl⟩,rfl⟩,h⟩:=h
  exact⟨rfl,h⟩
 ·simp only[Bool.and_eq_true,beq_iff_eq,Bool.not_eq_true'] at h
  obtain⟨⟨⟨rfl,rfl⟩,rfl⟩,h⟩:=h
  exact⟨rfl,h⟩
 ·simp only[Bool.and_eq_true,beq_iff_eq,Bool.not_eq_true'] at h
  obtain⟨rfl,h⟩:=h
  exact⟨rfl,h⟩
 ·exact other h
def z1W(X:Cx)(s:S)(mv:List Nat)(H1:List (Nat×Blk))(g:Seg):Bool:=g.late.isEmpty||match q2A X s g.mks with
 |none=>true
 |some (s1,_)=>g.late.all fun e=>match ev X (q3r mv (q36 X s g mv H1) s1) e,ev X s1 e with
  |some v,some u=>q7S mv v u
  |_,_=>false
theorem z4g{X:Cx}{s:S}{mv:List Nat}{H1:List (Nat×Blk)}{g:Seg}(h:z1W X s mv H1 g=true):z1T X s mv H1 g:=by
 intro e he s1 news hm
 unfold z1W at h
 rw[hm] at h
 simp only[Bool.or_eq_true,List.isEmpty_iff,List.all_eq_true] at h
 rcases h with h|h
 ·rw[h] at he;simp at he
 ·have:=h e he
  cases h1:ev X (q3r mv (q36 X s g mv H1) s1) e with
  |none=>rw[h1] at this;simp at this
  |some v=>cases h2:ev X s1 e with
   |none=>rw[h1,h2] at this;simp at this
   |some u=>
    rw[h1,h2] at this
    obtain⟨rfl,h3⟩:=z4h this
    exact⟨v,rfl,rfl,h3⟩
def q7I(X:Cx)(s:S)(g:Seg):Option S:=match q5h X s g with
 |some s'=>if z1W X s (q1V s s') s'.heap g then some s' else none
 |none=>none
theorem q6D{X:Cx}{g:Seg}{s s':S}(h:q7I X s g=some s'):q04 X s g=some s':=by
 unfold q7I at h
 unfold q04
 cases h0:q5h X s g with
 |none=>rw[h0] at h;cases h
 |some s1=>
  rw[h0] at h
  simp only at h ⊢
  by_cases hl:z1W X s (q1V s s1) s1.heap g=true
  ·rw[if_pos hl] at h
   rw[if_pos (z4g hl)]
   exact h
  ·rw[if_neg hl] at h;cases h
def q86(X:Cx)(s:S):List Seg→Option S
 |[]=>some s
 |g :: r=>match q7I X s g with
  |some s'=>q86 X s' r
  |none=>none
theorem z5O{X:Cx}:∀ {l:List Seg}{s s':S},q86 X s l=some s'→q3t X s l=some s':=by
 intro l
 induction l with
 |nil=>intro s s' h;exact h
 |cons g l ih=>
  intro s s' h
  simp only[q86] at h
  simp only[q3t]
  cases h0:q7I X s g with
  |none=>rw[h0] at h;cases h
  |some s1=>rw[h0] at h;rw[q6D h0];exact ih h
def z0K(C:Cx)(s:S)(p:Pre)(g:Seg):Option S:=match p.sg with
 |none=>q7I C s g
 |some (t,b)=>match look s.rho t with
  |some (.d _ (.bool x))=>if x=b then q7I C s g else some (z1p s (q1l g))
  |_=>none
theorem z5P{X:Cx}{p:Pre}{g:Seg}{s s':S}(h:z0K X s p g=some s'):q87 X s p g=some s':=by
 unfold z0K at h
 unfold q87
 split at h
 ·rename_i e;rw[e];exact q6D h
 ·rename_i t b e
  rw[e]
  simp only
  split at h
  ·rename_i c x hl
   rw[hl]
   simp only
   split at h
   ·rename_i hx;rw[if_pos hx];exact q6D h
   ·rename_i hx;rw[if_neg hx];exact h
  ·cases h
def q6C(m:Nat)(C:Cx)(s:S):List (Pre×Seg)→Option S
 |[]=>some s
 |(p,g) :: r=>match z0K C (frzL m p.fz s) p g with
  |some s'=>q6C m C s' r
  |none=>none
theorem z3s{X:Cx}{m:Nat}:∀ {l:List (Pre×Seg)}{s s':S},q6C m X s l=some s'→q34 m X s l=some s':=by
 intro l
 induction l with
 |nil=>intro s s' h;exact h
 |cons q l ih=>
  intro s s' h
  obtain⟨p,g⟩:=q
  simp only[q6C] at h
  simp only[q34]
  cases h0:z0K X (frzL m p.fz s) p g with
  |none=>rw[h0] at h;cases h
  |some s1=>rw[h0] at h;rw[z5P h0];exact ih h
def q5O(X:Cx)(s s2:S)(g:Seg):Bool:=g.late.isEmpty||match q2A X s g.mks with
 |some (s1,_)=>g.late.all fun e=>match ev X s2 e,ev X s1 e with
  |some v,some u=>q7S [] v u
  |_,_=>false
 |none=>true
theorem z0k{X:Cx}{s s2:S}{g:Seg}(h:q5O X s s2 g=true):z7e X s s2 g:=by
 intro e he s1 news hm
 unfold q5O at h
 rw[hm] at h
 simp only[Bool.or_eq_true,List.isEmpty_iff,List.all_eq_true] at h
 rcases h with h|h
 ·rw[h] at he;simp at he
 ·have:=h e he
  cases h1:ev X s2 e with
  |none=>simp [h1] at this
  |some v=>
   cases h2:ev X s1 e with
   |none=>simp [h1,h2] at this
   |some u=>
    rw[h1,h2] at this
    rw[(z4h this).1]
def q4L(C:Cx)(s:S):List Seg→Option S
 |[]=>some s
 |g :: r=>match q7I C s g with
  |some s'=>if r.isEmpty||q5O C s s' g then q4L C s' r else none
  |none=>none
theorem q85{X:Cx}:∀ {l:List Seg}{s s':S},q4L X s l=some s'→q09 X s l=some s':=by
 intro l
 induction l with
 |nil=>intro s s' h;exact h
 |cons g l ih=>
  intro s s' h
  simp only[q4L] at h
  simp only[q09]
  cases h0:q7I X s g with
  |none=>rw[h0] at h;cases h
  |some s1=>
   rw[h0] at h
   rw[q6D h0]
   simp only at h ⊢
   split at h
   ·rename_i hc
    rw[if_pos ?_]
    ·exact ih h
    ·simp only[Bool.or_eq_true,List.isEmpty_iff] at hc
     exact hc.imp id z0k
   ·cases h
def execC(N:Nat)(X:Cx):C→S→Option (Ex×S)
 |.skip,s=>some (.nrm,s)
 |.regg m l,s=>match q6C m X s l with
  |some s'=>some (.nrm,s')
  |none=>none
 |.regl l,s=>match q4L X s l with
  |some s'=>some (.nrm,s')
  |none=>none
 |.regp _ l,s=>match q4L X s l with
  |some s'=>some (.nrm,s')
  |none=>none
 |.ownc t j k,s=>some (.nrm,q5P t j k s)
 |.reg l,s=>match q86 X s l with
  |some s'=>some (.nrm,s')
  |none=>none
 |.seq a b,s=>match execC N X a s with
  |some (.nrm,s')=>execC N X b s'
  |r=>r
 |.cond e a b,s=>match ev X s e with
  |some (.d _ (.bool x))=>if x then execC N X a s else execC N X b s
  |_=>none
 |.block id c,s=>match execC N X c s with
  |some (.exit i,s')=>if i=id then some (.nrm,s') else some (.exit i,s')
  |r=>r
 |.loop c,s=>iter (execC N X c) N s
 |.exit id,s=>some (.exit id,s)
 |.scope c ls,s=>q37 (fun l=>labelled N X ls l) N (execC N X c s)
 |.lnil,_=>none
 |.lcons _ _ _,_=>none
 |.label _,s=>some (.nrm,s)
 |.goto l,s=>some (.goto l,s)
 |.ret,s=>some (.ret,s)
 |.tidy m slots,s=>match q7P m slots s with
  |some s'=>some (.nrm,s')
  |none=>none
 |.own t k,s=>match look s.rho t with
  |some (.fs _ k' [])=>if k'=k then some (.nrm,⟨put s.rho t (.bsl s.nx 0 0),(s.nx,.dat true k []) :: s.heap,s.nx+1,s.mv⟩) else some (.nrm,s)
  |_=>some (.nrm,s)
 |.frz m t j,s=>some (.nrm,frzS m t j s)
 |.keep sl,s=>some (.nrm,skipM s sl)
 |.stuck,_=>none
 where
 labelled (N:Nat) (X:Cx):C→Nat→Option (S→Option (Ex×S))
  |.lcons l c ls,l'=>if l=l' then some (execC N X c) else labelled N X ls l'
  |_,_=>none
theorem j2y{f g:S→Option (Ex×S)}(h:∀ s r,f s=some r→g s=some r):∀(n:Nat)(s:S)(r:Ex×S),iter f n s=some r→iter g n s=some r:=by
 intro n
 induction n with
 |zero=>intro s r h;cases h
 |succ n ih=>
  intro s r hr
  simp only[iter] at hr ⊢
  cases hf:f s with
  |none=>rw[hf] at hr;cases hr
  |some q=>
   rw[h s q hf]
   rw[hf] at hr
   obtain⟨e,s'⟩:=q
   cases e with
   |nrm=>exact ih s' r hr
   |_=>exact hr
theorem j0z{f g:Nat→Option (S→Option (Ex×S))}(h:∀ l k,f l=some k→∃ k',g l=some k'∧∀ s r,k s=some r→k' s=some r):∀(n:Nat)(q q':Option (Ex×S))(r:Ex×S),(∀ x,q=some x→q'=some x)→q37 f n q=some r→q37 g n q'=some r:=by
 intro n
 induction n with
 |zero=>intro q q' r _ h;cases h
 |succ n ih=>
  intro q q' r hq hr
  cases q with
  |none=>simp [q37] at hr
  |some x=>
   rw[hq x rfl]
   obtain⟨e,s⟩:=x
   cases e with
   |goto l=>
    simp only[q37] at hr ⊢
    cases hl:f l with
    |none=>rw[hl] at hr;cases hr
    |some k=>
     obtain⟨k',h1,h2⟩:=h l k hl
     rw[hl] at hr
     rw[h1]
     exact ih _ _ r (fun x hx=>h2 s x hx) hr
   |_=>exact hr
theorem q76(N:Nat)(X:Cx):∀ c:C,(∀ s r,execC N X c s=some r→exec X c s=some r)∧∀ l k,execC.labelled N X c l=some k→∃ k',exec.labelled X c l=some k'∧∀ s r,k s=some r→k' s=some r:=by
 intro c
 induction c with
 |skip=>exact⟨fun s r h=>h,fun l k h=>by simp [execC.labelled] at h⟩
 |reg l=>
  refine⟨fun s r h=>?_,fun l k h=>by simp [execC.labelled] at h⟩
  simp only[execC] at h
  simp only[exec]
  cases hs:q86 X s l with
  |none=>rw[hs] at h;cases h
  |some s'=>rw[hs] at h;rw[z5O hs];exact h
 |seq a b iha ihb=>
  refine⟨fun s r h=>?_,fun l k h=>by simp [execC.labelled] at h⟩
  simp only[execC] at h
  simp only[exec]
  cases hs:execC N X a s with
  |none=>rw[hs] at h;cases h
  |some q=>
   rw[hs] at h
   rw[iha.1 s q hs]
   obtain⟨e,s'⟩:=q
   cases e with
   |nrm=>exact ihb.1 s' r h
   |_=>exact h
 |cond e a b iha ihb=>
  refine⟨fun s r h=>?_,fun l k h=>by simp [execC.labelled] at h⟩
  simp only[execC] at h
  simp only[exec]
  split at h
  ·rename_i x hx
   rw[hx]
   simp only
   cases x with
   |true=>exact iha.1 s r h
   |false=>exact ihb.1 s r h
  ·cases h
 |block id c ih=>
  refine⟨fun s r h=>?_,fun l k h=>by simp [execC.labelled] at h⟩
  simp only[execC] at h
  simp only[exec]
  cases hs:execC N X c s with
  |none=>rw[hs] at h;cases h
  |some q=>
   rw[hs] at h
   rw[ih.1 s q hs]
   exact h
 |loop c ih=>
  refine⟨fun s r h=>?_,fun l k h=>by simp [execC.labelled] at h⟩
  simp only[execC] at h
  simp only[exec]
  exact q4J (j2y ih.1 N s r h)
 |exit id=>exact⟨fun s r h=>h,fun l k h=>by simp [execC.labelled] at h⟩
 |scope c ls ihc ihl=>
  refine⟨fun s r h=>?_,fun l k h=>by simp [execC.labelled] at h⟩
  simp only[execC] at h
  simp only[exec]
  exact z7d (j0z ihl.2 N _ _ r (fun x hx=>ihc.1 s x hx) h)
 |lnil=>exact⟨fun s r h=>by simp [execC] at h,fun l k h=>by simp [execC.labelled] at h⟩
 |lcons l c ls ihc ihl=>
  refine⟨fun s r h=>by simp [execC] at h,fun l' k h=>?_⟩
  simp only[execC.labelled] at h
  simp only[exec.labelled]
  by_cases e:l=l'
  ·rw[if_pos e] at h ⊢
   obtain rfl:=Option.some.inj h
   exact⟨_,rfl,ihc.1⟩
  ·rw[if_neg e] at h ⊢
   exact ihl.2 l' k h
 |label l=>exact⟨fun s r h=>h,fun l k h=>by simp [execC.labelled] at h⟩
 |goto l=>exact⟨fun s r h=>h,fun l k h=>by simp [execC.labelled] at h⟩
 |ret=>exact⟨fun s r h=>h,fun l k h=>by simp [execC.labelled] at h⟩
 |tidy m slots=>exact⟨fun s r h=>h,fun l k h=>by simp [execC.labelled] at h⟩
 |own t k=>exact⟨fun s r h=>h,fun l k h=>by simp [execC.labelled] at h⟩
 |stuck=>exact⟨fun s r h=>by simp [execC] at h,fun l k h=>by simp [execC.labelled] at h⟩
 |keep sl=>exact⟨fun s r h=>h,fun l k h=>by simp [execC.labelled] at h⟩
 |frz m t j=>exact⟨fun s r h=>h,fun l k h=>by simp [execC.labelled] at h⟩
 |ownc t j k=>exact⟨fun s r h=>h,fun l k h=>by simp [execC.labelled] at h⟩
 |regl l=>
  refine⟨fun s r h=>?_,fun l k h=>by simp [execC.labelled] at h⟩
  simp only[execC] at h
  simp only[exec]
  cases h0:q4L X s l with
  |none=>rw[h0] at h;cases h
  |some s1=>rw[h0] at h;rw[q85 h0];exact h
 |regp π l=>
  refine⟨fun s r h=>?_,fun l k h=>by simp [execC.labelled] at h⟩
  simp only[execC] at h
  simp only[exec]
  cases h0:q4L X s l with
  |none=>rw[h0] at h;cases h
  |some s1=>rw[h0] at h;rw[q85 h0];exact h
 |regg m l=>
  refine⟨fun s r h=>?_,fun l k h=>by simp [execC.labelled] at h⟩
  simp only[execC] at h
  simp only[exec]
  cases h0:q6C m X s l with
  |none=>rw[h0] at h;cases h
  |some s1=>rw[h0] at h;rw[z3s h0];exact h
def q63(N:Nat)(K:Cx)(g:Fun)(args:List V)(blks:List Blk):Option (V×List Blk×List Nat):=
 match execC N K g.body (startS args blks) with
 |some (.nrm,s)=>match mapO (ev K s) g.res with
  |some vs=>finish blks.length g.own s (q0d vs)
  |none=>none
 |some (.ret,s)=>match mapO (ev K s) g.res with
  |some vs=>finish blks.length g.own s (q0d vs)
  |none=>none
 |_=>none
theorem q5v{N:Nat}{K:Cx}{g:Fun}{args:List V}{blks:List Blk}{r:V×List Blk×List Nat}(h:q63 N K g args blks=some r):q0U K g args blks=some r:=by
 unfold q63 at h
 unfold q0U
 cases hs:execC N K g.body (startS args blks) with
 |none=>rw[hs] at h;cases h
 |some q=>
  rw[hs] at h
  rw[(q76 N K g.body).1 _ _ hs]
  exact h
structure Row where
 f:FuncId
 m:Nat
 n:Nat
 g:Fun
variable {P:Program}
end Go.Vm
end

section
namespace Go.Vm
structure Sp where
 α:Type
 f:FuncId
 ok:α→Prop
 args:α→List V
 res:α→V×List Blk
 inj:∀ a b,ok a→ok b→args a=args b→res a=res b
structure Se where
 α:Type
 f:FuncId
 ok:α→Prop
 args:α→List V
 blks:α→List Blk
 res:α→V×List Blk×List Nat
 inj:∀ a b,ok a→ok b→args a=args b→blks a=blks b→res a=res b
open Classical in
noncomputable def q9n:List Sp→FuncId→List V→Option (V×List Blk)
 |[],_,_=>none
 |s :: L,f,vs=>if s.f=f then(if h:∃ a,s.ok a∧s.args a=vs then some (s.res h.choose) else none) else q9n L f vs
open Classical in
noncomputable def q9A:List Se→FuncId→List V→List Blk→Option (V×List Blk×List Nat)
 |[],_,_,_=>none
 |s :: L,f,vs,bs=>if s.f=f then(if h:∃ a,s.ok a∧s.args a=vs∧s.blks a=bs then some (s.res h.choose) else none) else q9A L f vs bs
structure Sq where
 α:Type
 f:FuncId
 ok:α→Prop
 args:α→List V
 blks:α→List Blk
 val:α→V
 inj:∀ a b,ok a→ok b→args a=args b→blks a=blks b→val a=val b
open Classical in
noncomputable def z29:List Sq→FuncId→List V→List Blk→Option V
 |[],_,_,_=>none
 |s :: L,f,vs,bs=>if s.f=f then(if h:∃ a,s.ok a∧s.args a=vs∧s.blks a=bs then some (s.val h.choose) else none) else z29 L f vs bs
noncomputable def cx(G:Nat→Option (List D))(L:List Sp)(E:List Se)(Q:List Sq:=[]):Cx:=⟨q9n L,q9A E,G,fun _=>false,[],z29 Q⟩
def Has(L:List Sp)(s:Sp):Prop:=∀ a,s.ok a→q9n L s.f (s.args a)=some (s.res a)
def HasE(L:List Se)(s:Se):Prop:=∀ a,s.ok a→q9A L s.f (s.args a) (s.blks a)=some (s.res a)
theorem q1j(s:Sp)(L:List Sp):Has (s :: L) s:=by
 intro a ha
 have h:∃ b,s.ok b∧s.args b=s.args a:=⟨a,ha,rfl⟩
 simp only[q9n,if_true]
 rw[dif_pos h]
 exact congrArg some (s.inj _ _ h.choose_spec.1 ha h.choose_spec.2)
theorem q1r{s t:Sp}{L:List Sp}(h:Has L s)(hne:t.f≠s.f):Has (t :: L) s:=by
 intro a ha
 simp only[q9n]
 rw[if_neg hne]
 exact h a ha
theorem q31(s:Se)(L:List Se):HasE (s :: L) s:=by
 intro a ha
 have h:∃ b,s.ok b∧s.args b=s.args a∧s.blks b=s.blks a:=⟨a,ha,rfl,rfl⟩
 simp only[q9A,if_true]
 rw[dif_pos h]
 exact congrArg some (s.inj _ _ h.choose_spec.1 ha h.choose_spec.2.1 h.choose_spec.2.2)
variable {P:Program}{G:Nat→Option (List D)}
def Sp.Holds(P:Program)(G:Nat→Option (List D))(s:Sp):Prop:=∀ a,s.ok a→q0p P s.f=true∧q2o P G s.f (s.args a) (s.res a).1 (s.res a).2
def Se.Holds(P:Program)(G:Nat→Option (List D))(s:Se):Prop:=∀ a,s.ok a→q0p P s.f=true∧q56 P G s.f (s.args a) (s.blks a) (s.res a).1 (s.res a).2.1 (s.res a).2.2
def Sq.Holds(P:Program)(G:Nat→Option (List D))(s:Sq):Prop:=∀ a,s.ok a→q0p P s.f=true∧z3G P G s.f (s.args a) (s.blks a) (s.val a)
theorem q9m:∀(L:List Sp)(f:FuncId)(vs:List V)(p:V×List Blk),q9n L f vs=some p→∃ s∈L,s.f=f∧∃ a,s.ok a∧s.args a=vs∧s.res a=p
 |[],f,vs,p,h=>by cases h
 |s :: L,f,vs,p,h=>by
  simp only[q9n] at h
  split at h
  ·rename_i hf
   split at h
   ·rename_i hx
    obtain⟨h1,h2⟩:=hx.choose_spec
    exact⟨s,by simp,hf,_,h1,h2,Option.some.inj h⟩
   ·cases h
  ·obtain⟨t,ht,r⟩:=q9m L f vs p h
   exact⟨t,List.mem_cons_of_mem _ ht,r⟩
theorem z0c:∀(L:List Se)(f:FuncId)(vs:List V)(bs:List Blk)(p:V×List Blk×List Nat),q9A L f vs bs=some p→∃ s∈L,s.f=f∧∃ a,s.ok a∧s.args a=vs∧s.blks a=bs∧s.res a=p
 |[],f,vs,bs,p,h=>by cases h
 |s :: L,f,vs,bs,p,h=>by
  simp only[q9A] at h
  split at h
  ·rename_i hf
   split at h
   ·rename_i hx
    obtain⟨h1,h2,h3⟩:=hx.choose_spec
    exact⟨s,by simp,hf,_,h1,h2,h3,Option.some.inj h⟩
   ·cases h
  ·obtain⟨t,ht,r⟩:=z0c L f vs bs p h
   exact⟨t,List.mem_cons_of_mem _ ht,r⟩
theorem q9T:∀(L:List Sq)(f:FuncId)(vs:List V)(bs:List Blk)(p:V),z29 L f vs bs=some p→∃ s∈L,s.f=f∧∃ a,s.ok a∧s.args a=vs∧s.blks a=bs∧s.val a=p
 |[],f,vs,bs,p,h=>by cases h
 |s :: L,f,vs,bs,p,h=>by
  simp only[z29] at h
  split at h
  ·rename_i hf
   split at h
   ·rename_i hx
    obtain⟨h1,h2,h3⟩:=hx.choose_spec
    exact⟨s,by simp,hf,_,h1,h2,h3,Option.some.inj h⟩
   ·cases h
  ·obtain⟨t,ht,r⟩:=q9T L f vs bs p h
   exact⟨t,List.mem_cons_of_mem _ ht,r⟩
theorem j04{L:List Sp}{E:List Se}{Q:List Sq}(h1:∀ s∈L,s.Holds P G)(h2:∀ s∈E,s.Holds P G)(h3:∀ s∈Q,s.Holds P G):(cx G L E Q).Sound P:=by
 refine⟨fun f args r news h=>?_,fun f args r news hl _=>absurd hl (by simp [cx]),fun f args blks r blks' mv h=>?_,fun f args blks v h=>?_⟩
 ·obtain⟨s,hs,rfl,a,ha,rfl,hr⟩:=q9m L f args (r,news) h
  have:=h1 s hs a ha
  rw[hr] at this
  exact this
 ·obtain⟨s,hs,rfl,a,ha,rfl,rfl,hr⟩:=z0c E f args blks (r,blks',mv) h
  have:=h2 s hs a ha
  rw[hr] at this
  exact this
 ·obtain⟨s,hs,rfl,a,ha,rfl,rfl,hr⟩:=q9T Q f args blks v h
  have:=h3 s hs a ha
  rw[hr] at this
  exact this
theorem j0B{L:List Sp}{E:List Se}{Q:List Sq}(hm:P.follows .mixedOrders=true)(hK:(cx G L E Q).Sound P){s:Sp}{g:Fun}(hok:∀ a,s.ok a→q1s P s.f 0 (s.args a).length g=true)
  (hev:∀ a,s.ok a→∃ mv,q0U (cx G L E Q) g (s.args a) []=some ((s.res a).1,(s.res a).2,mv)):s.Holds P G:=by
 intro a ha
 obtain⟨mv,h⟩:=hev a ha
 exact q4q hm hK (hok a ha) h
theorem z8l{L:List Sp}{E:List Se}{Q:List Sq}(hm:P.follows .mixedOrders=true)(hK:(cx G L E Q).Sound P){s:Se}{g:Fun}(hok:∀ a,s.ok a→q1s P s.f (s.blks a).length (s.args a).length g=true)
  (hev:∀ a,s.ok a→q0U (cx G L E Q) g (s.args a) (s.blks a)=some (s.res a)):s.Holds P G:=by
 intro a ha
 exact z2o hm hK (hok a ha) (hev a ha)
structure Known(P:Program)(G:Nat→Option (List D))(L:List Sp)(E:List Se)(Q:List Sq:=[]):Prop where
 one:∀ s∈L,s.Holds P G
 eff:∀ s∈E,s.Holds P G
 pan:∀ s∈Q,s.Holds P G
theorem Known.sound{L:List Sp}{E:List Se}{Q:List Sq}(h:Known P G L E Q):(cx G L E Q).Sound P:=j04 h.one h.eff h.pan
theorem Known.nil:Known P G [] []:=⟨fun s h=>by simp at h,fun s h=>by simp at h,fun s h=>by simp at h⟩
theorem Known.add{L:List Sp}{E:List Se}{Q:List Sq}(h:Known P G L E Q)(hm:P.follows .mixedOrders=true){s:Sp}{g:Fun}(hok:∀ a,s.ok a→q1s P s.f 0 (s.args a).length g=true)
  (hev:∀ a,s.ok a→∃ mv,q0U (cx G L E Q) g (s.args a) []=some ((s.res a).1,(s.res a).2,mv)):Known P G (s :: L) E Q:=by
 refine⟨fun t ht=>?_,h.eff,h.pan⟩
 rcases List.mem_cons.1 ht with rfl|ht
 ·exact j0B hm h.sound hok hev
 ·exact h.one t ht
theorem Known.addE{L:List Sp}{E:List Se}{Q:List Sq}(h:Known P G L E Q)(hm:P.follows .mixedOrders=true){s:Se}{g:Fun}(hok:∀ a,s.ok a→q1s P s.f (s.blks a).length (s.args a).length g=true)
  (hev:∀ a,s.ok a→q0U (cx G L E Q) g (s.args a) (s.blks a)=some (s.res a)):Known P G L (s :: E) Q:=by
 refine⟨h.one,fun t ht=>?_,h.pan⟩
 rcases List.mem_cons.1 ht with rfl|ht
 ·exact z8l hm h.sound hok hev
 ·exact h.eff t ht
theorem Known.put{L:List Sp}{E:List Se}{Q:List Sq}(h:Known P G L E Q){s:Sp}(hs:s.Holds P G):Known P G (s :: L) E Q:=by
 refine⟨fun t ht=>?_,h.eff,h.pan⟩
 rcases List.mem_cons.1 ht with rfl|ht
 ·exact hs
 ·exact h.one t ht
theorem Known.putQ{L:List Sp}{E:List Se}{Q:List Sq}(h:Known P G L E Q){s:Sq}(hs:s.Holds P G):Known P G L E (s :: Q):=by
 refine⟨h.one,h.eff,fun t ht=>?_⟩
 rcases List.mem_cons.1 ht with rfl|ht
 ·exact hs
 ·exact h.pan t ht
def HasQ(L:List Sq)(s:Sq):Prop:=∀ a,s.ok a→z29 L s.f (s.args a) (s.blks a)=some (s.val a)
theorem q2k(s:Sq)(L:List Sq):HasQ (s :: L) s:=by
 intro a ha
 have h:∃ b,s.ok b∧s.args b=s.args a∧s.blks b=s.blks a:=⟨a,ha,rfl,rfl⟩
 simp only[z29,if_true]
 rw[dif_pos h]
 exact congrArg some (s.inj _ _ h.choose_spec.1 ha h.choose_spec.2.1 h.choose_spec.2.2)
theorem q1X{s t:Sq}{L:List Sq}(h:HasQ L s)(hne:t.f≠s.f):HasQ (t :: L) s:=by
 intro a ha
 simp only[z29]
 rw[if_neg hne]
 exact h a ha
theorem q5b{s t:Se}{L:List Se}(h:HasE L s)(hne:t.f≠s.f):HasE (t :: L) s:=by
 intro a ha
 simp only[q9A]
 rw[if_neg hne]
 exact h a ha
end Go.Vm
end

section
namespace Go.Vm
open Go.RowKit
section
variable {P:Program}{w:World}
def Same(w:World)(v v':Value):Prop:=v'.ownBlock=v.ownBlock∨∃ g,v'.ownBlock=some g∧w.heap.size≤g
theorem z3E(t ty e:TypeId)(i:TypeInfo)(ht:P.underlying t=some (.slice e))(hi:P.info? e=some i)(hz:i.zero=some (.int .u8 0))(hsize:i.size=1)(hby:i.bytes=1)
  (v:Value) (n:Nat) (xs:List Value) (hown:w.ownsRowF 0 e 1 v n xs)
  (a:Addr) (m c:Nat) (news:List Value) (hl:news.length=m) (hnews:∀ j u,news[j]? = some u→w.cell? (a.add j)=some u) (h1:∀ u∈news,u.oneCell'=true) (h63:n+m≤maxLen) (hbytes:n+m≤140737488355328) :
  ∃ v' w',(Builtin.append_ #[t,t] ty #[v,.slice (some a) m c]).run P w=.ok v' w'∧w'.ownsRowF 0 e 1 v' (n+m) (xs++news)∧w.grownBy w' v.ownBlock∧(v'=.slice none 0 0↔v=.slice none 0 0∧m=0)∧Same w v v':=by
 obtain⟨v',w',r1,r2,r3,r4⟩:=run_append_ownF (P:=P) w 0 t ty e i (.int .u8 0) 1 1 ht hi hz hsize hby rfl (by decide) v n xs hown a m c news (by omega) hnews h1 h63 (by omega) (Nat.zero_le _)
 refine⟨v',w',r1,r2,r3,r4,?_⟩
 rcases hown.2 with⟨rfl,rfl⟩|⟨g,cap,cur,fz,rfl,hbg,hg,hfz,hnc,hcm,hcs,htake⟩
 ·obtain⟨v2,w2,q1,q2,q3,q4⟩:=run_append_ownF (P:=P) w w.heap.size t ty e i (.int .u8 0) 1 1 ht hi hz hsize hby rfl (by decide) (.slice none 0 0) 0 xs ⟨hown.1,.inl ⟨rfl,rfl⟩⟩ a m c news (by omega) hnews h1 h63 (by omega) (Nat.le_refl _)
  rw[r1] at q1
  obtain⟨rfl,rfl⟩:v'=v2∧w'=w2:=by injection q1 with e1 e2;exact⟨e1,e2⟩
  cases ho:v'.ownBlock with
  |none=>exact .inl (by rw[ho];rfl)
  |some g=>exact .inr ⟨g,ho,(q2.lt g ho).1⟩
 ·by_cases hroom:n+m≤cap
  ·have hr:=run_append_roomF (P:=P) w t ty e i ht hi g n cap cur fz hg (by rw[hsize];exact hfz) a m c news (by rw[hsize];omega) hnews h1 hroom (by rw[hsize];omega)
   rw[r1] at hr
   obtain⟨rfl,_⟩:v'=.slice (some ⟨g,0,none⟩) (n+m) cap∧True:=by injection hr with e1 e2;exact⟨e1,trivial⟩
   exact .inl rfl
  ·have holds:∀ j u,xs[j]? = some u→w.cell? ((⟨g,0,none⟩:Addr).add j)=some u:=hown.cells (g:=g) rfl
   have hsmall:n+m≤9223372036854775807:=by simp only[maxLen] at h63;omega
   have hr:=run_append_grow (P:=P) w t ty e i (.int .u8 0) ht hi hz ⟨g,0,none⟩ n cap xs (by rw[hsize];exact hown.1) holds a m c news (by rw[hsize];omega) hnews (by omega) (by omega) (growslice_fits (by omega) (by rw[hby];omega))
   rw[r1] at hr
   obtain⟨rfl,_⟩:v'=.slice (some ⟨w.heap.size,0,none⟩) (n+m) (grownCap w (n+m) cap e)∧True:=by injection hr with e1 e2;exact⟨e1,trivial⟩
   exact .inr ⟨w.heap.size,rfl,Nat.le_refl _⟩
theorem q9s(t u ty e:TypeId)(i:TypeInfo)(ht:P.underlying t=some (.slice e))(hu:P.underlying u=some .string)(hi:P.info? e=some i)(hz:i.zero=some (.int .u8 0))(hsize:i.size=1)(hby:i.bytes=1)
  (v:Value) (n:Nat) (xs:List Value) (hown:w.ownsRowF 0 e 1 v n xs) (s:ByteArray) (h63:n+s.size≤maxLen) (hbytes:n+s.size≤140737488355328) :
  ∃ v' w',(Builtin.append_ #[t,u] ty #[v,.string s]).run P w=.ok v' w'∧w'.ownsRowF 0 e 1 v' (n+s.size) (xs++Lib.strCells s)∧w.grownBy w' v.ownBlock∧(v'=.slice none 0 0↔v=.slice none 0 0∧s.size=0)∧Same w v v':=by
 obtain⟨v',w',r1,r2,r3,r4⟩:=Lib.run_append_own_stringF (P:=P) w 0 t u ty e i ht hu hi hz hsize hby v n xs hown s h63 hbytes (Nat.zero_le _)
 refine⟨v',w',r1,r2,r3,r4,?_⟩
 rcases hown.2 with⟨rfl,rfl⟩|⟨g,cap,cur,fz,rfl,hbg,hg,hfz,hnc,hcm,hcs,htake⟩
 ·obtain⟨v2,w2,q1,q2,q3,q4⟩:=Lib.run_append_own_stringF (P:=P) w w.heap.size t u ty e i ht hu hi hz hsize hby (.slice none 0 0) 0 xs ⟨hown.1,.inl ⟨rfl,rfl⟩⟩ s h63 hbytes (Nat.le_refl _)
  rw[r1] at q1
  obtain⟨rfl,rfl⟩:v'=v2∧w'=w2:=by injection q1 with e1 e2;exact⟨e1,e2⟩
  cases ho:v'.ownBlock with
  |none=>exact .inl (by rw[ho];rfl)
  |some g=>exact .inr ⟨g,ho,(q2.lt g ho).1⟩
 ·by_cases hroom:n+s.size≤cap
  ·have hr:=Lib.run_append_room_stringF (P:=P) w t u ty e i ht hu hi hsize g n cap cur fz hg (by omega) s hroom (by omega)
   rw[r1] at hr
   obtain⟨rfl,_⟩:v'=.slice (some ⟨g,0,none⟩) (n+s.size) cap∧True:=by injection hr with e1 e2;exact⟨e1,trivial⟩
   exact .inl rfl
  ·have holds:∀ j u,xs[j]? = some u→w.cell? ((⟨g,0,none⟩:Addr).add j)=some u:=hown.cells (g:=g) rfl
   have hsmall:n+s.size≤9223372036854775807:=by simp only[maxLen] at h63;omega
   have hr:=Lib.run_append_grow_string (P:=P) w t u ty e i (.int .u8 0) ht hu hi hz ⟨g,0,none⟩ n cap xs (by rw[hsize];exact hown.1) holds s (by omega) (by omega) (growslice_fits (by omega) (by rw[hby];omega))
   rw[r1] at hr
   obtain⟨rfl,_⟩:v'=.slice (some ⟨w.heap.size,0,none⟩) (n+s.size) (grownCap w (n+s.size) cap e)∧True:=by injection hr with e1 e2;exact⟨e1,trivial⟩
   exact .inr ⟨w.heap.size,rfl,Nat.le_refl _⟩
theorem q9u{ops:Array Oper}{rest:List Oper}{o:Oper}{a:Act}{Q:Exit→Act→World→Prop}(hgd:o.guard=none)(s x:Operand)(t:TypeId)
  (ho:o.op=.call { callee:=.builtin .append,args:=#[s,x],argTypes:=#[t,t] })
  (e:TypeId) (i:TypeInfo) (ht:P.underlying t=some (.slice e)) (hi:P.info? e=some i) (hz:i.zero=some (.int .u8 0)) (hsize:i.size=1) (hby:i.bytes=1)
  (v:Value) (n:Nat) (xs:List Value) (hs:a.eval s=v) (hown:w.ownsRowF 0 e 1 v n xs)
  (ad:Addr) (m c:Nat) (news:List Value) (hx:a.eval x=.slice (some ad) m c) (hl:news.length=m) (hnews:∀ j u,news[j]? = some u→w.cell? (ad.add j)=some u) (h1:∀ u∈news,u.oneCell'=true) (h63:n+m≤maxLen) (hbytes:n+m≤140737488355328)
  (h:∀ v' w',w'.ownsRowF 0 e 1 v' (n+m) (xs++news)→w.grownBy w' v.ownBlock→(v'=.slice none 0 0↔v=.slice none 0 0∧m=0)→Same w v v'→wpList P ops Q rest (a.put o.dst v') w'):wpList P ops Q (o :: rest) a w:=by
 refine wpList_plain hgd fun K hK=>?_
 obtain⟨v',w',hr,h2,h3,h4,h5⟩:=z3E (P:=P) (w:=w) t o.type e i ht hi hz hsize hby v n xs hown ad m c news hl hnews h1 h63 hbytes
 unfold Oper.wp execOp
 simp only[ho,resolve,invoke,builtin,Sem.run_bind,Sem.run_pure,Result.andThen_ok,List.map_toArray,List.map_cons,List.map_nil,hs,hx,hr]
 exact hK _ _ (h v' w' h2 h3 h4 h5)
theorem q58{ops:Array Oper}{rest:List Oper}{o:Oper}{a:Act}{Q:Exit→Act→World→Prop}(hgd:o.guard=none)(sl x:Operand)(t u:TypeId)
  (ho:o.op=.call { callee:=.builtin .append,args:=#[sl,x],argTypes:=#[t,u] })
  (e:TypeId) (i:TypeInfo) (ht:P.underlying t=some (.slice e)) (hu:P.underlying u=some .string) (hi:P.info? e=some i) (hz:i.zero=some (.int .u8 0)) (hsize:i.size=1) (hby:i.bytes=1)
  (v:Value) (n:Nat) (xs:List Value) (hs:a.eval sl=v) (hown:w.ownsRowF 0 e 1 v n xs) (s:ByteArray) (hx:a.eval x=.string s) (h63:n+s.size≤maxLen) (hbytes:n+s.size≤140737488355328)
  (h:∀ v' w',w'.ownsRowF 0 e 1 v' (n+s.size) (xs++Lib.strCells s)→w.grownBy w' v.ownBlock→(v'=.slice none 0 0↔v=.slice none 0 0∧s.size=0)→Same w v v'→wpList P ops Q rest (a.put o.dst v') w'):wpList P ops Q (o :: rest) a w:=by
 refine wpList_plain hgd fun K hK=>?_
 obtain⟨v',w',hr,h2,h3,h4,h5⟩:=q9s (P:=P) (w:=w) t u o.type e i ht hu hi hz hsize hby v n xs hown s h63 hbytes
 unfold Oper.wp execOp
 simp only[ho,resolve,invoke,builtin,Sem.run_bind,Sem.run_pure,Result.andThen_ok,List.map_toArray,List.map_cons,List.map_nil,hs,hx,hr]
 exact hK _ _ (h v' w' h2 h3 h4 h5)
end
end Go.Vm
end

section
set_option linter.unusedVariables false
namespace Go.Vm
open Go.RowKit Go.Shelf Go.Proofs
section
variable {P:Program}{ρ:Ren}
structure BAt(T e:TypeId)(w:World)(b:Nat)(p v:Value)(bs:List Value):Prop where
 hp:p=.pointer none∨p=.pointer (some ⟨b,0,none⟩)
 hb:w.heap[b]? = some (.cells #[p,v] T (0,0))
 own:w.ownsRowF 0 e 1 v bs.length bs
 ne:v.ownBlock≠some b
theorem BAt.isB{T e:TypeId}{w:World}{b:Nat}{p v:Value}{bs:List Value}(h:BAt T e w b p v bs):Lib.IsBuilderF T e 0 b bs w:=by
 rcases h.hp with rfl|rfl
 ·exact .inl ⟨Nat.zero_le _,v,h.hb,h.own,h.ne⟩
 ·exact .inr ⟨Nat.zero_le _,v,h.hb,h.own,h.ne⟩
theorem BAt.lt{T e:TypeId}{w:World}{b:Nat}{p v:Value}{bs:List Value}(h:BAt T e w b p v bs):b<w.heap.size:=by
 rcases Nat.lt_or_ge b w.heap.size with h'|h'
 ·exact h'
 ·have:=h.hb;simp [Array.getElem?_eq_none h'] at this
structure Kept(w w':World)(b:Nat)(v v':Value):Prop where
 os:w'.os=w.os
 tape:w'.tape=w.tape
 output:w'.output=w.output
 size:w.heap.size≤w'.heap.size
 blk:∀ k,k<w.heap.size→k≠b→some k≠v.ownBlock→w'.heap[k]? = w.heap[k]?
 same:Same w v v'
def SizeEq(w1 w:World):Prop:=w1.heap.size=w.heap.size
theorem SizeEq.eq{w1 w:World}(h:SizeEq w1 w):w1.heap.size=w.heap.size:=h
theorem z9h{T e:TypeId}{w w1 w2:World}{b:Nat}{v v':Value}{bs':List Value}(hTe:T≠e)(hsz:w1.heap.size=w.heap.size∨w1.heap.size=w.heap.size+1)(hos:w1.os=w.os∧w1.tape=w.tape∧w1.output=w.output)(hold:∀ k,k<w.heap.size→k≠b→w1.heap[k]? = w.heap[k]?)
  (hb2:w2.heap[b]? = some (.cells #[.pointer (some ⟨b,0,none⟩),v] T (0,0))) (hgrow:w1.grownBy w2 v.ownBlock) (hown:w2.ownsRowF 0 e 1 v' bs'.length bs') (hs:Same w1 v v') (hv:∀ g,v.ownBlock=some g→g<w.heap.size) :
  BAt T e (w2.setCell ⟨b,1,none⟩ v') b (.pointer (some ⟨b,0,none⟩)) v' bs'∧Kept w (w2.setCell ⟨b,1,none⟩ v') b v v':=by
 have hne:=Lib.ownBlock_neF hown hb2 hTe
 refine⟨⟨.inr rfl,?_,?_,hne⟩,⟨hgrow.os.trans hos.1,hgrow.tape.trans hos.2.1,hgrow.output.trans hos.2.2,by have:=hgrow.size;simp;omega,fun k hk h1 h2=>?_,?_⟩⟩
 ·simp [World.setCell,Array.getElem?_modify,hb2]
 ·exact hown.kept (row:=some b) ⟨rfl,rfl,rfl,by simp [World.setCell],fun k _ hk=>Below.heap_setCell _ _ _ _ (fun e=>hk (by simp [e]))⟩ (Or.inr hne)
 ·rw[Below.heap_setCell _ _ _ _ h1,hgrow.block k (by omega) h2,hold k hk h1]
 ·rcases hs with h|⟨g,h1,h2⟩
  ·exact .inl h
  ·exact .inr ⟨g,h1,by omega⟩
end
end Go.Vm
end

section
set_option linter.unusedVariables false
namespace Go.Vm
open Go.RowKit Go.Shelf Go.Proofs
section
variable {P:Program}{ρ:Ren}
theorem q6v(w:World)(a:Addr)(n k:Nat)(h:k≠a.block):(w.freeze a n).heap[k]? = w.heap[k]?:=by
 unfold World.freeze
 split
 ·rfl
 ·simp [Array.getElem?_modify,h.symm]
set_option maxHeartbeats 2000000 in
set_option maxRecDepth 100000 in
theorem q9D(L:Lays.n169 P ρ)(X:Builder.Extra P ρ){w:World}{b:Nat}{p:Value}(h:BAt (ρ.t 72) (ρ.t 5) w b p (.slice none 0 0) []) :
  Calls P (ρ.f 169) #[.pointer (some ⟨b,0,none⟩)] w fun e w'=>e=.returned (.string ⟨#[]⟩)∧w'=w.drew:=by
 have hUS:=Any.unsafeString_none L X
 have c1:w.drew.cell? ⟨b,1,none⟩=some (.slice none 0 0):=by
  have:w.drew.heap[b]? = some (.cells #[p,.slice none 0 0] (ρ.t 72) (0,0)):=h.hb
  rw[Lib.cell_of_heap this];rfl
 have hSD:(Builtin.unsafeSliceData_ #[(ρ.t 37)] (ρ.t 127) #[.slice none 0 0]).run P w.drew=.ok (.pointer none) w.drew:=rfl
 have mixed:=L.mixed
 have t72:=L.t72;have a72:=L.a72;have z72:=L.z72;have v72:=L.v72;have u72:=run_underlying L.t72
 have t70:=L.t70;have a70:=L.a70;have z70:=L.z70;have v70:=L.v70;have u70:=run_underlying L.t70
 have t37:=L.t37;have a37:=L.a37;have z37:=L.z37;have v37:=L.v37;have u37:=run_underlying L.t37
 have t127:=L.t127;have a127:=L.a127;have z127:=L.z127;have v127:=L.v127;have u127:=run_underlying L.t127
 have t3:=L.t3;have a3:=L.a3;have z3:=L.z3;have v3:=L.v3;have u3:=run_underlying L.t3
 have t9:=L.t9;have a9:=L.a9;have z9:=L.z9;have v9:=L.v9;have u9:=run_underlying L.t9
 have t5:=X.t5;have a5:=X.a5;have z5:=X.z5;have v5:=X.v5;have u5:=run_underlying X.t5
 go_enter L.f169,Body.n169_ntmps ρ
 go_wp2
 go_region_o
 all_goals(go_wp2;go_ret;exact⟨rfl,rfl⟩)
set_option maxHeartbeats 2000000 in
set_option maxRecDepth 100000 in
theorem q9q(L:Lays.n169 P ρ)(X:Builder.Extra P ρ){w:World}{b g cap:Nat}{p:Value}{l:List UInt8}(h0:l≠[])(h:BAt (ρ.t 72) (ρ.t 5) w b p (.slice (some ⟨g,0,none⟩) l.length cap) (Lib.byteCells l)) :
  Calls P (ρ.f 169) #[.pointer (some ⟨b,0,none⟩)] w fun e w'=>e=.returned (.string ⟨l.toArray⟩)∧w'=w.drew.freeze ⟨g,0,none⟩ l.length:=by
 have hl0:l.length≠0:=by simpa using h0
 have hbk:=h.hb
 have hown:=h.own
 rw[Lib.byteCells_length] at hown
 obtain⟨cur,fz,hg,hfz,hnc,hcm,hcs,htake⟩:∃ cur fz,w.heap[g]? = some (.cells cur (ρ.t 5) fz)∧fz.2≤l.length*1∧l.length≤cap∧cap≤maxLen∧cur.size=cap*1∧cur.toList.take (l.length*1)=Lib.byteCells l:=by
  rcases hown.2 with⟨_,hz⟩|⟨g',cap',cur,fz,hv,hB,r⟩
  ·exact absurd hz hl0
  ·injection hv with e1 e2 e3
   injection e1 with e1
   injection e1 with e1 _
   subst e1;subst e3
   exact⟨cur,fz,r⟩
 have c1:w.drew.cell? ⟨b,1,none⟩=some (.slice (some ⟨g,0,none⟩) l.length cap):=by
  have:w.drew.heap[b]? = some (.cells #[p,.slice (some ⟨g,0,none⟩) l.length cap] (ρ.t 72) (0,0)):=hbk
  rw[Lib.cell_of_heap this];rfl
 have hSD:(Builtin.unsafeSliceData_ #[(ρ.t 37)] (ρ.t 127) #[.slice (some ⟨g,0,none⟩) l.length cap]).run P w.drew=.ok (.pointer (some ⟨g,0,none⟩)) w.drew:=
  Lib.run_unsafeSliceData_row _ _ _ _ _ _ (by omega)
 have hUS:(Builtin.unsafeString_ #[(ρ.t 127),(ρ.t 3)] (ρ.t 9) #[.pointer (some ⟨g,0,none⟩),.int .i64 l.length]).run P w.drew=.ok (.string ⟨l.toArray⟩) (w.drew.freeze ⟨g,0,none⟩ l.length):=by
  refine Lib.run_unsafeString_row w.drew (ρ.t 127) (ρ.t 3) (ρ.t 9) (ρ.t 5) L.t127 X.cellsByte g cur.size (by have hg':w.drew.heap[g]? = some (.cells cur (ρ.t 5) fz):=hg;simp [World.shape?,hg']) l h0 (by omega) (by unfold maxLen at hcm;omega) ?_
  intro j x hx
  have:=hown.cells (g:=g) rfl j (.int .u8 x.toNat) (by simp [Lib.byteCells,hx])
  exact this
 have mixed:=L.mixed
 have t72:=L.t72;have a72:=L.a72;have z72:=L.z72;have v72:=L.v72;have u72:=run_underlying L.t72
 have t70:=L.t70;have a70:=L.a70;have z70:=L.z70;have v70:=L.v70;have u70:=run_underlying L.t70
 have t37:=L.t37;have a37:=L.a37;have z37:=L.z37;have v37:=L.v37;have u37:=run_underlying L.t37
 have t127:=L.t127;have a127:=L.a127;have z127:=L.z127;have v127:=L.v127;have u127:=run_underlying L.t127
 have t3:=L.t3;have a3:=L.a3;have z3:=L.z3;have v3:=L.v3;have u3:=run_underlying L.t3
 have t9:=L.t9;have a9:=L.a9;have z9:=L.z9;have v9:=L.v9;have u9:=run_underlying L.t9
 have t5:=X.t5;have a5:=X.a5;have z5:=X.z5;have v5:=X.v5;have u5:=run_underlying X.t5
 go_enter L.f169,Body.n169_ntmps ρ
 go_wp2
 go_region_o
 all_goals(go_wp2;go_ret;exact⟨rfl,rfl⟩)
end
end Go.Vm
end

section
set_option linter.unusedVariables false
namespace Go.Vm
open Go.RowKit Go.Shelf Go.Proofs
@[reducible] def bldB (T b n:Nat):Blk:=.map [(.nils T,.bsl b 0 n)]
@[reducible] def bufB (e:Nat) (bytes:List UInt8):Blk:=.map [(.emps e,.d false .nilp),(.str bytes,.d false .nilp)]
section
variable {P:Program}{ρ:Ren}{w w':World}{F:Nat→Prop}{σ:Nat→Option Loc}
theorem q1h(l:List UInt8):(q2Z l).length=l.length:=by simp [q2Z]
theorem q8a{T e:Nat}{bytes:List UInt8}(hH:HeapRel w F (OwnB σ) w.heap.size σ 2 (indexed [bldB T 1 bytes.length,bufB e bytes])) :
  ∃ l0 p v,σ 0=some l0∧l0.k=0∧BAt T e w l0.blk p v (q2Z bytes)∧(bytes=[]→v=.slice none 0 0)∧∀ g,v.ownBlock=some g→∃ l,σ 1=some l∧l.blk=g:=by
 have h0:=hH.blk 0 (bldB T 1 bytes.length) rfl
 have h1:=hH.blk 1 (bufB e bytes) rfl
 rcases h0 with⟨hn,_⟩|⟨l0,es,ck,ds,hds,hs0,hm,hk,_,_⟩|⟨_,_,_,_,_,_,_,_,_,he⟩
 ·simp [Blk.n,q9U,z7E] at hn
 ·obtain rfl:[(D.nils T,V.bsl 1 0 bytes.length)]=ds:=by injection hds
  rcases hm with⟨_,_,ht⟩|⟨T',p,v,x,hx,hw,hp,hv⟩|⟨T',cur,fz,bs,hx,_⟩
  ·simp [q2p] at ht
  ·simp only[List.cons.injEq,Prod.mk.injEq,D.nils.injEq,and_true] at hx
   obtain⟨rfl,rfl⟩:=hx
   obtain⟨_,hv⟩:=hv
   refine⟨l0,p,v,hs0,hk,?_⟩
   rcases hv with⟨hb,rfl⟩|⟨l,hl,hpos,rfl⟩
   ·obtain rfl:bytes=[]:=List.eq_nil_of_length_eq_zero hb
    exact⟨⟨hp,hw,World.ownsRowF_nil _ _ _ _,by simp [Value.ownBlock]⟩,fun _=>rfl,fun g hg=>by simp [Value.ownBlock] at hg⟩
   ·rcases h1 with⟨_,hn⟩|⟨l1,es1,ck1,ds1,hds1,hs1,hm1,hk1,_,_⟩|⟨_,_,_,_,_,_,_,_,_,he⟩
    ·rw[hl] at hn;cases hn
    ·obtain rfl:[(D.emps e,V.d false .nilp),(.str bytes,.d false .nilp)]=ds1:=by injection hds1
     rw[hl] at hs1
     obtain rfl:=Option.some.inj hs1
     rcases hm1 with⟨_,_,ht⟩|⟨T',p',v',x',hx,_⟩|⟨T',cur,fz,bs,hx,hg,f1,f2,f3,f4,f5⟩
     ·simp [q2p] at ht
     ·simp at hx
     ·simp only[List.map_cons,List.map_nil,List.cons.injEq,D.emps.injEq,D.str.injEq,and_true] at hx
      obtain⟨rfl,rfl⟩:=hx
      refine⟨⟨hp,hw,⟨by simp,.inr ⟨l.blk,l.ext,cur,fz,by rw[q1h],Nat.zero_le _,hg,by rw[q1h];omega,by rw[q1h];exact f2,f4,by omega,?_⟩⟩,?_⟩,fun h=>?_,fun g hg=>⟨l,hl,?_⟩⟩
      ·rw[q1h,Nat.mul_one];exact f5
      ·intro h
       simp only[Value.ownBlock,Option.some.injEq] at h
       have:=hH.inj 0 1 l0 l hs0 hl h.symm
       cases this
      ·rw[h] at hpos;simp at hpos
      ·simpa [Value.ownBlock] using hg
    ·simp [Blk.entries] at he
  ·simp at hx
 ·simp [Blk.entries] at he
theorem q6R{T e:Nat}{l0:Loc}{p' v v':Value}{bytes':List UInt8}{H:List (Nat×Blk)}(hH:HeapRel w F (OwnB σ) w.heap.size σ 2 H)(hs0:σ 0=some l0)(hk0:l0.k=0)(hv:∀ g,v.ownBlock=some g→∃ l,σ 1=some l∧l.blk=g)
  (hb:BAt T e w' l0.blk p' v' (q2Z bytes')) (hK:Kept w w' l0.blk v v') (hnil:bytes'=[]→v'=.slice none 0 0) :
  ∃ σ',Frame (OwnB σ) w.heap.size w w'∧HeapRel w' F (OwnB σ) w.heap.size σ' 2 (indexed [bldB T 1 bytes'.length,bufB e bytes'])∧∀ i l,i<2→σ i=some l→i∉[1]→σ' i=some l:=by
 have hF:∀ b,F b→b<w'.heap.size:=fun b hf=>Nat.lt_of_lt_of_le (hH.fro b hf) hK.size
 have hframe:Frame (OwnB σ) w.heap.size w w':=⟨hK.os,hK.tape,hK.output,hK.size,fun k hk hX=>hK.blk k hk (fun h=>hX 0 ⟨l0,hs0,h.symm⟩) (fun h=>by
  obtain⟨l,h1,h2⟩:=hv k h.symm
  exact hX 1 ⟨l,h1,h2⟩)⟩
 obtain⟨o1,o2,o3,o4⟩:=hH.own 0 l0 hs0
 have hlt0:=hb.lt
 rcases hb.own.2 with⟨rfl,hz⟩|⟨g,cap,cur,fz,rfl,_,hg,f1,f2,f3,f4,f5⟩
 ·-- no buffer
  have hz':bytes'=[]:=by rw[q1h] at hz;exact List.eq_nil_of_length_eq_zero hz
  subst hz'
  refine⟨fun i=>if i=0 then some l0 else none,hframe,⟨fun i blk hi=>?_,fun i j l l' h1 h2 _=>?_,fun i l h=>?_,hF⟩,fun i l hi hl hm=>?_⟩
  ·have:(i=0∧blk=bldB T 1 0)∨(i=1∧blk=bufB e []):=by
    simp only[indexed,List.zipIdx_cons,List.zipIdx_nil,List.map_cons,List.map_nil,look,List.length_nil] at hi
    split at hi
    ·rename_i h;exact .inl ⟨h.symm,(Option.some.inj hi).symm⟩
    ·split at hi
     ·rename_i h;exact .inr ⟨by omega,(Option.some.inj hi).symm⟩
     ·cases hi
   rcases this with⟨rfl,rfl⟩|⟨rfl,rfl⟩
   ·exact .inr (.inl ⟨l0,#[⟨.slice none 0 0,.slice none 0 0,0⟩],0,_,rfl,rfl,.inr (.inl ⟨T,p',.slice none 0 0,_,rfl,hb.hb,hb.hp,rfl,.inl ⟨rfl,rfl⟩⟩),hk0,trivial,rfl,fun i e p he hp=>by
     match i,he,hp with
     |0,he,hp=>
      simp at he hp
      subst he;subst hp
      exact⟨rfl,.nils T,.bsl0 none 1 0⟩
     |i+1,he,hp=>simp at he⟩)
   ·exact .inl ⟨rfl,rfl⟩
  ·split at h1
   ·split at h2
    ·omega
    ·cases h2
   ·cases h1
  ·split at h
   ·rename_i h0
    subst h0
    obtain rfl:=Option.some.inj h
    exact⟨by omega,o2,o3,hlt0⟩
   ·cases h
  ·have:i=0:=by simp at hm;omega
   subst this
   show some l0=some l
   rw[←hs0];exact hl
 ·have hgne:g≠l0.blk:=fun h=>hb.ne (by simp [Value.ownBlock,h])
  have hpos:0<bytes'.length:=by
   rcases Nat.eq_zero_or_pos bytes'.length with h|h
   ·have:=hnil (List.eq_nil_of_length_eq_zero h)
    simp at this
   ·exact h
  have hgl:g<w'.heap.size:=by
   rcases Nat.lt_or_ge g w'.heap.size with h'|h'
   ·exact h'
   ·simp [Array.getElem?_eq_none h'] at hg
  rw[q1h,Nat.mul_one] at f1 f5
  rw[q1h] at f2
  -- where the buffer is
  have gown:¬ F g∧(w.heap.size≤g∨OwnB σ 1 g):=by
   rcases hK.same with h|⟨g',h1,h2⟩
   ·obtain⟨l,h1,h2⟩:=hv g (by rw[←h];rfl)
    obtain⟨q1,q2,q3,q4⟩:=hH.own 1 l h1
    rw[h2] at q2
    exact⟨q2,.inr ⟨l,h1,h2⟩⟩
   ·simp only[Value.ownBlock,Option.some.injEq] at h1
    subst h1
    exact⟨fun hf=>by have:=hH.fro _ hf;omega,.inl h2⟩
  let l1:Loc:=⟨g,0,cap⟩
  refine⟨fun i=>if i=0 then some l0 else if i=1 then some l1 else none,hframe,⟨fun i blk hi=>?_,fun i j l l' h1 h2 he=>?_,fun i l h=>?_,hF⟩,fun i l hi hl hm=>?_⟩
  ·have:(i=0∧blk=bldB T 1 bytes'.length)∨(i=1∧blk=bufB e bytes'):=by
    simp only[indexed,List.zipIdx_cons,List.zipIdx_nil,List.map_cons,List.map_nil,look] at hi
    split at hi
    ·rename_i h;exact .inl ⟨h.symm,(Option.some.inj hi).symm⟩
    ·split at hi
     ·rename_i h;exact .inr ⟨by omega,(Option.some.inj hi).symm⟩
     ·cases hi
   rcases this with⟨rfl,rfl⟩|⟨rfl,rfl⟩
   ·refine .inr (.inl ⟨l0,#[⟨.slice none 0 0,.slice (some ⟨g,0,none⟩) bytes'.length cap,0⟩],0,_,rfl,rfl,.inr (.inl ⟨T,p',_,_,rfl,hb.hb,hb.hp,rfl,.inr ⟨l1,rfl,hpos,by rw[q1h]⟩⟩),hk0,trivial,rfl,fun i e p he hp=>?_⟩)
    match i,he,hp with
    |0,he,hp=>
     simp at he hp
     subst he;subst hp
     exact⟨rfl,.nils T,by
      have:=RepV.bsl (w:=w') (F:=F) (base:=w.heap.size) (σ:=fun i=>if i=0 then some l0 else if i=1 then some l1 else none) 1 0 bytes'.length cap l1 rfl f2 (by simp [l1])
      simpa [l1] using this⟩
    |i+1,he,hp=>simp at he
   ·refine .inr (.inl ⟨l1,#[⟨.slice (some ⟨0,0,none⟩) 0 0,.pointer none,0⟩,⟨.string ⟨bytes'.toArray⟩,.pointer none,0⟩],0,_,rfl,rfl,.inr (.inr ⟨e,cur,fz,bytes',rfl,hg,f1,f2,by simpa using f4,f3,f5⟩),rfl,trivial,rfl,fun i e' p he hp=>?_⟩)
    match i,he,hp with
    |0,he,hp=>
     simp at he hp
     subst he;subst hp
     exact⟨rfl,.emps _ _ e,.d _ _ _ .nilp⟩
    |1,he,hp=>
     simp at he hp
     subst he;subst hp
     exact⟨rfl,.str ⟨bytes'.toArray⟩,.d _ _ _ .nilp⟩
    |i+2,he,hp=>simp at he
  ·have two:∀ {i:Nat} {l:Loc},(if i=0 then some l0 else if i=1 then some l1 else none)=some l→(i=0∧l=l0)∨(i=1∧l=l1):=by
    intro i l h
    split at h
    ·rename_i h0;exact .inl ⟨h0,(Option.some.inj h).symm⟩
    ·split at h
     ·rename_i h0;exact .inr ⟨h0,(Option.some.inj h).symm⟩
     ·cases h
   rcases two h1 with⟨rfl,rfl⟩|⟨rfl,rfl⟩ <;> rcases two h2 with⟨rfl,rfl⟩|⟨rfl,rfl⟩
   ·rfl
   ·exact absurd he.symm hgne
   ·exact absurd he hgne
   ·rfl
  ·split at h
   ·rename_i h0
    subst h0
    obtain rfl:=Option.some.inj h
    exact⟨by omega,o2,o3,hlt0⟩
   ·split at h
    ·rename_i h0
     subst h0
     obtain rfl:=Option.some.inj h
     exact⟨by omega,gown.1,gown.2,hgl⟩
    ·cases h
  ·have:i=0:=by simp at hm;omega
   subst this
   show some l0=some l
   rw[←hs0];exact hl
theorem q7W{base:Nat}{v:Value}{l0:Loc}(hs0:σ 0=some l0)(h:RepV w F base σ v (.ptr 0 0 0)):v=.pointer (some ⟨l0.blk,0,none⟩):=by
 cases h with
 |ptr _ _ _ l hl=>
  rw[hs0] at hl
  obtain rfl:=Option.some.inj hl
  simp
variable {G:Nat→Option (List D)}
def WbOk(P:Program)(f:FuncId)(T e:TypeId):Prop:=∀ {w:World}{b:Nat}{p v:Value}{bs:List Value},BAt T e w b p v bs→∀(c:Int),bs.length+1≤140737488355328→
  Calls P f #[.pointer (some ⟨b,0,none⟩),.int .u8 c] w fun x w'=>x=.returned .nilIface∧∃ v',BAt T e w' b (.pointer (some ⟨b,0,none⟩)) v' (bs++[.int .u8 c])∧Kept w w' b v v'
def WsOk(P:Program)(f:FuncId)(T e:TypeId):Prop:=∀ {w:World}{b:Nat}{p v:Value}{bs:List Value},BAt T e w b p v bs→∀(s:ByteArray),bs.length+s.size≤140737488355328→
  Calls P f #[.pointer (some ⟨b,0,none⟩),.string s] w fun x w'=>x=.returned (.tuple #[.int .i64 s.size,.nilIface])∧∃ v',BAt T e w' b (.pointer (some ⟨b,0,none⟩)) v' (bs++Lib.strCells s)∧Kept w w' b v v'∧(v=.slice none 0 0→s.size=0→v'=.slice none 0 0)
theorem z0L{f T e:Nat}(hW:WbOk P f T e)(bytes:List UInt8)(c:UInt8)(hlen:bytes.length+1≤140737488355328) :
  q56 P G f [.ptr 0 0 0,.d false (.int .u8 c.toNat)] [bldB T 1 bytes.length,bufB e bytes] (.d false .nilif) [bldB T 1 (bytes++[c]).length,bufB e (bytes++[c])] [1]:=by
 intro w F σ vals hG hH hR
 obtain⟨l0,p,v,hs0,hk0,hB,hn0,hv⟩:=q8a hH
 obtain⟨hsz,hval⟩:=hR
 obtain⟨l⟩:=vals
 match l,hsz,hval with
 |[v0,v1],hsz,hval=>
  have e0:=q7W hs0 (hval 0 v0 (.ptr 0 0 0) rfl rfl)
  have e1:=(hval 1 v1 (.d false (.int .u8 c.toNat)) rfl rfl).int_inv
  subst e0;subst e1
  refine(hW hB c.toNat (by rw[q1h];exact hlen)).mono ?_
  rintro x w' ⟨rfl,v',hB',hK⟩
  have hB'':BAt T e w' l0.blk (.pointer (some ⟨l0.blk,0,none⟩)) v' (q2Z (bytes++[c])):=by
   have:q2Z (bytes++[c])=q2Z bytes++[.int .u8 c.toNat]:=by simp [q2Z]
   rw[this];exact hB'
  obtain⟨σ',h1,h2,h3⟩:=q6R hH hs0 hk0 hv hB'' hK (fun h=>by simp at h)
  exact⟨.nilIface,F,σ',rfl,h1,fun _ h=>h,fun _ h=>.inl h,.d _ _ _ .nilif,h2,h3⟩
 |[],hsz,_=>simp at hsz
 |[_],hsz,_=>simp at hsz
 |_ :: _ :: _ :: _,hsz,_=>simp at hsz
theorem q9b{f T e:Nat}(hW:WsOk P f T e)(bytes s:List UInt8)(hlen:bytes.length+s.length≤140737488355328) :
  q56 P G f [.ptr 0 0 0,.d false (.str s)] [bldB T 1 bytes.length,bufB e bytes] (.tup [.d false (.int .i64 s.length),.d false .nilif]) [bldB T 1 (bytes++s).length,bufB e (bytes++s)] [1]:=by
 intro w F σ vals hG hH hR
 obtain⟨l0,p,v,hs0,hk0,hB,hn0,hv⟩:=q8a hH
 obtain⟨hsz,hval⟩:=hR
 obtain⟨l⟩:=vals
 match l,hsz,hval with
 |[v0,v1],hsz,hval=>
  have e0:=q7W hs0 (hval 0 v0 (.ptr 0 0 0) rfl rfl)
  obtain⟨t,e1,e2⟩:=(hval 1 v1 (.d false (.str s)) rfl rfl).str_inv
  subst e0;subst e1;subst e2
  have hst:t.size=t.data.toList.length:=rfl
  refine(hW hB t (by rw[q1h,hst];exact hlen)).mono ?_
  rintro x w' ⟨rfl,v',hB',hK,hnil⟩
  have hB'':BAt T e w' l0.blk (.pointer (some ⟨l0.blk,0,none⟩)) v' (q2Z (bytes++t.data.toList)):=by
   have:q2Z (bytes++t.data.toList)=q2Z bytes++Lib.strCells t:=by simp [q2Z,Lib.strCells]
   rw[this];exact hB'
  obtain⟨σ',h1,h2,h3⟩:=q6R hH hs0 hk0 hv hB'' hK (fun h=>by
   rw[List.append_eq_nil_iff] at h
   exact hnil (hn0 h.1) (by rw[hst,h.2];rfl))
  refine⟨_,F,σ',rfl,h1,fun _ h=>h,fun _ h=>.inl h,.tup _ _ rfl (fun j u x hu hx=>?_),h2,h3⟩
  match j,hu,hx with
  |0,hu,hx=>simp at hu hx;subst hu;subst hx;rw[hst];exact .d _ _ _ (.int _ _)
  |1,hu,hx=>simp at hu hx;subst hu;subst hx;exact .d _ _ _ .nilif
  |j+2,hu,hx=>simp at hu
 |[],hsz,_=>simp at hsz
 |[_],hsz,_=>simp at hsz
 |_ :: _ :: _ :: _,hsz,_=>simp at hsz
theorem j29(L:Lays.n170 P ρ)(bytes:List UInt8) :
  q56 P G (ρ.f 170) [.ptr 0 0 0] [bldB (ρ.t 72) 1 bytes.length,bufB (ρ.t 5) bytes] (.d false (.int .i64 bytes.length)) [bldB (ρ.t 72) 1 bytes.length,bufB (ρ.t 5) bytes] []:=by
 intro w F σ vals hG hH hR
 obtain⟨l0,p,v,hs0,hk0,hB,hn0,hv⟩:=q8a hH
 obtain⟨hsz,hval⟩:=hR
 obtain⟨l⟩:=vals
 match l,hsz,hval with
 |[v0],hsz,hval=>
  have e0:=q7W hs0 (hval 0 v0 (.ptr 0 0 0) rfl rfl)
  subst e0
  refine(Any.Builder_Len_f L 0 l0.blk (q2Z bytes) w hB.isB).mono ?_
  rintro e w' ⟨rfl,rfl⟩
  exact⟨_,F,σ,rfl,.refl _ _ _,fun _ h=>h,fun _ h=>.inl h,by rw[q1h];exact .d _ _ _ (.int _ _),hH,fun _ _ _ h _=>h⟩
 |[],hsz,_=>simp at hsz
 |_ :: _ :: _,hsz,_=>simp at hsz
theorem z5S(L:Lays.n169 P ρ)(X:Builder.Extra P ρ)(bytes:List UInt8) :
  q56 P G (ρ.f 169) [.ptr 0 0 0] [bldB (ρ.t 72) 1 bytes.length,bufB (ρ.t 5) bytes] (.d false (.str bytes)) [bldB (ρ.t 72) 1 bytes.length,bufB (ρ.t 5) bytes] [1]:=by
 intro w F σ vals hG hH hR
 obtain⟨l0,p,v,hs0,hk0,hB,hn0,hv⟩:=q8a hH
 obtain⟨hsz,hval⟩:=hR
 obtain⟨l⟩:=vals
 match l,hsz,hval with
 |[v0],hsz,hval=>
  have e0:=q7W hs0 (hval 0 v0 (.ptr 0 0 0) rfl rfl)
  subst e0
  by_cases h0:bytes=[]
  ·subst h0
   have:=hn0 rfl
   subst this
   refine(q9D L X hB).mono ?_
   rintro e w' ⟨rfl,rfl⟩
   have hB':BAt (ρ.t 72) (ρ.t 5) w.drew l0.blk p (.slice none 0 0) (q2Z []):=⟨hB.hp,hB.hb,hB.own,hB.ne⟩
   have hK:Kept w w.drew l0.blk (.slice none 0 0) (.slice none 0 0):=⟨rfl,rfl,rfl,Nat.le_refl _,fun _ _ _ _=>rfl,.inl rfl⟩
   obtain⟨σ',h1,h2,h3⟩:=q6R hH hs0 hk0 hv hB' hK (fun _=>rfl)
   exact⟨_,F,σ',rfl,h1,fun _ h=>h,fun _ h=>.inl h,.d _ _ _ (.str ⟨#[]⟩),h2,h3⟩
  ·obtain⟨g,cap,rfl⟩:∃ g cap,v=.slice (some ⟨g,0,none⟩) bytes.length cap:=by
    rcases hB.own.2 with⟨_,hz⟩|⟨g,cap,cur,fz,hv,_⟩
    ·rw[q1h] at hz;exact absurd (List.eq_nil_of_length_eq_zero hz) h0
    ·rw[q1h] at hv;exact⟨g,cap,hv⟩
   refine(q9q L X h0 hB).mono ?_
   rintro e w' ⟨rfl,rfl⟩
   have hlen:(q2Z bytes).length=bytes.length:=q1h _
   have hA:Lib.BuilderAtF (ρ.t 72) (ρ.t 5) 0 l0.blk p (q2Z bytes) w.drew:=⟨Nat.zero_le _,_,hB.hb,hB.own,hB.ne⟩
   have c1:w.drew.cell? ⟨l0.blk,1,none⟩=some (.slice (some ⟨g,0,none⟩) (q2Z bytes).length cap):=by
    have:w.drew.heap[l0.blk]? = some (.cells #[p,.slice (some ⟨g,0,none⟩) bytes.length cap] (ρ.t 72) (0,0)):=hB.hb
    rw[Lib.cell_of_heap this,hlen];rfl
   have hne:g≠l0.blk:=fun h=>hB.ne (by simp [Value.ownBlock,h])
   have hF':=hA.froze (g:=g) (cap:=cap) c1
   rw[hlen] at hF'
   have hbk:(w.drew.freeze ⟨g,0,none⟩ bytes.length).heap[l0.blk]? = some (.cells #[p,.slice (some ⟨g,0,none⟩) bytes.length cap] (ρ.t 72) (0,0)):=by
    rw[q6v _ _ _ _ (fun h=>hne h.symm)];exact hB.hb
   have hB':BAt (ρ.t 72) (ρ.t 5) (w.drew.freeze ⟨g,0,none⟩ bytes.length) l0.blk p (.slice (some ⟨g,0,none⟩) bytes.length cap) (q2Z bytes):=by
    obtain⟨_,v2,hb2,hown2,hne2⟩:=hF'
    rw[hbk] at hb2
    have:v2=.slice (some ⟨g,0,none⟩) bytes.length cap:=by
     injection hb2 with e1
     injection e1 with e2
     have e2':=congrArg Array.toList e2
     simp at e2'
     exact e2'.symm
    subst this
    exact⟨hB.hp,hbk,hown2,hne2⟩
   have hsz':(w.drew.freeze ⟨g,0,none⟩ bytes.length).heap.size=w.heap.size:=by
    unfold World.freeze
    split
    ·rfl
    ·show(w.heap.modify _ _).size=_
     simp only[Array.size_modify]
   have hos:(w.drew.freeze ⟨g,0,none⟩ bytes.length).os=w.os∧(w.drew.freeze ⟨g,0,none⟩ bytes.length).tape=w.tape∧(w.drew.freeze ⟨g,0,none⟩ bytes.length).output=w.output:=by
    unfold World.freeze
    split <;> exact⟨rfl,rfl,rfl⟩
   have hK:Kept w (w.drew.freeze ⟨g,0,none⟩ bytes.length) l0.blk (.slice (some ⟨g,0,none⟩) bytes.length cap) (.slice (some ⟨g,0,none⟩) bytes.length cap):=
    ⟨hos.1,hos.2.1,hos.2.2,by rw[hsz'];exact Nat.le_refl _,fun k _ _ hk=>by rw[q6v _ _ _ _ (fun h=>hk (by simp [Value.ownBlock,h]))];rfl,.inl rfl⟩
   obtain⟨σ',h1,h2,h3⟩:=q6R hH hs0 hk0 hv hB' hK (fun h=>absurd h h0)
   exact⟨_,F,σ',rfl,h1,fun _ h=>h,fun _ h=>.inl h,.d _ _ _ (.str ⟨bytes.toArray⟩),h2,h3⟩
 |[],hsz,_=>simp at hsz
 |_ :: _ :: _,hsz,_=>simp at hsz
end
end Go.Vm
end
