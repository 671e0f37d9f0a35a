/-
  CodeBytes comes to true, whatever the tables (of bulk at most 1048576); the input reads as it did.
  Conditions: the listed package-level tables read as the program's text lays them (tied by the card).
-/
import Derived.Test.YtjpnaaebfdnccaaGreatDoorCodeBytesUptoCardSaidE
import Derived.Deep.Slices
import Derived.DataReads
import Derived.KernelRfl
import Derived.Test.YtjpnaaebfdnccaaGreatDoorRows
import Derived.ProofKit
import Derived.OpenShut
import Derived.Deep.DeepHandedRow
import Derived.Lib.LaidTab
import Derived.Lib.LaidIn
import Derived.ChangeMaps5
import Derived.LaidHandle
import Derived.Test.YtjpnaaebfdnccaaGreatDoorCards
import Derived.Test.YtjpnaaebfdnccaaGreatDoorTie
set_option linter.unusedVariables false
set_option linter.unusedSimpArgs false

section
namespace Go.Vm
open Go.RowKit Go.Deep
variable {H:Type}{enc:TypeId×Value→H}{P:Program}{w:World}{spare:Nat→Bool}{held:Bool}
def q3J(P:Program)(T:TypeId→Bool):Nat→List Field→Option Nat
 |off,[]=>some off
 |off,f :: fs=>if f.offset=off∧T f.type=true then q3J P T (off+P.cellsOf f.type) fs else none
def q5b(P:Program):Nat→TypeId→Bool
 |0,_=>false
 |n+1,t=>match P.underlying t with
  |some .bool|some (.int _)|some .string=>true
  |some (.slice e)=>decide (0<P.cellsOf e)&&q5b P n e
  |some (.struct fs)=>decide (q3J P (q5b P n) 0 fs.toList=some (P.cellsOf t))
  |_=>false
def q6Y(P:Program)(T:TypeId→List D→Prop):List Field→List D→Prop
 |[],ds=>ds=[]
 |f :: fs,ds=>∃ a b,ds=a++b∧a.length=P.cellsOf f.type∧T f.type a∧q6Y P T fs b
def j32(P:Program):Nat→TypeId→List D→Prop
 |0,_,_=>False
 |n+1,t,ds=>match P.underlying t with
  |some .bool=>∃ b,ds=[.bool b]
  |some (.int k)=>∃ m,ds=[.int k m]∧(Lit.int k m).wf=true
  |some .string=>∃ s,ds=[.str s]∧s.length≤maxLen
  |some (.slice e)=>∃ rows:List (List D),ds=[.sl (P.cellsOf e) rows]∧rows.length≤maxLen∧∀ r∈rows,r.length=P.cellsOf e∧j32 P n e r
  |some (.struct fs)=>q6Y P (j32 P n) fs.toList ds
  |_=>False
def z05(w:World)(b:Nat):Prop:=b<w.heap.size
def RepL(w:World)(cs:List Value)(ds:List D):Prop:=ds.length=cs.length∧∀(j:Nat)(v:Value)(d:D),cs[j]? = some v→ds[j]? = some d→RepD w (z05 w) v d
theorem RepL.append{a b:List Value}{x y:List D}(h1:RepL w a x)(h2:RepL w b y):RepL w (a++b) (x++y):=by
 refine⟨by simp [h1.1,h2.1],fun j v d hv hd=>?_⟩
 by_cases hj:j<a.length
 ·rw[List.getElem?_append_left hj] at hv
  rw[List.getElem?_append_left (by rw[h1.1];exact hj)] at hd
  exact h1.2 j v d hv hd
 ·rw[List.getElem?_append_right (by omega)] at hv
  rw[List.getElem?_append_right (by rw[h1.1];omega),h1.1] at hd
  exact h2.2 _ v d hv hd
theorem RepL.one{v:Value}{d:D}(h:RepD w (z05 w) v d):RepL w [v] [d]:=by
 refine⟨rfl,fun j u x hu hx=>?_⟩
 cases j with
 |zero=>simp at hu hx;subst hu;subst hx;exact h
 |succ j=>simp at hu
theorem q6B{base n:Nat}{a:Addr}{cs:List Value}(h:w.cells? base a n=some cs):cs.length=n∧∀(i:Nat)(v:Value),cs[i]? = some v→w.cell? (a.add i)=some v:=by
 unfold World.cells? at h
 split at h
 case isFalse=>cases h
 have key:∀(l:List Nat) (cs:List Value),(l.mapM fun i=>w.cell? (a.add i))=some cs→cs.length=l.length∧∀(i:Nat) (v:Value),cs[i]? = some v→∃ j:Nat,l[i]? = some j∧w.cell? (a.add j)=some v:=by
  intro l
  induction l with
  |nil=>intro cs h;simp at h;subst h;exact⟨rfl,fun i v h=>by simp at h⟩
  |cons m l ih=>
   intro cs h
   rw[List.mapM_cons] at h
   cases hm:w.cell? (a.add m) with
   |none=>rw[hm] at h;cases h
   |some v=>
    rw[hm] at h
    cases hr:l.mapM (fun i=>w.cell? (a.add i)) with
    |none=>rw[hr] at h;cases h
    |some vs=>
     rw[hr] at h
     obtain rfl:v :: vs=cs:=Option.some.inj h
     obtain⟨h1,h2⟩:=ih vs hr
     refine⟨by simp [h1],fun i u hu=>?_⟩
     cases i with
     |zero=>simp at hu;subst hu;exact⟨m,rfl,hm⟩
     |succ i=>simpa using h2 i u (by simpa using hu)
 obtain⟨h1,h2⟩:=key _ _ h
 refine⟨by simpa using h1,fun i v hv=>?_⟩
 obtain⟨j,hj,hc⟩:=h2 i v hv
 have:j=i:=by
  rw[List.getElem?_range] at hj
  ·simpa using hj.symm
  ·have:=(List.getElem?_eq_some_iff.1 hv).1
   simp at h1;omega
 subst this
 exact hc
theorem q79{α:Type}{Q:Nat→α→Prop}:∀(n:Nat),(∀ i,i<n→∃ y,Q i y)→∃ l:List α,l.length=n∧∀(i:Nat)(y:α),l[i]? = some y→Q i y
 |0,_=>⟨[],rfl,fun i y h=>by simp at h⟩
 |n+1,h=>by
  obtain⟨l,h1,h2⟩:=q79 n (fun i hi=>h i (by omega))
  obtain⟨y,hy⟩:=h n (by omega)
  refine⟨l++[y],by simp [h1],fun i z hz=>?_⟩
  by_cases hi:i<l.length
  ·rw[List.getElem?_append_left hi] at hz
   exact h2 i z hz
  ·rw[List.getElem?_append_right (by omega)] at hz
   have:i - l.length=0:=by
    rcases Nat.eq_zero_or_pos (i - l.length) with h|h
    ·exact h
    ·rw[List.getElem?_eq_none (by simp;omega)] at hz;cases hz
   rw[this] at hz
   simp at hz
   subst hz
   have:i=n:=by omega
   subst this
   exact hy
end Go.Vm
end

section
namespace Go.Vm
open Go.RowKit Go.Deep
variable {H:Type}{enc:TypeId×Value→H}{P:Program}{w:World}{spare:Nat→Bool}{held:Bool}
def argV(agg:Bool)(ds:List D):V:=if agg then .agg (ds.map (.d false)) else match ds with
 |[d]=>.d false d
 |_=>.junk
theorem z2t{v:Value}{d:D}{base:Nat}(hag:∀ cs,v≠.agg cs)(h:RepL w v.cells.toList [d]):RepV w (z05 w) base (fun _=>none) v (argV false [d]):=by
 have hc:v.cells = #[v]:=by
  cases v with
  |agg cs=>exact absurd rfl (hag cs)
  |_=>rfl
 rw[hc] at h
 exact .d _ _ _ (h.2 0 v d rfl rfl)
end Go.Vm
end

section
namespace Go.Vm
open Go.RowKit Go.Deep
variable {H:Type}{enc:TypeId×Value→H}{P:Program}{w:World}{spare:Nat→Bool}{held:Bool}
structure BulkOk(bulk:DataW H→Nat):Prop where
 str:∀ l,l.length≤bulk (.lit (.string l))
 sl:∀ elems spare,elems.length≤bulk (.slice elems spare)∧∀ e∈elems,bulk e≤bulk (.slice elems spare)
 agg:∀ parts,∀ e∈parts,bulk e≤bulk (.agg parts)
def q1M(P:Program)(B:Nat):Nat→TypeId→List D→Prop
 |0,_,_=>False
 |n+1,t,ds=>match P.underlying t with
  |some .bool=>∃ b,ds=[.bool b]
  |some (.int k)=>∃ m,ds=[.int k m]∧(Lit.int k m).wf=true
  |some .string=>∃ s,ds=[.str s]∧s.length≤B
  |some (.slice e)=>∃ rows:List (List D),ds=[.sl (P.cellsOf e) rows]∧rows.length≤B∧∀ r∈rows,r.length=P.cellsOf e∧q1M P B n e r
  |some (.struct fs)=>q6Y P (q1M P B n) fs.toList ds
  |_=>False
theorem q77(T:TypeId→Bool)(Ty:TypeId→List D→Prop)(Q:DataW H→Prop)(g:TypeId→List Value→Option (DataW H×List MemPlace))
  (hT:∀ t cs x,T t=true→g t cs=some x→Q x.1→cs.length=P.cellsOf t→∃ ds,RepL w cs ds∧Ty t ds) (cs:List Value) :
  ∀(fs:List Field) (off:Nat) (xs:List (DataW H×List MemPlace)),q3J P T off fs=some cs.length→(fs.mapM fun f=>g f.type ((cs.drop f.offset).take (P.cellsOf f.type)))=some xs→(∀ x∈xs,Q x.1)→∃ ds,RepL w (cs.drop off) ds∧q6Y P Ty fs ds
 |[],off,xs,hl,_,_=>by
  simp only[q3J,Option.some.injEq] at hl
  refine⟨[],⟨by simp [hl],fun j v d _ hd=>by simp at hd⟩,rfl⟩
 |f :: fs,off,xs,hl,hm,hQ=>by
  simp only[q3J] at hl
  split at hl
  case isFalse=>cases hl
  rename_i hc
  obtain⟨ho,ht⟩:=hc
  rw[List.mapM_cons] at hm
  cases hg:g f.type ((cs.drop f.offset).take (P.cellsOf f.type)) with
  |none=>rw[hg] at hm;cases hm
  |some x=>
   rw[hg] at hm
   cases hr:fs.mapM (fun f=>g f.type ((cs.drop f.offset).take (P.cellsOf f.type))) with
   |none=>rw[hr] at hm;cases hm
   |some ys=>
    rw[hr] at hm
    obtain rfl:x :: ys=xs:=Option.some.inj hm
    have hle:∀(fs:List Field) (off m:Nat),q3J P T off fs=some m→off≤m:=by
     intro fs
     induction fs with
     |nil=>intro off m h;simp only[q3J,Option.some.injEq] at h;omega
     |cons f fs ih=>
      intro off m h
      simp only[q3J] at h
      split at h
      ·have:=ih _ _ h;omega
      ·cases h
    have hb:=hle _ _ _ hl
    obtain⟨ds,h1,h2⟩:=q77 T Ty Q g hT cs fs _ ys hl hr (fun y hy=>hQ y (List.mem_cons_of_mem _ hy))
    have hlen:((cs.drop off).take (P.cellsOf f.type)).length=P.cellsOf f.type:=by
     rw[List.length_take,List.length_drop];omega
    rw[ho] at hg
    obtain⟨asq,h3,h4⟩:=hT f.type _ x ht hg (hQ x (by simp)) hlen
    refine⟨asq++ds,?_,asq,ds,rfl,by rw[h3.1];exact hlen,h4,h2⟩
    have:=h3.append h1
    rwa [←List.drop_drop,List.take_append_drop] at this
theorem q7r{bulk:DataW H→Nat}(hbk:BulkOk bulk){B:Nat}:∀(n fuel:Nat)(t:TypeId)(cs:List Value)(x:DataW H×List MemPlace),q5b P n t=true→DataW.trod enc P w 0 spare held fuel t cs=some x→bulk x.1≤B→∃ ds,RepL w cs ds∧q1M P B n t ds
 |0,_,_,_,_,h,_,_=>by simp [q5b] at h
 |_+1,0,_,_,_,_,h,_=>by simp [DataW.trod] at h
 |n+1,fuel+1,t,cs,x,hp,h,hB=>by
  simp only[q5b] at hp
  cases ht:P.underlying t with
  |none=>simp [ht] at hp
  |some d=>
   simp only[q1M,ht] at hp ⊢
   cases d with
   |bool=>
    have:∃ b,cs=[.bool b]:=by
     unfold DataW.trod at h
     simp only[ht] at h
     split at h <;> first|(exact⟨_,rfl⟩)|(simp_all;done)|(cases h;done)
    obtain⟨b,rfl⟩:=this
    exact⟨_,.one (.bool b),b,rfl⟩
   |int k=>
    have:∃ m,cs=[.int k m]∧(Lit.int k m).wf=true:=by
     unfold DataW.trod at h
     simp only[ht] at h
     split at h <;> first|(cases h;done)|skip
     all_goals(try(simp_all;done))
     all_goals(split at h <;> first|(cases h;done)|skip)
     all_goals(simp_all)
    obtain⟨m,rfl,hw⟩:=this
    exact⟨_,.one (.int k m),m,rfl,hw⟩
   |string=>
    obtain⟨s',h1,hx,hs⟩:=DataW.trod_string ht h
    subst h1
    refine⟨_,.one (.str s'),_,rfl,?_⟩
    have:=hbk.str s'.data.toList
    rw[hx] at hB
    exact Nat.le_trans this hB
   |slice e=>
    simp only[Bool.and_eq_true,decide_eq_true_eq] at hp
    rcases open_slice ht h with⟨rfl,_⟩|⟨a,len,cap,m,n',Dd,Pl,rfl,_,hlc,hcm,hm,hxx,hel⟩
    ·exact⟨_,.one (.sl0 none 0 (P.cellsOf e) (fun _=>rfl)),[],rfl,by simp,fun r hr=>by simp at hr⟩
    ·rw[hxx] at hB
     have hsl:=hbk.sl ((List.range len).map Dd) ((List.range (m - len)).map fun j=>Dd (len+j))
     have hlen':len≤B:=by
      have:=hsl.1
      rw[List.length_map,List.length_range] at this
      exact Nat.le_trans this hB
     have hpart:∀ i,i<len→bulk (Dd i)≤B:=fun i hi=>Nat.le_trans (hsl.2 _ (List.mem_map.2 ⟨i,List.mem_range.2 hi,rfl⟩)) hB
     have hml:len≤m:=by rw[hm];split <;> omega
     have q2b:∀ i,i<len→∃ ds,∃ cs',w.cells? 0 (a.add (i*P.cellsOf e)) (P.cellsOf e)=some cs'∧RepL w cs' ds∧q1M P B n e ds:=by
      intro i hi
      obtain⟨cs',h1,h2⟩:=hel i (by omega)
      obtain⟨ds,h3,h4⟩:=q7r hbk n n' e cs' _ hp.2 h2 (hpart i hi)
      exact⟨ds,cs',h1,h3,h4⟩
     obtain⟨rows,hr1,hr2⟩:=q79 len q2b
     have typed:∀ r∈rows,r.length=P.cellsOf e∧q1M P B n e r:=fun r hr=>by
      obtain⟨i,hi⟩:=List.getElem?_of_mem hr
      obtain⟨cs',h1,h3,h4⟩:=hr2 i r hi
      exact⟨by rw[h3.1,(q6B h1).1],h4⟩
     refine⟨[.sl (P.cellsOf e) rows],.one ?_,rows,rfl,by omega,typed⟩
     by_cases hz:len=0
     ·have:rows=[]:=List.eq_nil_of_length_eq_zero (by omega)
      subst this
      subst hz
      exact .sl0 (some a) cap _ (fun h=>by cases h)
     ·have h0:0<rows.length:=by omega
      obtain⟨cs0,g1,g2,_⟩:=hr2 0 rows[0] (List.getElem?_eq_getElem h0)
      obtain⟨c1,c2⟩:=q6B g1
      have hv:=c2 0 cs0[0] (List.getElem?_eq_getElem (by omega))
      simp only[Nat.zero_mul] at hv
      have hsp:a.spot=none:=by simpa [Addr.add] using World.cell?_spot hv
      have hblk:a.block<w.heap.size:=by
       unfold World.cell? at hv
       split at hv
       ·rename_i hh
        have:=(Array.getElem?_eq_some_iff.1 hh).1
        simpa [Addr.add] using this
       ·cases hv
      obtain⟨ab,ao,asq⟩:=a
      simp only at hsp hblk
      subst hsp
      have cellat:∀(i j:Nat) (r:List D) (d:D),rows[i]? = some r→r[j]? = some d→∃ v,w.cell? ⟨ab,ao+(i*P.cellsOf e+j),none⟩=some v∧RepD w (z05 w) v d:=by
       intro i j r d hi hj
       obtain⟨cs',h1,h3,_⟩:=hr2 i r hi
       have hjl:j<cs'.length:=by rw[←h3.1];exact(List.getElem?_eq_some_iff.1 hj).1
       refine⟨cs'[j],?_,h3.2 j _ d (List.getElem?_eq_getElem hjl) hj⟩
       have:=(q6B h1).2 j _ (List.getElem?_eq_getElem hjl)
       rw[add_lit,add_lit,Nat.add_assoc] at this
       exact this
      refine .sl ab ao len cap (P.cellsOf e) rows (fun i j=>(w.cell? ⟨ab,ao+(i*P.cellsOf e+j),none⟩).getD default) hr1 hlc hblk (fun r hr=>(typed r hr).1) (fun i j r d hi hj=>?_) (fun i j r d hi hj=>?_)
      ·obtain⟨v,hv,_⟩:=cellat i j r d hi hj
       rw[hv];rfl
      ·obtain⟨v,hv,hR⟩:=cellat i j r d hi hj
       rw[hv];exact hR
   |struct fs=>
    simp only[decide_eq_true_eq] at hp
    have hs:cs.length=P.cellsOf t∧∃ xs,(fs.toList.mapM fun f=>DataW.trod enc P w 0 spare held fuel f.type ((cs.drop f.offset).take (P.cellsOf f.type)))=some xs∧∀ y∈xs,bulk y.1≤B:=by
     unfold DataW.trod at h
     simp only[ht] at h
     split at h
     ·rename_i hl
      simp only[Option.map_eq_some_iff] at h
      obtain⟨xs,hx,hxe⟩:=h
      subst hxe
      exact⟨hl,xs,hx,fun y hy=>Nat.le_trans (hbk.agg _ y.1 (List.mem_map.2 ⟨y,hy,rfl⟩)) hB⟩
     ·cases h
    obtain⟨hl,xs,hx,hxb⟩:=hs
    obtain⟨ds,h1,h2⟩:=q77 (q5b P n) (q1M P B n) (fun d=>bulk d≤B) (fun t cs=>DataW.trod enc P w 0 spare held fuel t cs) (fun t cs x hp h hq _=>q7r hbk n fuel t cs x hp h hq) cs fs.toList 0 xs (by rw[hl];exact hp) hx hxb
    exact⟨ds,by simpa using h1,h2⟩
   |_=>simp at hp
theorem z24{bulk:DataW H→Nat}(hbk:BulkOk bulk){B:Nat}{n:Nat}{t:TypeId}{v:Value}{d:DataW H}{ps:List MemPlace}{r:Reach}{b0 base:Nat}(hB:bulk d≤B)(hp:q5b P n t=true)(hv:Value.okWide P w r b0 t v)(h:DataW.Trod enc P w 0 spare held t v d ps) :
  ∃ ds,q1M P B n t ds∧RepV w (z05 w) base (fun _=>none) v (argV (z9G P t) ds):=by
 obtain⟨fuel,h⟩:=h
 obtain⟨ds,h1,h2⟩:=q7r hbk n fuel t v.cells.toList _ hp h hB
 refine⟨ds,h2,?_⟩
 cases n with
 |zero=>simp [q5b] at hp
 |succ n=>
  simp only[q5b] at hp
  cases ht:P.underlying t with
  |none=>simp [ht] at hp
  |some td=>
   simp only[ht] at hp
   have ha:z9G P t=q24 td:=by simp [z9G,ht]
   cases td with
   |struct fs=>
    simp only[Value.okWide,ht] at hv
    obtain⟨cs,rfl,_,_⟩:=hv
    rw[ha]
    simp only[q24,argV,if_true]
    have hlen:ds.length=cs.size:=by simpa [Value.cells] using h1.1
    refine .agg _ _ (by simp [hlen]) (fun j u x hu hx=>?_) (fun u hu=>?_)
    ·simp only[List.getElem?_map,Option.map_eq_some_iff] at hx
     obtain⟨y,hy,rfl⟩:=hx
     exact .d _ _ _ (h1.2 j u y (by simpa [Value.cells] using hu) hy)
    ·obtain⟨j,hj⟩:=Array.getElem?_of_mem hu
     have hjl:j<ds.length:=by rw[hlen];exact(Array.getElem?_eq_some_iff.1 hj).1
     exact(h1.2 j u _ (by simpa [Value.cells] using hj) (List.getElem?_eq_getElem hjl)).oneCell
   |bool=>
    simp only[q1M,ht] at h2
    obtain⟨b,rfl⟩:=h2
    have hag:∀ cs,v≠.agg cs:=by rintro cs rfl;simp [Value.okWide,ht,Cell.okWide,Cell.ok] at hv
    rw[ha]
    exact z2t hag h1
   |int k=>
    simp only[q1M,ht] at h2
    obtain⟨m,rfl,_⟩:=h2
    have hag:∀ cs,v≠.agg cs:=by rintro cs rfl;simp [Value.okWide,ht,Cell.okWide,Cell.ok] at hv
    rw[ha]
    exact z2t hag h1
   |string=>
    simp only[q1M,ht] at h2
    obtain⟨m,rfl,_⟩:=h2
    have hag:∀ cs,v≠.agg cs:=by rintro cs rfl;simp [Value.okWide,ht,Cell.okWide,Cell.ok] at hv
    rw[ha]
    exact z2t hag h1
   |slice e=>
    simp only[q1M,ht] at h2
    obtain⟨m,rfl,_⟩:=h2
    have hag:∀ cs,v≠.agg cs:=by rintro cs rfl;simp [Value.okWide,ht,Cell.okWide,Cell.ok] at hv
    rw[ha]
    exact z2t hag h1
   |_=>simp at hp
end Go.Vm
end

section
namespace Go.Vm
open Go.Proofs
set_option maxRecDepth 100000
theorem q64{α:Type}{e:α→List D}{Q:α→Prop}:∀ rows:List (List D),(∀ r∈rows,∃ x,r=e x∧Q x)→∃ l:List α,rows=l.map e∧∀ x∈l,Q x
 |[],_=>⟨[],rfl,fun x h=>by simp at h⟩
 |r :: rows,h=>by
  obtain⟨x,h1,h2⟩:=h r (by simp)
  obtain⟨l,h3,h4⟩:=q64 rows (fun r hr=>h r (List.mem_cons_of_mem _ hr))
  exact⟨x :: l,by rw[h1,h3];rfl,fun y hy=>by
   rcases List.mem_cons.1 hy with rfl|hy
   ·exact h2
   ·exact h4 y hy⟩
theorem j1D:Tryz.prog.cellsOf 62=2:=by kernel_rfl
theorem j1F:Tryz.prog.cellsOf 50=3:=by kernel_rfl
def I64(n:Int):Prop:=-9223372036854775808≤n∧n≤9223372036854775807
theorem j2I{n:Int}(h:(Lit.int .i64 n).wf=true):I64 n:=by
 simp only[Lit.wf,Bool.and_eq_true,decide_eq_true_eq] at h
 have e1:IntKind.i64.min=-9223372036854775808:=by decide
 have e2:IntKind.i64.max=9223372036854775807:=by decide
 rw[e1,e2] at h
 exact h
theorem j1E:Tryz.prog.cellsOf 53=3:=by kernel_rfl
structure InI(x:Instr):Prop where
 op:I64 x.op
 a:I64 x.a
 b:I64 x.b
structure InS(s:Shape):Prop where
 name:(s.name.length:Int)≤9223372036854775807
 fields:I64 s.fields
structure InG(g:Glob):Prop where
 name:(g.name.length:Int)≤9223372036854775807
 arity:I64 g.arity
 len:(g.code.length:Int)≤9223372036854775807
 code:∀ x∈g.code,InI x
structure InT(t:Table):Prop where
 sl:(t.shapes.length:Int)≤9223372036854775807
 gl:(t.globals.length:Int)≤9223372036854775807
 shapes:∀ s∈t.shapes,InS s
 globals:∀ g∈t.globals,InG g
theorem InT.ok{t:Table}(h:InT t):TabOk t:=
 ⟨h.sl,h.gl,fun g hg=>(h.globals g hg).len,fun s hs=>(h.shapes s hs).name,fun g hg=>(h.globals g hg).name,fun g hg x hx=>((h.globals g hg).code x hx).a.2⟩
theorem z5Q:q5b Tryz.prog 6 25=true:=by kernel_rfl
end Go.Vm
end

section
namespace Go.Vm
open Go.Proofs Go.Proofs.YtjpnaaebfdnccaaGreatDoor
set_option maxRecDepth 100000
theorem q7j{H:Type}{d:DataW H}{l:List (DataW H)}(h:d∈l):Rows.uptoBulk d≤Rows.uptoBulkAll l:=by
  induction l with
  |nil=>cases h
  |cons x r ih=>
    simp only[Rows.uptoBulkAll]
    cases List.mem_cons.1 h with
    |inl e=>subst e;omega
    |inr e=>have:=ih e;omega
theorem z9A{H:Type}(d:DataW H):1≤Rows.uptoBulk d:=by
  cases d with
  |lit l=>cases l <;> simp [Rows.uptoBulk]
  |nil=>simp [Rows.uptoBulk]
  |ptr d=>simp [Rows.uptoBulk]
  |slice elems spare=>simp [Rows.uptoBulk]
  |agg parts=>simp [Rows.uptoBulk]
  |iface t d=>simp [Rows.uptoBulk]
  |map entries=>simp [Rows.uptoBulk]
  |held h=>simp [Rows.uptoBulk]
theorem z23{H:Type}(l:List (DataW H)):l.length≤Rows.uptoBulkAll l:=by
  induction l with
  |nil=>simp [Rows.uptoBulkAll]
  |cons x r ih=>have:=z9A x;simp only[Rows.uptoBulkAll,List.length_cons];omega
theorem bulk_ok{H:Type}:BulkOk (Rows.uptoBulk (H:=H)):=
  ⟨fun l=>by simp only[Rows.uptoBulk];omega,fun elems spare=>⟨by have:=z23 elems;simp only[Rows.uptoBulk];omega,fun e he=>by have:=q7j he;simp only[Rows.uptoBulk];omega⟩,
   fun parts e he=>by have:=q7j he;simp only[Rows.uptoBulk];omega⟩
structure SmN(t:Table):Prop where
  sm:Sm t
  sn:∀ s∈t.shapes,s.name.length≤1048576
  gn:∀ g∈t.globals,g.name.length≤1048576
theorem q3V{n:Nat}{ds:List D}(h:q1M Tryz.prog 1048576 (n+1) 3 ds):∃ m,ds=[.int .i64 m]∧I64 m:=by
  simp only[q1M,Tryz.underlying3] at h
  obtain⟨m,h1,h2⟩:=h
  exact⟨m,h1,j2I h2⟩
theorem q8I{n:Nat}{ds:List D}(h:q1M Tryz.prog 1048576 (n+1) 9 ds):∃ s,ds=[.str s]∧s.length≤1048576:=by
  simp only[q1M,Tryz.underlying9] at h
  exact h
theorem q92{n:Nat}{ds:List D}(h:q1M Tryz.prog 1048576 (n+2) 53 ds):∃ x,ds=q0C x∧InI x:=by
  rw[q1M] at h
  simp only[Tryz.underlying53,q6Y] at h
  obtain⟨a,r,rfl,_,h1,b,r2,rfl,_,h2,c,r3,rfl,_,h3,rfl⟩:=h
  obtain⟨x,rfl,hx⟩:=q3V h1
  obtain⟨y,rfl,hy⟩:=q3V h2
  obtain⟨z,rfl,hz⟩:=q3V h3
  exact⟨⟨x,y,z⟩,rfl,⟨hx,hy,hz⟩⟩
theorem q91{n:Nat}{ds:List D}(h:q1M Tryz.prog 1048576 (n+2) 62 ds):∃ x,ds=q0g x∧InS x∧x.name.length≤1048576:=by
  rw[q1M] at h
  simp only[Tryz.underlying62,q6Y] at h
  obtain⟨a,r,rfl,_,h1,b,r2,rfl,_,h2,rfl⟩:=h
  obtain⟨x,rfl,hx⟩:=q8I h1
  obtain⟨y,rfl,hy⟩:=q3V h2
  exact⟨⟨x,y⟩,rfl,⟨by simp only;omega,hy⟩,hx⟩
theorem z1i{n:Nat}{ds:List D}(h:q1M Tryz.prog 1048576 (n+3) 48 ds):∃ l:List Instr,ds=[.sl 3 (l.map q0C)]∧l.length≤1048576∧∀ x∈l,InI x:=by
  rw[q1M] at h
  simp only[Tryz.underlying48,j1E] at h
  obtain⟨rows,rfl,hl,hr⟩:=h
  obtain⟨l,rfl,h2⟩:=q64 (e:=q0C) (Q:=InI) rows (fun r h=>q92 (hr r h).2)
  rw[List.length_map] at hl
  exact⟨l,rfl,hl,h2⟩
theorem z1h{n:Nat}{ds:List D}(h:q1M Tryz.prog 1048576 (n+4) 50 ds):∃ x,ds=q0G x∧InG x∧x.name.length≤1048576∧x.code.length≤1048576:=by
  rw[q1M] at h
  simp only[Tryz.underlying50,q6Y] at h
  obtain⟨a,r,rfl,_,h1,b,r2,rfl,_,h2,c,r3,rfl,_,h3,rfl⟩:=h
  obtain⟨x,rfl,hx⟩:=q8I h1
  obtain⟨y,rfl,hy⟩:=q3V h2
  obtain⟨z,rfl,hz,hz2⟩:=z1i h3
  exact⟨⟨x,y,z⟩,rfl,⟨by simp only;omega,hy,by simp only;omega,hz2⟩,hx,hz⟩
theorem q6F{n:Nat}{ds:List D}(h:q1M Tryz.prog 1048576 (n+6) 25 ds):∃ t:Table,ds=[.sl 2 (t.shapes.map q0g),.sl 3 (t.globals.map q0G)]∧InT t∧SmN t:=by
  rw[q1M] at h
  simp only[Tryz.underlying25,q6Y] at h
  obtain⟨a,r,rfl,_,h1,b,r2,rfl,_,h2,rfl⟩:=h
  rw[q1M] at h1 h2
  simp only[Tryz.underlying22,Tryz.underlying23,j1D,j1F] at h1 h2
  obtain⟨rows,rfl,hl,hr⟩:=h1
  obtain⟨rows2,rfl,hl2,hr2⟩:=h2
  obtain⟨l,rfl,h3⟩:=q64 (e:=q0g) (Q:=fun x=>InS x∧x.name.length≤1048576) rows (fun r h=>q91 (hr r h).2)
  obtain⟨l2,rfl,h4⟩:=q64 (e:=q0G) (Q:=fun x=>InG x∧x.name.length≤1048576∧x.code.length≤1048576) rows2 (fun r h=>z1h (hr2 r h).2)
  rw[List.length_map] at hl hl2
  exact⟨⟨l,l2⟩,rfl,⟨by simp only;omega,by simp only;omega,fun s hs=>(h3 s hs).1,fun g hg=>(h4 g hg).1⟩,⟨⟨hl,hl2,fun g hg=>(h4 g hg).2.2⟩,fun s hs=>(h3 s hs).2,fun g hg=>(h4 g hg).2.1⟩⟩
theorem z77(x:Int):IntKind.i64.wrap x≤9223372036854775807:=by
  unfold IntKind.wrap
  have e1:(2:Int) ^ IntKind.i64.bits=18446744073709551616:=by decide
  have e2:(2:Int) ^ (IntKind.i64.bits - 1)=9223372036854775808:=by decide
  simp only[e1,e2]
  have:IntKind.i64.signed=true:=rfl
  simp only[this,Bool.true_and,decide_eq_true_eq]
  split <;> omega
theorem z8U{x:Instr}(h:InI x):(q4N x).a≤9223372036854775807:=by
  unfold q4N
  split
  · show bits .xor .i64 x.a 1≤_
    unfold bits
    exact z77 _
  · exact h.a.2
theorem j0m{t:Table}(h:InT t):TabOk (q3W t):=by
  have key:∀ g∈(q3W t).globals,(∃ a∈t.globals,g.name=a.name)∧∃ a∈t.globals,g.code=a.code.map q4N:=by
    intro g hg
    simp only[q3W] at hg
    obtain⟨q,hq,rfl⟩:=List.mem_map.1 hg
    unfold q8x at hq
    split at hq
    · simp at hq
    · rename_i hne
      rcases List.mem_or_eq_of_mem_set hq with hq|rfl
      · have:q.2∈(numG 2 (t.globals.map q4m)).map (·.2):=List.mem_map_of_mem hq
        rw[q9n] at this
        obtain⟨a,ha,he⟩:=List.mem_map.1 this
        rw[←he]
        exact⟨⟨a,ha,rfl⟩,⟨a,ha,rfl⟩⟩
      · have h1:=z1O t hne
        obtain⟨m,hm,_⟩:=z1H t hne
        refine⟨⟨_,List.mem_of_getElem? (q1o h1),rfl⟩,⟨nth t.globals (m:Int),List.mem_of_getElem? (q1o (by omega)),?_⟩⟩
        simp only[z1k]
        rw[show((t.globals.length:Int) - 1)=(m:Int) by omega]
  refine⟨h.sl,by simp only[q3W,List.length_map,q93];exact h.gl,fun g hg=>?_,fun s hs=>(h.shapes s hs).name,fun g hg=>?_,fun g hg x hx=>?_⟩
  · obtain⟨_,a,ha,he⟩:=key g hg
    rw[he,List.length_map];exact(h.globals a ha).len
  · obtain⟨⟨a,ha,he⟩,_⟩:=key g hg
    rw[he];exact(h.globals a ha).name
  · obtain⟨_,a,ha,he⟩:=key g hg
    rw[he] at hx
    obtain⟨y,hy,rfl⟩:=List.mem_map.1 hx
    exact z8U ((h.globals a ha).code y hy)
end Go.Vm
end

section
namespace Go.Vm
open Go.ChangeShapes Go.WideShapes Go.ChangeAt Go.RowKit Go.Proofs Go.Proofs.YtjpnaaebfdnccaaGreatDoor
set_option linter.unusedVariables false
set_option maxRecDepth 100000
theorem ownZ:ownKnob Tryz.prog.godebug=none:=by kernel_rfl
theorem z2O:laidOutB Tryz.prog=true:=by kernel_rfl
def z1J:List (String×DataW Unit):=[("math/bits.deBruijn32tab",Rows.laid_math_bits_deBruijn32tab),("math/bits.deBruijn64tab",Rows.laid_math_bits_deBruijn64tab),("internal/strconv.uint64pow10",Rows.laid_internal_strconv_uint64pow10),("unicode/utf8.acceptRanges",Rows.laid_unicode_utf8_acceptRanges),("strconv.ErrRange",Rows.laid_strconv_ErrRange),("strconv.ErrSyntax",Rows.laid_strconv_ErrSyntax),("unicode/utf8.first",Rows.laid_unicode_utf8_first)]
def j33(P:Program)(w:World)(n:String)(d:DataW Unit):Prop:=
 ∃ g t cs fuel p,P.globalNamed n=some g∧(P.globals[g]?).map (·.type)=some t∧w.var? P n=some cs∧DataW.trod (fun _=>()) P w 0 (fun _=>true) false fuel t cs.toList=some (d,p)
theorem z2x{P:Program}{w:World}:∀ {l:List (String×DataW Unit)}{ps:List MemPlace},DataW.LaidVars P w l ps→∀ n d,(n,d)∈l→j33 P w n d
 |[],_,_,_,_,hm=>by cases hm
 |(n',d') :: r,ps,h,n,d,hm=>by
  obtain⟨g,t,cs,fuel,p,q,h1,h2,h3,h4,h5,_⟩:=h
  rcases List.mem_cons.1 hm with e|e
  ·cases e
   exact⟨g,t,cs,fuel,p,h1,h2,h3,h4⟩
  ·exact z2x h5 n d e
theorem q97{P:Program}{W:World}{name:String}{k:IntKind}{zs:List Int}{g:Nat}{t e:TypeId}{n:Nat}
  (hg:P.globalNamed name=some g) (hty:(P.globals[g]?).map (·.type)=some t) (ht:P.underlying t=some (.array n e)) (he:P.underlying e=some (.int k)) (hce:P.cellsOf e=1) (hct:P.cellsOf t=n)
  (h:j33 P W name (Lib.tabData k zs)):Lib.TabIs P W name k zs:=by
 obtain⟨g',t',cs,fuel,p,hg',ht',hvar,hd⟩:=h
 obtain rfl:=Option.some.inj (hg.symm.trans hg')
 obtain rfl:=Option.some.inj (hty.symm.trans ht')
 unfold Lib.TabIs
 rw[hvar,←Lib.cells_of_tab ht he hce hct hd]
theorem gP10T:(Tryz.prog.globals[0]?).map (·.type)=some 167:=by kernel_rfl
theorem j0K:(Rows.laid_internal_strconv_uint64pow10:DataW Unit)=Lib.tabData .u64 Lib.pow10Tab:=by kernel_rfl
theorem z1S{W:World}{name:String}{k:IntKind}{zs:List Int}{g:Nat}(h:Lib.TabIs Tryz.prog W name k zs)(hg:Tryz.prog.globalNamed name=some g) :
  RepD W (z05 W) (.pointer (some ⟨g,0,none⟩)) (.ptr (zs.map fun z=>.int k z))∧∃ cs t fz,W.heap[g]? = some (.cells cs t fz)∧cs.size=(zs.map fun z=>D.int k z).length:=by
 have hb:∃ cs t fz,W.heap[g]? = some (.cells cs t fz)∧cs.size=(zs.map fun z=>D.int k z).length:=by
  unfold Lib.TabIs World.var? at h
  rw[hg] at h
  replace h:(match W.heap[g]? with|some (.cells cs _ _)=>some cs|_=>none)=some (zs.map fun z=>Value.int k z).toArray:=h
  split at h
  ·rename_i cs t fz hh
   obtain rfl:=Option.some.inj h
   exact⟨_,t,fz,hh,by simp⟩
  ·cases h
 refine⟨?_,hb⟩
 obtain⟨cs,t,fz,hh,hsz⟩:=hb
 refine .ptr g 0 _ (fun j=>.int k (zs.getD j 0)) ?_ (fun j d hd=>?_) (fun j d hd=>?_)
 ·show g<W.heap.size
  rcases Nat.lt_or_ge g W.heap.size with h'|h'
  ·exact h'
  ·simp [Array.getElem?_eq_none h'] at hh
 ·have hj:j<zs.length:=by
   rcases Nat.lt_or_ge j zs.length with h'|h'
   ·exact h'
   ·rw[List.getElem?_eq_none (by simpa using h')] at hd;cases hd
  rw[Nat.zero_add]
  exact h.cell hg j hj
 ·rw[List.getElem?_map,Option.map_eq_some_iff] at hd
  obtain⟨z,hz,rfl⟩:=hd
  have:zs.getD j 0=z:=by rw[List.getD_eq_getElem?_getD,hz];rfl
  rw[this]
  exact .int k z
theorem q9z{W:World}(h:laidMetH Tryz.prog z1J W):GlobRel W (z05 W) GT:=by
 have h':laidMet Tryz.prog z1J W:=h
 obtain⟨ps,hv,_⟩:laidMet Tryz.prog z1J W:=h'
 have h0:=z2x hv "internal/strconv.uint64pow10" Rows.laid_internal_strconv_uint64pow10 (by simp [z1J])
 rw[j0K] at h0
 have t0:=q97 gP10 gP10T Tryz.underlying167 Tryz.underlying105 (by kernel_rfl) (by kernel_rfl) h0
 intro g cells hg
 match g,hg with
 |0,hg=>
  obtain rfl:=Option.some.inj hg
  rw[if_neg (show ¬ q7a (Lib.pow10Tab.map fun z=>D.int .u64 z)=true from fun e=>Bool.noConfusion (show false=true from e))]
  exact z1S t0 gP10
 |n+1,hg=>cases hg
def j2L:Nat→DataW Unit→List Value
 |_,.lit (.int k n)=>[.int k n]
 |n+1,.agg ps=>ps.flatMap (j2L n)
 |_,_=>[]
def lay(g:Nat)(d:DataW Unit)(h:Array Obj):Array Obj:=h.modify g fun
 |.cells _ t frozen=>.cells (j2L 3 d).toArray t frozen
 |o=>o
def z9L(g n:Nat)(h:Array Obj):Array Obj:=h.modify g fun
 |.cells _ t frozen=>.cells #[.iface 193 (.pointer (some ⟨n,0,none⟩))] t frozen
 |o=>o
def pushE(h:Array Obj):Array Obj:=((z9L 5 h.size (z9L 4 (h.size+1) h)).push (.cells #[.string ⟨#[118,97,108,117,101,32,111,117,116,32,111,102,32,114,97,110,103,101]⟩] 195 (0,0))).push (.cells #[.string ⟨#[105,110,118,97,108,105,100,32,115,121,110,116,97,120]⟩] 195 (0,0))
noncomputable def q6p(os:Os):World:=
 { World.holding Tryz.prog os ⟨#[],#[],[]⟩ with heap:=pushE (lay 7 Rows.laid_math_bits_deBruijn64tab (lay 6 Rows.laid_math_bits_deBruijn32tab (lay 3 Rows.laid_unicode_utf8_acceptRanges (lay 2 Rows.laid_unicode_utf8_first (lay 0 Rows.laid_internal_strconv_uint64pow10 (World.holding Tryz.prog os ⟨#[],#[],[]⟩).heap))))) }
theorem z6r(os:Os)(args:Array Value):laidMetH Tryz.prog z1J ((q6p os).forCall (fun _ _=>0) ⟨#[],args,[]⟩).memory:=
 laidMetH_of_parts (show laidMet Tryz.prog z1J _ from(LaidIn.of_run (List.range 20) 8 (by kernel_rfl) (by kernel_rfl) (by kernel_rfl) (by kernel_rfl)).met) (by kernel_rfl)
end Go.Vm
end

section
namespace Go.Proofs.YtjpnaaebfdnccaaGreatDoor.codeBytes
open Go.ChangeShapes Go.WideShapes Go.ChangeAt Go.RowKit Go.Vm Go.ChangeMaps
set_option linter.unusedVariables false
theorem z3K{H:Type}{enc:TypeId×Value→H}{P:Program}{f:Func}{s:ChangeSpec}{apart fresh handsOn again:Bool}{W W':World}{args:Array Value}{v:Value}{ds gs:List (DataW H)}{before:List MemPlace}
    (hW:DataW.Whole enc P f.params.toList s.vars apart W args.toList ds gs before) (hb:Below W.heap.size W W')
    (hres:∀(b:Nat) (sp:Nat→Bool) (hd:Bool),DataW.TrodAll enc P W' b sp hd f.resultTypes.toList (v.resultList f.resultTypes.size) (s.fn H (ds++gs)).results [])
    (hargs:∀ sp:Nat→Bool,(∀ p∈before,sp p.block=true)→DataW.TrodAll enc P W' 0 sp true f.params.toList args.toList (s.fn H (ds++gs)).args before)
    (hvars:∀ sp:Nat→Bool,DataW.TrodVars enc P W' sp s.vars (s.fn H (ds++gs)).vars [])
    (hok:∀(j:Nat) (t:TypeId) (r:Value),f.resultTypes[j]? = some t→(v.resultList f.resultTypes.size)[j]? = some r→Value.okWide P W' .any 0 t r) :
    s.post enc P f apart fresh handsOn again W args v W':=by
  have hlt:=hW.lt
  have hsp:∀ p∈before,(fun b=>decide (b<W.heap.size)) p.block=true:=fun p hp=>decide_eq_true (hlt p hp)
  have all:=trodAll_append (hargs (fun _=>true) (fun _ _=>rfl)) (hres 0 (fun _=>true) true)
  rw[List.nil_append] at all
  obtain⟨_,_,_,_,_,hz,hn⟩:=id hW
  refine⟨ds,gs,before,[],before,[],hW,hres _ _ _,hargs _ hsp,hvars _,hb.frame _,fun _=>⟨hok,_,_,before,⟨before,[],all,hvars _,by simp,fun b off hp=>?_,hn⟩,fun p hp _=>hp⟩⟩
  rw[hb.frozen (hlt _ hp)]
  exact hz b off hp
theorem bulk2{H:Type}{a b:DataW H}(h:Rows.uptoSmall H ([a,b]++[])=true):Rows.uptoBulk a≤1048576∧Rows.uptoBulk b≤1048576:=by
  have h:=of_decide_eq_true h
  simp only[List.append_nil,Rows.uptoBulkAll,Nat.add_zero] at h
  omega
theorem bulk_ok{H:Type}:BulkOk (Rows.uptoBulk (H:=H)):=
  ⟨fun l=>by simp only[Rows.uptoBulk];omega,fun elems spare=>⟨by have:=z23 elems;simp only[Rows.uptoBulk];omega,fun e he=>by have:=q7j he;simp only[Rows.uptoBulk];omega⟩,
   fun parts e he=>by have:=q7j he;simp only[Rows.uptoBulk];omega⟩
set_option maxRecDepth 100000 in
theorem contract(H:Type)(enc:TypeId×Value→H)(W:World)(base:Nat)(args:Array Value)(ds gs:List (DataW H))(before:List MemPlace)
    (hval:∀(j:Nat) t v,Tryz.f6.params[j]? = some t→args[j]? = some v→Value.okWide Tryz.prog W .any base t v)
    (hW:DataW.Whole enc Tryz.prog Tryz.f6.params.toList Rows.codeBytesSpec.vars false W args.toList ds gs before) (hk:Rows.uptoSmall H (ds++gs)=true) (hL:laidMetH Tryz.prog z1J W) :
    Calls Tryz.prog 6 args W fun e W'=>∃ v,e=.returned v∧Rows.codeBytesSpec.post enc Tryz.prog Tryz.f6 false true false false W args v W':=by
  have hW':=hW
  obtain⟨p,q,hA0,hV,rfl,hfz,hnd⟩:=hW
  have hA:DataW.TrodAll enc Tryz.prog W 0 (fun _=>true) true Tryz.f6.params.toList args.toList ds p:=hA0
  rw[Tryz.params6] at hA hval
  obtain⟨v0,vs0,d0,ds0,p0,q0,hargs,rfl,rfl,h0,r0⟩:=trodAll_cons hA
  obtain⟨v1,vs1,d1,ds1,p1,q1,rfl,rfl,rfl,h1,r1⟩:=trodAll_cons r0
  obtain⟨rfl,rfl,rfl⟩:=trodAll_nil r1
  obtain rfl:args = #[v0,v1]:=by cases args;simp_all
  obtain⟨rfl,rfl⟩:=trodVars_none hV
  clear hA0
  simp only[List.append_nil] at hW'
  obtain⟨b0,b1⟩:=bulk2 hk
  obtain⟨e0,ht0,hr0⟩:=z24 bulk_ok b0 z5Q (hval 0 25 v0 rfl rfl) h0 (base:=W.heap.size)
  obtain⟨e1,ht1,hr1⟩:=z24 bulk_ok b1 z5Q (hval 1 25 v1 rfl rfl) h1 (base:=W.heap.size)
  obtain⟨t,rfl,hin,hsm⟩:=q6F (n:=0) ht0
  obtain⟨o,rfl,hio,hso⟩:=q6F (n:=0) ht1
  have hag:z9G Tryz.prog 25=true:=by kernel_rfl
  rw[hag] at hr0 hr1
  have hcall:=(z6p t o hsm.sm hin.ok hio.ok hso.sm.sh (j0m hin)).2 W (z05 W) #[v0,v1] (fun b h=>h) (q9z hL) ⟨rfl,fun j v x hv hx=>by
    match j,hv,hx with
    |0,hv,hx=>simp at hv hx;subst hv;subst hx;exact hr0
    |1,hv,hx=>simp at hv hx;subst hv;subst hx;exact hr1
    |j+2,hv,hx=>simp at hv⟩
  refine hcall.mono fun e W' ⟨v,F',σ',he,hb,_,hR,_⟩=>?_
  have hv:=hR.bool_inv
  subst hv
  subst he
  have hlt:∀ x∈p0++p1,x.block<W.heap.size:=fun x hx=>by simpa using hW'.lt x (by simpa using hx)
  refine⟨_,rfl,z3K hW' hb (fun _ _ _=>(trodAll_cons_mk (shut_bool Tryz.underlying4 _) trodAll_mk0))
    (fun sp hsp=>?_) (fun _=>rfl) (ok_one (by kernel_rfl) rfl (okWide_bool_mk Tryz.underlying4 _))⟩
  have k0:=WideElems.Trod_stays z2O (by kernel_rfl) (of_decide_eq_true (by kernel_rfl)) h0 (fun x hx=>hb.same (hlt x (by simp [hx]))) (fun x hx=>hsp x (by simp [hx]))
  have k1:=WideElems.Trod_stays z2O (by kernel_rfl) (of_decide_eq_true (by kernel_rfl)) h1 (fun x hx=>hb.same (hlt x (by simp [hx]))) (fun x hx=>hsp x (by simp [hx]))
  exact trodAll_cons_mk k0 (trodAll_mk1 k1)
def wargs:Array Value:=#[.agg #[.slice none 0 0,.slice none 0 0],.agg #[.slice none 0 0,.slice none 0 0]]
theorem reads(os:Os){H:Type}(enc:TypeId×Value→H):∃ places,DataW.whole enc Tryz.prog ((q6p os).forCall (fun _ _=>0) ⟨#[],wargs,[]⟩).memory Tryz.f6.params.toList Rows.codeBytesSpec.vars false wargs.toList 8=some ([.agg [.nil,.nil],.agg [.nil,.nil]],[],places):=
  ⟨[],by kernel_rfl⟩
set_option maxRecDepth 100000 in
theorem liftedUpto(os:Os)(started:os.Started)(H:Type)(enc:TypeId×Value→H)(F:Stop.Interp) :
    ReturnsInHanded {} Tryz.checked os 6 .any ((Rows.OpenSpec.upto Rows.codeBytesSpec).preRow enc Tryz.prog Tryz.f6 Rows.codeBytesUptoRow.domain false Rows.codeBytesUptoRow.laid) (((Rows.OpenSpec.upto Rows.codeBytesSpec).at F).post enc Tryz.prog Tryz.f6 false true false false):=by
  obtain⟨places,hx⟩:=reads os enc
  refine returnsInHanded_of_row (C:=Tryz.checked) (s:=Rows.OpenSpec.upto Rows.codeBytesSpec) ownZ started (by kernel_rfl) Tryz.func6
    (witness_row_at (enc:=enc) (C:=Tryz.checked) false (q6p os) wargs rfl (by kernel_rfl) (by kernel_rfl) (by kernel_rfl)
      (OpenSpec.preRow_of_cond 8 hx (by kernel_rfl) (fun k hk=>by cases hk;kernel_rfl) (by kernel_rfl) (z6r os wargs))) ?_
  intro W base args ds gs before hval hW _ hcond _ hL _ _
  exact contract H enc W base args ds gs before hval hW (hcond _ rfl) hL
theorem saidUpto:Rows.CodeBytesUptoSaid:=
  OpenClaim.holds_of_cond 6 Tryz.f6 rfl rfl rfl rfl rfl rfl rfl ⟨rfl,rfl,rfl,rfl,rfl⟩ rfl rfl rfl rfl rfl (by kernel_rfl) Tryz.func6 (by kernel_rfl)
    (of_decide_eq_true (by kernel_rfl)) (by unfold Func.isWrapper;first|(rw[if_pos (by decide +kernel)];kernel_rfl)|(rw[if_neg (by decide +kernel)];exact⟨rfl,rfl⟩))
    (fun os started H enc _ F=>by rw[OpenClaim.pre_eq_preRow];exact liftedUpto os started H enc F)
theorem plain(f:FuncId)(fn:Func)(hf:Tryz.pinned.checked.prog.funcNamed "sloth/slothlaw17.CodeBytes" = some f) (hfn:Tryz.pinned.checked.prog.funcs[f]? = some fn) :
    true=Tryz.pinned.checked.prog.looks []∧∀(j:Nat) t,fn.params[j]? = some t→Tryz.pinned.checked.prog.wantsStandIn t=false:=by
  obtain rfl:f=6:=Option.some.inj ((show Tryz.prog.funcNamed "sloth/slothlaw17.CodeBytes" = some 6 by kernel_rfl).symm.trans hf) |>.symm
  obtain rfl:fn=Tryz.f6:=(Option.some.inj (Tryz.func6.symm.trans hfn)).symm
  refine⟨by kernel_rfl,fun j t ht=>?_⟩
  rw[Tryz.params6] at ht
  have h25:Tryz.prog.wantsStandIn 25=false:=by kernel_rfl
  match j,ht with
  |0,ht=>simp at ht;subst ht;exact h25
  |1,ht=>simp at ht;subst ht;exact h25
  |j+2,ht=>simp at ht
theorem cardUpto:Rows.CodeBytesUptoCardSaid:=
  Claim7.holds_tied_plain_at .later [] _ _ _ _ saidUpto (fun _ h=>by cases h) (by kernel_rfl) (fun _ h=>by cases h) codeBytesUpto_row_tie rfl ⟨rfl,rfl⟩ (by kernel_rfl) rfl plain (by kernel_rfl)
#print axioms cardUpto
end Go.Proofs.YtjpnaaebfdnccaaGreatDoor.codeBytes
end
