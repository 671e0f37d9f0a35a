/-
  Parts of the proof: An append does what the abstract machine says. An append does what the abstract machine says: the operation itself. A call that writes does what the machine says. A call that writes, as an operation of a region. Which parts of an expression are worked out, and under which conditions. The operations of a piece of a region, one by one; what is checked of them. What holds while a piece of a region is carried out. One operation of a piece is carried out. A piece of a region: what is checked of it, and the trace of the memory that it makes. A piece of a region that passed the check does what the machine says. A piece of a region, in any order that its edges allow. Regions: in the order of the text, or in any order that the edges allow. A block that only one cell leads to, becomes data (frzS of VmJ). Pieces whose operations have one guard, and memory that becomes data ahead of a piece. Drawn regions whose pieces overlap: what may be worked out late may be worked out in the next pieces too. Code that passed the check does what the machine says. Conditions: none.
-/
import Derived.Test.YtlabpphbiglofaaGreatDoorLatticeAnswersUptoCardSaidA
import Derived.Orders
import Derived.Scope
set_option linter.unusedVariables false
set_option linter.unusedSimpArgs false

section
namespace Go.Vm
open Go.RowKit
variable {P:Program}{w w':World}{F F':Nat→Prop}{X:Nat→Nat→Prop}{base nx:Nat}{σ σ':Nat→Option Loc}{K:Cx}{s:S}{a:Act}{o:Oper}{env:Env}{H:List (Nat×Blk)}
theorem q3I{t ty e:TypeId}{i:TypeInfo}(ht:P.underlying t=some (.slice e))(hi:P.info? e=some i)(hs:Option Addr)(len cap:Nat)(hle:len≤cap)(ad:Option Addr)(c:Nat) :
  (Builtin.append_ #[t,t] ty #[.slice hs len cap,.slice ad 0 c]).run P w=.ok (.slice hs len cap) w:=by
 have hf:(Builtin.firstCells i.size 0 (.slice ad 0 c)).run P w=.ok #[] w:=by
  cases ad <;> simp [Builtin.firstCells,loadCells,loadCellsFrom]
 cases hs <;> simp [Builtin.append_,run_underlying ht,q0Y hi,Builtin.lenOf,hle,hf,storeCells]
theorem q1z(p:Nat→Bool)(blk:Blk):(blk.forget p).entries=blk.entries.map fun es=>es.map fun q=>(q.1,q.2.forget p):=by
 cases blk <;> rfl
theorem q76(ob:Obj)(hb:base≤w.heap.size):Frame X base w (w.drew.alloc ob):=
 ⟨rfl,rfl,rfl,by simp,fun k hk _=>Below.heap_alloc w.drew ob k (by simp;omega)⟩
theorem z5E(hH:HeapRel w F X base σ nx H)(hb:base≤w.heap.size){id:Nat}(hid:id<nx){blk':Blk}{k e:Nat}{cs:Array Value}{T:TypeId}(hent:blk'.entries=none)(hk:blk'.k=k)(hn:blk'.n≤e)(hsz:cs.size=e*k)
  (hrow:∀ i row,blk'.row? i=some row→row.length=k∧∀ j x,row[j]? = some x→∃ v,cs[i*k+j]? = some v∧v.oneCell'=true∧RepV w F base σ v x) :
  (∀ v x,RepV w F base σ v x→RepV (w.drew.alloc (.cells cs T)) F base (ext σ id ⟨w.heap.size,k,e⟩) v (x.forget (·== id)))∧
  HeapRel (w.drew.alloc (.cells cs T)) F X base (ext σ id ⟨w.heap.size,k,e⟩) nx (forgetH (·== id) (put H id blk')):=by
 have hF:∀ b,F b→F b∧(w.drew.alloc (.cells cs T)).heap[b]? = w.heap[b]?:=fun b h=>⟨h,Below.heap_alloc w.drew _ b (hH.fro b h)⟩
 have hσ:∀ b l,σ b=some l→(b==id)=false→ext σ id ⟨w.heap.size,k,e⟩ b=some l:=fun b l h hne=>by
  unfold ext
  rw[if_neg (by simpa using hne)]
  exact h
 have hval:∀ v x,RepV w F base σ v x→RepV (w.drew.alloc (.cells cs T)) F base (ext σ id ⟨w.heap.size,k,e⟩) v (x.forget (·== id)):=fun v x h=>h.forget hF hσ
 have hval1:∀ v x,RepV w F base σ v x→RepV (w.drew.alloc (.cells cs T)) F base (ext σ id ⟨w.heap.size,k,e⟩) v (x.drop1 (·== id)):=fun v x h=>h.drop1 hF hσ
 have blkf:∀(blk:Blk),(blk.forget (·== id)).k=blk.k∧(blk.forget (·== id)).n=blk.n∧∀ i row,(blk.forget (·== id)).row? i=some row→∃ r0,blk.row? i=some r0∧r0.length=row.length∧
   ∀(j:Nat) (x:V),row[j]? = some x→∃ y,r0[j]? = some y∧∀ v,RepV w F base σ v y→RepV (w.drew.alloc (.cells cs T)) F base (ext σ id ⟨w.heap.size,k,e⟩) v x:=by
  intro blk
  cases blk with
  |dat c k' rs=>
   refine⟨rfl,rfl,fun i row hr=>⟨row,hr,rfl,fun j x hx=>⟨x,hx,fun v h=>?_⟩⟩⟩
   simp only[Blk.forget,Blk.row?,Option.map_eq_some_iff] at hr
   obtain⟨dr,hdr,rfl⟩:=hr
   simp only[List.getElem?_map,Option.map_eq_some_iff] at hx
   obtain⟨d,hd,rfl⟩:=hx
   obtain⟨c',hc'⟩:=z1M c d
   rw[hc'] at h ⊢
   exact hval1 v _ h
  |mix k' rs=>
   refine⟨rfl,by simp [Blk.forget,Blk.n],fun i row hr=>?_⟩
   simp only[Blk.forget,Blk.row?,List.getElem?_map,Option.map_eq_some_iff] at hr
   obtain⟨r0,hr0,rfl⟩:=hr
   refine⟨r0,hr0,by simp,fun j x hx=>?_⟩
   simp only[List.getElem?_map,Option.map_eq_some_iff] at hx
   obtain⟨y,hy,rfl⟩:=hx
   exact⟨y,hy,fun v h=>hval1 v y h⟩
  |map es=>exact⟨rfl,by simp [Blk.forget,Blk.n,q2A (V.forget (·== id))],fun i row hr=>by simp [Blk.forget,Blk.row?] at hr⟩
 have look_f:∀(L:List (Nat×Blk)) (b:Nat),look (forgetH (·== id) L) b=(look L b).map (Blk.forget (·== id)):=by
  intro L b
  induction L with
  |nil=>rfl
  |cons p L ih=>
   obtain⟨q,x⟩:=p
   simp only[forgetH,List.map_cons,look] at ih ⊢
   split
   ·rfl
   ·exact ih
 refine⟨hval,⟨fun b blk0 hb0=>?_,?_,fun b l hl=>?_,fun b h=>by have:=hH.fro b h;simp;omega⟩⟩
 ·rw[look_f,q0I] at hb0
  split at hb0
  ·rename_i hbb
   subst hbb
   simp only[Option.map_some,Option.some.injEq] at hb0
   subst hb0
   obtain⟨f1,f2,f3⟩:=blkf blk'
   refine .inr <| .inr ⟨⟨w.heap.size,k,e⟩,cs,T,q2D,q1O w.drew _,by rw[f1,hk],by rw[f2];exact hn,hsz,fun i row hr=>?_,by rw[q1z,hent];rfl⟩
   obtain⟨r0,g1,g2,g3⟩:=f3 i row hr
   obtain⟨q1,q2⟩:=hrow i r0 g1
   refine⟨by rw[f1,hk];omega,fun j x hx=>?_⟩
   obtain⟨y,hy,hyx⟩:=g3 j x hx
   obtain⟨v,v1,v2,v3⟩:=q2 j y hy
   exact⟨v,v1,v2,hyx v v3⟩
  ·rename_i hbb
   simp only[Option.map_eq_some_iff] at hb0
   obtain⟨blk1,hb1,rfl⟩:=hb0
   obtain⟨f1,f2,f3⟩:=blkf blk1
   rcases hH.blk b blk1 hb1 with⟨h1,h2⟩|⟨l,es0,ck0,ds0,rfl,k1,k2,k3,k4,k5⟩|⟨l,cs0,T0,k1,k2,k3,k4,k5,k6,k7⟩
   ·refine .inl ⟨by rw[f2];exact h1,?_⟩
    unfold ext
    rw[if_neg (fun h=>hbb h.symm)]
    exact h2
   ·exact .inr (.inl ⟨l,es0,ck0,_,rfl,hσ b l k1 (by simpa using fun h=>hbb h.symm),k2.of (Below.heap_alloc w.drew _ _ (hH.own b l k1).2.2.2) (fun _ _ _ h=>h.forget (fun b l h hne=>hσ b l h hne)),k3,k4,k5.trans fun v x h=>h.forget hF (fun b l h hne=>hσ b l h hne)⟩)
   ·refine .inr <| .inr ⟨l,cs0,T0,hσ b l k1 (by simpa using fun h=>hbb h.symm),(Below.heap_alloc w.drew _ _ (hH.own b l k1).2.2.2).trans k2,by rw[f1];exact k3,by rw[f2];exact k4,k5,fun i row hr=>?_,by rw[q1z,k7];rfl⟩
    obtain⟨r0,g1,g2,g3⟩:=f3 i row hr
    obtain⟨q1,q2⟩:=k6 i r0 g1
    refine⟨by rw[f1];omega,fun j x hx=>?_⟩
    obtain⟨y,hy,hyx⟩:=g3 j x hx
    obtain⟨v,v1,v2,v3⟩:=q2 j y hy
    exact⟨v,v1,v2,hyx v v3⟩
 ·intro b b' l l' h1 h2 he
  unfold ext at h1 h2
  split at h1 <;> split at h2
  ·omega
  ·obtain rfl:=Option.some.inj h1
   have:=(hH.own b' l' h2).2.2.2
   simp at he;omega
  ·obtain rfl:=Option.some.inj h2
   have:=(hH.own b l h1).2.2.2
   simp at he;omega
  ·exact hH.inj b b' l l' h1 h2 he
 ·unfold ext at hl
  split at hl
  ·rename_i hbn
   obtain rfl:=Option.some.inj hl
   exact⟨by omega,fun hf=>by have:=hH.fro _ hf;simp at this,.inl hb,by simp⟩
  ·obtain⟨h1,h2,h3,h4⟩:=hH.own b l hl
   exact⟨h1,h2,h3,by simp;omega⟩
theorem q9a(hH:HeapRel w F X base σ nx H){id:Nat}{blk':Blk}{w1:World}(hsame:∀ b,F b→w1.heap[b]? = w.heap[b]?)(hsz1:w.heap.size≤w1.heap.size)(hother:∀ b l,b≠id→σ b=some l→w1.heap[l.blk]? = w.heap[l.blk]?)
  (hblk:BlkRel w1 F base σ id blk') :
  (∀ v x,RepV w F base σ v x→RepV w1 F base σ v (x.forget (·== id)))∧HeapRel w1 F X base σ nx (forgetH (·== id) (put H id blk')):=by
 have hF:∀ b,F b→F b∧w1.heap[b]? = w.heap[b]?:=fun b h=>⟨h,hsame b h⟩
 have hval1:∀ {w0:World} v x,(∀ b,F b→F b∧w1.heap[b]? = w0.heap[b]?)→RepV w0 F base σ v x→RepV w1 F base σ v (x.drop1 (·== id)):=fun v x hF h=>h.drop1 hF (fun b l h _=>h)
 have blkf:∀ {w0:World} (blk:Blk),(∀ b,F b→F b∧w1.heap[b]? = w0.heap[b]?)→(blk.forget (·== id)).k=blk.k∧(blk.forget (·== id)).n=blk.n∧∀ i row,(blk.forget (·== id)).row? i=some row→∃ r0,blk.row? i=some r0∧r0.length=row.length∧
   ∀(j:Nat) (x:V),row[j]? = some x→∃ y,r0[j]? = some y∧∀ v,RepV w0 F base σ v y→RepV w1 F base σ v x:=by
  intro w0 blk hF0
  cases blk with
  |dat c k' rs=>
   refine⟨rfl,rfl,fun i row hr=>⟨row,hr,rfl,fun j x hx=>⟨x,hx,fun v h=>?_⟩⟩⟩
   simp only[Blk.forget,Blk.row?,Option.map_eq_some_iff] at hr
   obtain⟨dr,hdr,rfl⟩:=hr
   simp only[List.getElem?_map,Option.map_eq_some_iff] at hx
   obtain⟨d,hd,rfl⟩:=hx
   obtain⟨c',hc'⟩:=z1M c d
   rw[hc'] at h ⊢
   exact hval1 v _ hF0 h
  |mix k' rs=>
   refine⟨rfl,by simp [Blk.forget,Blk.n],fun i row hr=>?_⟩
   simp only[Blk.forget,Blk.row?,List.getElem?_map,Option.map_eq_some_iff] at hr
   obtain⟨r0,hr0,rfl⟩:=hr
   refine⟨r0,hr0,by simp,fun j x hx=>?_⟩
   simp only[List.getElem?_map,Option.map_eq_some_iff] at hx
   obtain⟨y,hy,rfl⟩:=hx
   exact⟨y,hy,fun v h=>hval1 v y hF0 h⟩
  |map es=>exact⟨rfl,by simp [Blk.forget,Blk.n,q2A (V.forget (·== id))],fun i row hr=>by simp [Blk.forget,Blk.row?] at hr⟩
 have look_f:∀(L:List (Nat×Blk)) (b:Nat),look (forgetH (·== id) L) b=(look L b).map (Blk.forget (·== id)):=by
  intro L b
  induction L with
  |nil=>rfl
  |cons p L ih=>
   obtain⟨q,x⟩:=p
   simp only[forgetH,List.map_cons,look] at ih ⊢
   split
   ·rfl
   ·exact ih
 refine⟨fun v x h=>h.forget hF (fun b l h _=>h),⟨fun b blk0 hb0=>?_,hH.inj,fun b l hl=>?_,fun b h=>Nat.lt_of_lt_of_le (hH.fro b h) hsz1⟩⟩
 ·rw[look_f,q0I] at hb0
  split at hb0
  ·rename_i hbb
   subst hbb
   simp only[Option.map_some,Option.some.injEq] at hb0
   subst hb0
   obtain⟨f1,f2,f3⟩:=blkf (w0:=w1) blk' (fun b h=>⟨h,rfl⟩)
   rcases hblk with⟨h1,h2⟩|⟨l,es0,ck0,ds0,rfl,k1,k2,k3,k4,k5⟩|⟨l,cs0,T0,k1,k2,k3,k4,k5,k6,k7⟩
   ·exact .inl ⟨by rw[f2];exact h1,h2⟩
   ·exact .inr (.inl ⟨l,es0,ck0,_,rfl,k1,k2.of rfl (fun _ _ _ h=>h.forget (fun b l h _=>h)),k3,k4,k5.trans fun v x h=>h.forget (fun b h=>⟨h,rfl⟩) (fun b l h _=>h)⟩)
   ·refine .inr <| .inr ⟨l,cs0,T0,k1,k2,by rw[f1];exact k3,by rw[f2];exact k4,k5,fun i row hr=>?_,by rw[q1z,k7];rfl⟩
    obtain⟨r0,g1,g2,g3⟩:=f3 i row hr
    obtain⟨q1,q2⟩:=k6 i r0 g1
    refine⟨by rw[f1];omega,fun j x hx=>?_⟩
    obtain⟨y,hy,hyx⟩:=g3 j x hx
    obtain⟨v,v1,v2,v3⟩:=q2 j y hy
    exact⟨v,v1,v2,hyx v v3⟩
  ·rename_i hbb
   simp only[Option.map_eq_some_iff] at hb0
   obtain⟨blk1,hb1,rfl⟩:=hb0
   obtain⟨f1,f2,f3⟩:=blkf (w0:=w) blk1 hF
   rcases hH.blk b blk1 hb1 with⟨h1,h2⟩|⟨l,es0,ck0,ds0,rfl,k1,k2,k3,k4,k5⟩|⟨l,cs0,T0,k1,k2,k3,k4,k5,k6,k7⟩
   ·exact .inl ⟨by rw[f2];exact h1,h2⟩
   ·exact .inr (.inl ⟨l,es0,ck0,_,rfl,k1,k2.of (hother b l (fun h=>hbb h.symm) k1) (fun _ _ _ h=>h.forget (fun b l h _=>h)),k3,k4,k5.trans fun v x h=>h.forget hF (fun b l h _=>h)⟩)
   ·refine .inr <| .inr ⟨l,cs0,T0,k1,(hother b l (fun h=>hbb h.symm) k1).trans k2,by rw[f1];exact k3,by rw[f2];exact k4,k5,fun i row hr=>?_,by rw[q1z,k7];rfl⟩
    obtain⟨r0,g1,g2,g3⟩:=f3 i row hr
    obtain⟨q1,q2⟩:=k6 i r0 g1
    refine⟨by rw[f1];omega,fun j x hx=>?_⟩
    obtain⟨y,hy,hyx⟩:=g3 j x hx
    obtain⟨v,v1,v2,v3⟩:=q2 j y hy
    exact⟨v,v1,v2,hyx v v3⟩
 ·obtain⟨h1,h2,h3,h4⟩:=hH.own b l hl
  exact⟨h1,h2,h3,Nat.lt_of_lt_of_le h4 hsz1⟩
end Go.Vm
end

section
namespace Go.Vm
open Go.RowKit
variable {P:Program}{w w':World}{F F':Nat→Prop}{X:Nat→Nat→Prop}{base nx:Nat}{σ σ':Nat→Option Loc}{K:Cx}{s:S}{a:Act}{o:Oper}{env:Env}{H:List (Nat×Blk)}
theorem q7Z{blk:Blk}{rows:Rows}{k m:Nat}{cs:Array Value}{olds news:List Value}(hk:blk.k=k)(hpos:0<k)(hm:rows.n=m)(hlen:rows.vs.length=m)(hlo:olds.length=blk.n*k)(hln:news.length=m*k)
  (hcs:∀(p:Nat) (u:Value),(olds++news)[p]? = some u→cs[p]? = some u)
  (hold:∀ i row,blk.row? i=some row→row.length=k∧∀ j x,row[j]? = some x→∃ v,olds[i*k+j]? = some v∧v.oneCell'=true∧RepV w F base σ v x)
  (hnew:∀ i row,rows.vs[i]? = some row→row.length=k∧∀ j x,row[j]? = some x→∃ u,news[i*k+j]? = some u∧u.oneCell'=true∧RepV w F base σ u x) :
  ∀ i row,(blk.app rows).row? i=some row→row.length=k∧∀ j x,row[j]? = some x→∃ v,cs[i*k+j]? = some v∧v.oneCell'=true∧RepV w F base σ v x:=by
 intro i row hr
 have hent:blk.entries=none:=by
  cases blk with
  |map es=>simp only[Blk.k] at hk;omega
  |_=>rfl
 obtain⟨_,_,h3⟩:=q8T (w:=w) (F:=F) (base:=base) (σ:=σ) blk rows hent
 rcases h3 i row hr with⟨hi,r0,hr0,hw1,hw2⟩|⟨hi,r0,hr0,hw1,hw2⟩
 ·obtain⟨g1,g2⟩:=hold i r0 hr0
  refine⟨by omega,fun j x hx=>?_⟩
  obtain⟨y,hy,hyx⟩:=hw2 j x hx
  obtain⟨v,v1,v2,v3⟩:=g2 j y hy
  refine⟨v,hcs _ _ ?_,v2,hyx v v3⟩
  rw[List.getElem?_append_left (List.getElem?_eq_some_iff.1 v1).1]
  exact v1
 ·obtain⟨g1,g2⟩:=hnew _ r0 hr0
  refine⟨by omega,fun j x hx=>?_⟩
  obtain⟨y,hy,hyx⟩:=hw2 j x hx
  obtain⟨v,v1,v2,v3⟩:=g2 j y hy
  refine⟨v,hcs _ _ ?_,v2,hyx v v3⟩
  have e:i*k+j=blk.n*k+((i - blk.n)*k+j):=by
   rw[←Nat.add_assoc,←Nat.add_mul]
   congr 2
   omega
  rw[e,List.getElem?_append_right (by omega),hlo,Nat.add_sub_cancel_left]
  exact v1
theorem q1J{x y:Operand}{t:TypeId}{v u r:Value}{w w':World}(ho:o.op=.call { callee:=.builtin .append,args:=#[x,y],argTypes:=#[t,t] })(hx:a.eval x=v)(hy:a.eval y=u)
  (h:(Builtin.append_ #[t,t] o.type #[v,u]).run P w=.ok r w'):(execOp a.eval o).run P w=.ok (.value r) w':=by
 simp [execOp,ho,resolve,invoke,builtin,hx,hy,h]
set_option maxHeartbeats 1000000 in
theorem j0o{k:Nat}{ea eb:E}{H':List (Nat×Blk)}{r:V}{p:Lost}{nx':Nat}(hw:appK P env o=some (k,ea,eb))(hev:evWr K s H (.app k ea eb)=some (H',r,p,nx'))
  (hops:∀ x∈o.op.operands.toList,Held P K s env w F base σ a x) (hH:HeapRel w F X base σ s.nx H) (hb:base≤w.heap.size) (hdom:∀ b blk,look H b=some blk→b<s.nx) {next:Act→World→Prop} {Q:Exit→Act→World→Prop}
  (hn:∀ v w' σ',Wrote w w' F F X base σ σ' p nx' H'→RepV w' F base σ' v r→next (a.put o.dst v) w'):o.wp P a w next Q:=by
 have held:∀ x,x∈o.op.operands.toList→∀ t e r,q0j P env t x=some e→ev K s e=some r→RepV w F base σ (a.eval x) r:=hops
 unfold appK at hw
 cases hop:o.op with
 |call c=>
  obtain⟨callee,args,argTypes⟩:=c
  simp only[hop] at hw held
  cases callee with
  |builtin b=>
   cases b <;> simp only at hw <;> (try(cases hw;done))
   obtain⟨args⟩:=args
   obtain⟨argTypes⟩:=argTypes
   match args,argTypes,hw,hop,held with
   |[x,y],[t,t'],hw,hop,held=>
    simp only at hw
    split at hw
    case isFalse=>cases hw
    rename_i htt
    subst htt
    cases ht:P.underlying t' with
    |none=>simp [ht] at hw
    |some d=>
     cases hx:q0j P env t' x with
     |none=>cases d <;> simp [ht,hx] at hw
     |some ex=>
      cases hy:q0j P env t' y with
      |none=>cases d <;> simp [ht,hx,hy] at hw
      |some ey=>
       cases d <;> simp only[ht,hx,hy] at hw <;> (try(cases hw;done))
       rename_i e
       cases hi:P.info? e with
       |none=>simp [hi] at hw
       |some i=>
        cases hz:i.zero with
        |none=>simp [hi,hz] at hw
        |some z=>
         simp only[hi,hz] at hw
         split at hw
         case isFalse=>cases hw
         rename_i hcnd
         obtain⟨hby,hpos,hzs,_⟩:=hcnd
         simp only[Option.some.injEq,Prod.mk.injEq] at hw
         obtain⟨rfl,rfl,rfl⟩:=hw
         simp only[evWr] at hev
         cases hva:ev K s ex with
         |none=>simp [hva] at hev
         |some va=>
          cases hvb:ev K s ey with
          |none=>simp [hva,hvb] at hev
          |some vb=>
           simp only[hva,hvb] at hev
           have hA:=held x (by simp [Op.operands,Call.operands]) _ _ _ hx hva
           have hB:=held y (by simp [Op.operands,Call.operands]) _ _ _ hy hvb
           cases hro:q1q H i.size vb with
           |none=>simp [hro] at hev
           |some rows=>
            simp only[hro] at hev
            obtain⟨ad,c,hbv,hsome,hlen,hcells⟩:=z2O hH hB hro
            have hmost:most=1099511627776:=rfl
            have fits:∀ n,n≤most→n*i.bytes≤140737488355328:=fun n hn'=>by
             have:n*i.bytes≤1099511627776*64:=Nat.mul_le_mul (by omega) hby
             omega
            -- growth, from whatever handle
            have grow:∀(id:Nat) (blk0:Blk) (olds:List Value) (len cap:Nat) (hs:Option Addr),a.eval x=.slice hs len cap→blk0.k=i.size→blk0.n=len→len≤cap→cap<len+rows.n→len+rows.n≤most→olds.length=len*i.size→
              (∀ A,hs=some A→∀ j u,olds[j]? = some u→w.cell? (A.add j)=some u)→(hs=none→len=0∧cap=0)→
              (∀ i' row,blk0.row? i'=some row→row.length=i.size∧∀ j x,row[j]? = some x→∃ v,olds[i'*i.size+j]? = some v∧v.oneCell'=true∧RepV w F base σ v x)→
              ∃(cs:Array Value) (nc:Nat),len+rows.n≤nc∧cs.size=nc*i.size∧(execOp a.eval o).run P w=.ok (.value (.slice (some ⟨w.heap.size,0,none⟩) (len+rows.n) nc)) (w.drew.alloc (.cells cs e))∧
              ∀ i' row,(blk0.app rows).row? i'=some row→row.length=i.size∧∀ j x,row[j]? = some x→∃ v,cs[i'*i.size+j]? = some v∧v.oneCell'=true∧RepV w F base σ v x:=by
             intro id blk0 olds len cap hs hxv hk0 hn0 hlc hgr hfit hol hocell hnone hold
             have hm0:rows.n≠0:=by omega
             obtain⟨A,rfl⟩:=Option.isSome_iff_exists.1 (hsome hm0)
             obtain⟨news,hnl,hncell,hn1,hnr⟩:=q7U (m:=rows.n) hpos hlen (hcells A rfl)
             have hnew:∀ i' row,rows.vs[i']? = some row→row.length=i.size∧∀ j x,row[j]? = some x→∃ u,news[i'*i.size+j]? = some u∧u.oneCell'=true∧RepV w F base σ u x:=fun i' row hr=>⟨(hcells A rfl i' row hr).1,fun j x hx=>hnr i' row hr j x hx⟩
             have hsz:∀ nc,len+rows.n≤nc→(olds.toArray++news.toArray++Builtin.zeroCells z.cells (nc - (len+rows.n))).size=nc*i.size:=fun nc hnc=>by
              simp only[Array.size_append,List.size_toArray,size_zeroCells,hzs,hol,hnl,←Nat.add_mul]
              congr 1
              omega
             have hget:∀ nc p u,(olds++news)[p]? = some u→(olds.toArray++news.toArray++Builtin.zeroCells z.cells (nc - (len+rows.n)))[p]? = some u:=fun nc p u hp=>by
              rw[←Array.getElem?_toList]
              simp only[Array.toList_append]
              rw[List.getElem?_append_left (by have:=(List.getElem?_eq_some_iff.1 hp).1;simpa using this)]
              exact hp
             have hrows:∀ nc,∀ i' row,(blk0.app rows).row? i'=some row→row.length=i.size∧∀ j x,row[j]? = some x→∃ v,(olds.toArray++news.toArray++Builtin.zeroCells z.cells (nc - (len+rows.n)))[i'*i.size+j]? = some v∧v.oneCell'=true∧RepV w F base σ v x:=
              fun nc=>q7Z hk0 hpos rfl hlen (by rw[hn0];exact hol) hnl (hget nc) hold hnew
             cases hs with
             |none=>
              obtain⟨rfl,rfl⟩:=hnone rfl
              obtain rfl:olds=[]:=List.eq_nil_of_length_eq_zero (by simpa using hol)
              have hrun:=run_append_nil (P:=P) w t' o.type e i z ht hi hz A rows.n c news hnl hncell (by omega) (by omega) (by have:=fits _ hfit;simp only[Nat.zero_add] at this;omega)
              refine⟨([]:List Value).toArray++news.toArray++Builtin.zeroCells z.cells (grownCap w rows.n 0 e - (0+rows.n)),grownCap w rows.n 0 e,by rw[Nat.zero_add];exact grownCap_ge w _ 0 e,hsz _ (by rw[Nat.zero_add];exact grownCap_ge w _ 0 e),?_,hrows _⟩
              have h:=q1J hop hxv hbv hrun
              simp only[Nat.zero_add,Array.empty_append]
              exact h
             |some B=>
              have hrun:=run_append_grow (P:=P) w t' o.type e i z ht hi hz B len cap olds hol (hocell B rfl) A rows.n c news hnl hncell hgr (by omega) (growslice_fits (by omega) (fits _ hfit))
              exact⟨_,grownCap w (len+rows.n) cap e,grownCap_ge w _ cap e,hsz _ (grownCap_ge w _ cap e),q1J hop hxv hbv hrun,hrows _⟩
            cases va with
            |bsl id i0 len=>
             simp only at hev
             cases hbk:look H id with
             |none=>simp [hbk] at hev
             |some blk=>
              simp only[hbk] at hev
              split at hev
              case isFalse=>cases hev
              rename_i hc
              obtain⟨rfl,hbn,hbkk,hfit⟩:=hc
              simp only[Option.some.injEq,Prod.mk.injEq] at hev
              obtain⟨rfl,rfl,rfl,rfl⟩:=hev
              have hid:=hdom id blk hbk
              have hent:blk.entries=none:=by
               cases blk with
               |map es=>simp only[Blk.k] at hbkk;omega
               |_=>rfl
              obtain⟨ak,an,_⟩:=q8T (w:=w) (F:=F) (base:=base) (σ:=σ) blk rows hent
              have hbr:=hH.blk id blk hbk
              -- the handle
              have handle:∃ hs cap,a.eval x=.slice hs len cap∧len≤cap∧((len=0∧cap=0)∨∃ l,σ id=some l∧hs=some ⟨l.blk,0,none⟩∧cap≤l.ext):=by
               generalize a.eval x=v at hA
               cases hA with
               |bsl0 ad' _ _=>exact⟨ad',0,rfl,Nat.le_refl _,.inl ⟨rfl,rfl⟩⟩
               |bsl _ _ _ cap l hl h1 h2=>exact⟨_,cap,rfl,h1,.inr ⟨l,hl,by rw[Nat.zero_mul],by omega⟩⟩
              obtain⟨hs,cap,hxv,hlc,hloc⟩:=handle
              by_cases hm0:rows.n=0
              ·-- nothing is appended
               rw[hm0] at hbv
               have hrun:=q1J hop hxv hbv (q3I (P:=P) (w:=w) (ty:=o.type) ht hi hs len cap hlc ad c)
               have hblk':BlkRel w F base σ id (blk.app rows):=by
                rcases hbr with⟨h1,h2⟩|⟨_,_,_,_,rfl,_⟩|⟨l,cs,T,h1,h2,h3,h4,h5,h6,h7⟩
                ·exact .inl ⟨by rw[an];omega,h2⟩
                ·simp [Blk.entries] at hent
                ·refine .inr <| .inr ⟨l,cs,T,h1,h2,by rw[ak];exact h3,by rw[an];omega,h5,fun i' row hr=>?_,q4z _ h7⟩
                 rcases(q8T (w:=w) (F:=F) (base:=base) (σ:=σ) blk rows hent).2.2 i' row hr with⟨hi',r0,hr0,hw1,hw2⟩|⟨hi',r0,hr0,_⟩
                 ·obtain⟨g1,g2⟩:=h6 i' r0 hr0
                  refine⟨by rw[ak];omega,fun j x hx=>?_⟩
                  obtain⟨y,hy,hyx⟩:=hw2 j x hx
                  obtain⟨v,v1,v2,v3⟩:=g2 j y hy
                  exact⟨v,v1,v2,hyx v v3⟩
                 ·have:=(List.getElem?_eq_some_iff.1 hr0).1
                  omega
               obtain⟨s1,s2⟩:=q9a hH (w1:=w) (fun _ _=>rfl) (Nat.le_refl _) (fun _ _ _ _=>rfl) hblk'
               unfold Oper.wp
               rw[hrun]
               refine hn _ w σ ⟨.refl _ _ _,fun _ hb=>⟨hb,rfl⟩,fun _ h=>.inl h,s1,s2,fun _ _ h _=>h⟩ ?_
               rw[hm0,Nat.add_zero]
               rw[hxv] at hA
               exact hA
              ·by_cases hroom:len+rows.n≤cap
               ·-- within the room
                rcases hloc with⟨h1,h2⟩|⟨l,hl,rfl,hce⟩
                ·omega
                ·rcases hbr with⟨_,h2⟩|⟨_,_,_,_,rfl,_⟩|⟨l',cs,T,h1,h2,h3,h4,h5,h6,h7⟩
                 ·rw[h2] at hl;cases hl
                 ·simp [Blk.entries] at hent
                 ·obtain rfl:l=l':=by rw[hl] at h1;exact Option.some.inj h1
                  obtain⟨A,rfl⟩:=Option.isSome_iff_exists.1 (hsome hm0)
                  obtain⟨news,hnl,hncell,hn1,hnr⟩:=q7U (m:=rows.n) hpos hlen (hcells A rfl)
                  obtain⟨o1,o2,o3,o4⟩:=hH.own id l hl
                  have hTe:True:=trivial
                  have hfit':len*i.size+news.length≤cs.size:=by
                   rw[hnl,←Nat.add_mul,h5,h3,hbkk]
                   exact Nat.mul_le_mul_right _ (by omega)
                  have hrun0:(Builtin.append_ #[t',t'] o.type #[.slice (some ⟨l.blk,0,none⟩) len cap,.slice (some A) rows.n c]).run P w=.ok (.slice (some ⟨l.blk,0,none⟩) (len+rows.n) cap) (w.setRow l.blk (cs.toList.take (len*i.size)++news++cs.toList.drop (len*i.size+news.length)).toArray):=by
                   have hf:=run_firstCells_some (P:=P) w i.size rows.n A rows.n c news hnl hncell
                   have hst:=run_storeCells_at P l.blk (len*i.size) T news 0 cs w h2 (by simpa using hfit') hn1
                   simp only[Nat.add_zero] at hst
                   simp [Builtin.append_,run_underlying ht,q0Y hi,Builtin.lenOf,hroom,hf,Addr.add_lit,hst]
                  have hrun:=q1J hop hxv hbv hrun0
                  have hsame:∀ b,F b→(w.setRow l.blk (cs.toList.take (len*i.size)++news++cs.toList.drop (len*i.size+news.length)).toArray).heap[b]? = w.heap[b]?:=fun b hb'=>setRow_other w _ b _ (by rintro rfl;exact o2 hb')
                  have hgr:=q7Z (w:=w) (F:=F) (base:=base) (σ:=σ) (blk:=blk) (rows:=rows) (m:=rows.n) (cs:=(cs.toList.take (len*i.size)++news++cs.toList.drop (len*i.size+news.length)).toArray) (olds:=cs.toList.take (len*i.size)) (news:=news) hbkk hpos rfl hlen
                   (by rw[List.length_take,Array.length_toList,hbn];omega) hnl (fun p u hp=>by
                    rw[List.getElem?_toArray,List.getElem?_append_left (List.getElem?_eq_some_iff.1 hp).1]
                    exact hp)
                   (fun i' row hr=>by
                    obtain⟨g1,g2⟩:=h6 i' row hr
                    rw[hbkk] at g1
                    refine⟨g1,fun j x hx=>?_⟩
                    obtain⟨v,v1,v2,v3⟩:=g2 j x hx
                    rw[h3,hbkk] at v1
                    have hin:i'<blk.n:=by
                     cases blk with
                     |dat c' k' rs=>
                      simp only[Blk.row?,Option.map_eq_some_iff] at hr
                      obtain⟨dr,hdr,_⟩:=hr
                      exact(List.getElem?_eq_some_iff.1 hdr).1
                     |mix k' rs=>exact(List.getElem?_eq_some_iff.1 hr).1
                     |map es=>simp [Blk.entries] at hent
                    have hj:j<i.size:=by have:=(List.getElem?_eq_some_iff.1 hx).1;omega
                    refine⟨v,?_,v2,v3⟩
                    rw[List.getElem?_take,if_pos,Array.getElem?_toList]
                    ·exact v1
                    ·have:(i'+1)*i.size≤len*i.size:=Nat.mul_le_mul_right _ (by omega)
                     rw[Nat.add_mul,Nat.one_mul] at this
                     omega)
                   (fun i' row hr=>⟨(hcells A rfl i' row hr).1,fun j x hx=>hnr i' row hr j x hx⟩)
                  have hblk':BlkRel (w.setRow l.blk (cs.toList.take (len*i.size)++news++cs.toList.drop (len*i.size+news.length)).toArray) F base σ id (blk.app rows):=by
                   refine .inr <| .inr ⟨l,_,T,hl,setRow_heap w l.blk cs _ T (0,0) h2,by rw[ak];exact h3,by rw[an];omega,?_,fun i' row hr=>?_,q4z _ h7⟩
                   ·simp only[List.size_toArray,List.length_append,List.length_take,List.length_drop,Array.length_toList]
                    omega
                   ·obtain⟨g1,g2⟩:=hgr i' row hr
                    refine⟨by rw[ak,hbkk];exact g1,fun j x hx=>?_⟩
                    obtain⟨v,v1,v2,v3⟩:=g2 j x hx
                    rw[h3,hbkk]
                    exact⟨v,v1,v2,v3.setRow o2⟩
                  obtain⟨s1,s2⟩:=q9a hH hsame (by simp) (fun b l' hne hl'=>setRow_other w _ _ _ (fun h=>hne (hH.inj b id l' l hl' hl h))) hblk'
                  unfold Oper.wp
                  rw[hrun]
                  refine hn _ _ σ ⟨.setRow o3,fun b hb=>⟨hb,hsame b hb⟩,fun _ h=>.inl h,s1,s2,fun _ _ h _=>h⟩ ?_
                  have:=RepV.bsl (w:=w.setRow l.blk (cs.toList.take (len*i.size)++news++cs.toList.drop (len*i.size+news.length)).toArray) (F:=F) (base:=base) (σ:=σ) id 0 (len+rows.n) cap l hl hroom (by omega)
                  rw[Nat.zero_mul] at this
                  exact this
               ·-- it grows
                have holds:∃ olds:List Value,olds.length=len*i.size∧(∀ A,hs=some A→∀ j u,olds[j]? = some u→w.cell? (A.add j)=some u)∧
                  (∀ i' row,blk.row? i'=some row→row.length=i.size∧∀ j x,row[j]? = some x→∃ v,olds[i'*i.size+j]? = some v∧v.oneCell'=true∧RepV w F base σ v x):=by
                 have inn:∀ i' row,blk.row? i'=some row→i'<blk.n:=by
                  intro i' row hr
                  cases blk with
                  |dat c' k' rs=>
                   simp only[Blk.row?,Option.map_eq_some_iff] at hr
                   obtain⟨dr,hdr,_⟩:=hr
                   exact(List.getElem?_eq_some_iff.1 hdr).1
                  |mix k' rs=>exact(List.getElem?_eq_some_iff.1 hr).1
                  |map es=>simp [Blk.entries] at hent
                 by_cases hl0:len=0
                 ·exact⟨[],by simp [hl0],fun A _ j u h=>by simp at h,fun i' row hr=>by have:=inn i' row hr;omega⟩
                 ·rcases hloc with⟨h1,h2⟩|⟨l,hl,rfl,hce⟩
                  ·omega
                  ·rcases hbr with⟨h1,_⟩|⟨_,_,_,_,rfl,_⟩|⟨l',cs,T,h1,h2,h3,h4,h5,h6,h7⟩
                   ·omega
                   ·simp [Blk.entries] at hent
                   ·obtain rfl:l=l':=by rw[hl] at h1;exact Option.some.inj h1
                    have hle:len*i.size≤cs.size:=by
                     rw[h5,h3,hbkk]
                     exact Nat.mul_le_mul_right _ (by omega)
                    refine⟨cs.toList.take (len*i.size),by rw[List.length_take,Array.length_toList];omega,fun A hA j u hj=>?_,fun i' row hr=>?_⟩
                    ·obtain rfl:=Option.some.inj hA
                     rw[add_lit,Nat.zero_add,cell_of_row w l.blk j cs T (0,0) h2]
                     rw[List.getElem?_take] at hj
                     split at hj
                     ·simpa using hj
                     ·cases hj
                    ·obtain⟨g1,g2⟩:=h6 i' row hr
                     rw[hbkk] at g1
                     refine⟨g1,fun j x hx=>?_⟩
                     obtain⟨v,v1,v2,v3⟩:=g2 j x hx
                     rw[h3,hbkk] at v1
                     have hin:=inn i' row hr
                     have hj:j<i.size:=by have:=(List.getElem?_eq_some_iff.1 hx).1;omega
                     refine⟨v,?_,v2,v3⟩
                     rw[List.getElem?_take,if_pos,Array.getElem?_toList]
                     ·exact v1
                     ·have:(i'+1)*i.size≤len*i.size:=Nat.mul_le_mul_right _ (by omega)
                      rw[Nat.add_mul,Nat.one_mul] at this
                      omega
                obtain⟨olds,ol1,ol2,ol3⟩:=holds
                have hnone:hs=none→len=0∧cap=0:=by
                 rintro rfl
                 rcases hloc with h|⟨l,_,h,_⟩
                 ·exact h
                 ·cases h
                obtain⟨cs,nc,hnc,hcs,hrun,hrows⟩:=grow id blk olds len cap hs hxv hbkk hbn hlc (by omega) hfit ol1 ol2 hnone ol3
                obtain⟨m1,m2⟩:=z5E hH hb hid (blk':=blk.app rows) (k:=i.size) (e:=nc) (cs:=cs) (T:=e) (q4z _ hent) (by rw[ak,hbkk]) (by rw[an,hbn];exact hnc) hcs hrows
                unfold Oper.wp
                rw[hrun]
                refine hn _ _ _ ⟨q76 _ hb,fun b hb'=>⟨hb',Below.heap_alloc w.drew _ b (hH.fro b hb')⟩,fun _ h=>.inl h,m1,m2,fun b l h hne=>by unfold ext;rw[if_neg (by simpa [Lost.ids] using hne)];exact h⟩ ?_
                have:=RepV.bsl (w:=w.drew.alloc (.cells cs e)) (F:=F) (base:=base) (σ:=ext σ id ⟨w.heap.size,i.size,nc⟩) id 0 (len+rows.n) nc _ q2D hnc (by simp)
                simp only[Nat.zero_mul] at this
                exact this
            |fs cc kk rws=>
             cases rws with
             |cons=>simp at hev
             |nil=>
              simp only at hev
              split at hev
              case isFalse=>cases hev
              rename_i hc
              obtain⟨rfl,hfit⟩:=hc
              simp only[Option.some.injEq,Prod.mk.injEq] at hev
              obtain⟨rfl,rfl,rfl,rfl⟩:=hev
              obtain⟨bk1,bk2,bk3⟩:=z5n i.size rows
              have hnoσ:σ s.nx=none:=by
               cases hs:σ s.nx with
               |none=>rfl
               |some l=>have:=(hH.own _ l hs).1;omega
              have handle:∃ hs,a.eval x=.slice hs 0 0:=by
               generalize a.eval x=v at hA
               cases hA with
               |fs _ ad' len' _ _ h=>
                obtain⟨a',c',h'⟩:=h.slice_len
                simp only[Value.slice.injEq,List.length_nil] at h'
                obtain⟨_,rfl,_⟩:=h'
                exact⟨_,rfl⟩
              obtain⟨hs,hxv⟩:=handle
              have hHup:HeapRel w F X base σ (s.nx+1) H:=⟨hH.blk,hH.inj,fun b l hl=>by obtain⟨h1,h2⟩:=hH.own b l hl;exact⟨by omega,h2⟩,hH.fro⟩
              by_cases hm0:rows.n=0
              ·rw[hm0] at hbv
               have hrun:=q1J hop hxv hbv (q3I (P:=P) (w:=w) (ty:=o.type) ht hi hs 0 0 (Nat.le_refl _) ad c)
               unfold Oper.wp
               rw[hrun]
               refine hn _ w σ ⟨.refl _ _ _,fun _ hb=>⟨hb,rfl⟩,fun _ h=>.inl h,fun v x h=>h,⟨fun b blk0 hb0=>?_,hHup.inj,hHup.own,hHup.fro⟩,fun _ _ h _=>h⟩ ?_
               ·simp only[loseH,look] at hb0
                split at hb0
                ·rename_i hbb
                 subst hbb
                 obtain rfl:=Option.some.inj hb0
                 exact .inl ⟨by rw[bk2];exact hm0,hnoσ⟩
                ·exact hH.blk b blk0 hb0
               ·rw[hm0]
                exact .bsl0 _ _ _
              ·have hnone:hs=none→(0:Nat)=0∧(0:Nat)=0:=fun _=>⟨rfl,rfl⟩
               obtain⟨cs,nc,hnc,hcs,hrun,hrows⟩:=grow s.nx (.dat true i.size []) [] 0 0 hs hxv rfl rfl (Nat.le_refl _) (by omega) (by omega) (by simp) (fun A _ j u h=>by simp at h) hnone (fun i' row hr=>by simp [Blk.row?] at hr)
               rw[Nat.zero_add] at hnc hrun
               have hrows':∀ i' row,(rows.blk i.size).row? i'=some row→row.length=(rows.blk i.size).k∧∀ j x,row[j]? = some x→∃ v,cs[i'*(rows.blk i.size).k+j]? = some v∧v.oneCell'=true∧RepV w F base σ v x:=by
                intro i' row hr
                rw[bk1]
                refine hrows i' row ?_
                cases rows with
                |dat c' rs=>simpa [Blk.app,Rows.blk] using hr
                |mix rs=>simpa [Blk.app,Rows.blk,Blk.row?] using hr
               have hmade:=q57 (w:=w.drew) (F:=F) (X:=X) (base:=base) (σ:=σ) (nx:=s.nx+1) (H:=H) (n:=s.nx) (blk:=rows.blk i.size) (e:=nc) (cs:=cs) (T:=e)
                ⟨fun b blk0 hb0=>(hH.blk b blk0 hb0).mono (w:=w) (w':=w.drew) (F':=F) (σ':=σ) (fun b h=>⟨h,rfl⟩) (fun _ _ h=>h) (fun h=>h) (fun _ _=>rfl),hHup.inj,hHup.own,hHup.fro⟩ hb hnoσ (by omega) hdom (q9m _ _) (by rw[bk2];exact hnc) (by rw[bk1];exact hcs)
                (fun i' row hr=>⟨(hrows' i' row hr).1,fun j x hx=>by
                 obtain⟨v,v1,v2,v3⟩:=(hrows' i' row hr).2 j x hx
                 exact⟨v,v1,v2,v3.mono (w:=w) (w':=w.drew) (F':=F) (σ':=σ) (fun b h=>⟨h,rfl⟩) (fun _ _ h=>h)⟩⟩)
               unfold Oper.wp
               rw[hrun]
               refine hn _ _ _ ⟨q76 _ hb,fun b hb'=>⟨hb',Below.heap_alloc w.drew _ b (hH.fro b hb')⟩,fun _ h=>.inl h,fun v x h=>h.mono (w:=w) (F':=F) (fun b hb'=>⟨hb',Below.heap_alloc w.drew _ b (hH.fro b hb')⟩) hmade.old,⟨fun b blk0 hb0=>?_,hmade.heap.inj,hmade.heap.own,hmade.heap.fro⟩,fun b l h _=>hmade.old b l h⟩ ?_
               ·simp only[loseH,look] at hb0
                split at hb0
                ·rename_i hbb
                 subst hbb
                 obtain rfl:=Option.some.inj hb0
                 exact hmade.blk 0 _ rfl
                ·exact hmade.heap.blk b blk0 hb0
               ·have:=RepV.bsl (w:=w.drew.alloc (.cells cs e)) (F:=F) (base:=base) (σ:=ext σ s.nx ⟨w.heap.size,(rows.blk i.size).k,nc⟩) s.nx 0 rows.n nc _ q2D hnc (by simp)
                simp only[Nat.zero_mul] at this
                exact this
            |_=>simp at hev
   |[],_,hw,_,_=>simp at hw
   |[_],_,hw,_,_=>simp at hw
   |_ :: _ :: _ :: _,_,hw,_,_=>simp at hw
   |[_,_],[],hw,_,_=>simp at hw
   |[_,_],[_],hw,_,_=>simp at hw
   |[_,_],_ :: _ :: _ :: _,hw,_,_=>simp at hw
  |_=>simp at hw
 |_=>simp [hop] at hw
end Go.Vm
end

section
namespace Go.Vm
open Go.RowKit
variable {P:Program}{w w':World}{F F':Nat→Prop}{X:Nat→Nat→Prop}{base base' nx:Nat}{σ σ':Nat→Option Loc}{K:Cx}{s:S}{a:Act}{o:Oper}{env:Env}{H:List (Nat×Blk)}{bs:List Nat}
theorem q34(g:Nat→Nat):∀ cs:List V,renL g cs=cs.map (V.ren g)
 |[]=>rfl
 |v :: r=>by simp [renL,q34 g r]
theorem q4a:∀ cs:List V,dimL cs=cs.map V.dim
 |[]=>rfl
 |v :: r=>by simp [dimL,q4a r]
theorem q2u(p:Nat→Bool):∀ cs:List V,withinL p cs=cs.all (V.within p)
 |[]=>rfl
 |v :: r=>by simp [withinL,q2u p r]
theorem RepV.ren{p:Nat→Bool}{g:Nat→Nat}(hc:∀ c b,col F base c b→col F base' c b)(hσ:∀ b l,p b=true→σ b=some l→σ' (g b)=some l){v:Value}{x:V}(h:RepV w F base σ v x):x.within p=true→RepV w F base' σ' v (x.ren g):=by
 induction h with
 |d c v x h=>intro _;exact .d c v x (h.mono fun b hb=>⟨hc c b hb,rfl⟩)
 |fs c a len k rows h=>intro _;exact .fs c a len k rows (h.mono fun b hb=>⟨hc c b hb,rfl⟩)
 |ptr b i j l hl=>intro hp;exact .ptr _ i j l (hσ b l hp hl)
 |bsl0 a b i=>intro _;exact .bsl0 a _ i
 |bsl b i len cap l hl h1 h2=>intro hp;exact .bsl _ i len cap l (hσ b l hp hl) h1 h2
 |agg cs vs h _ h1 ih=>
  intro hp
  simp only[V.within,q2u,List.all_eq_true] at hp
  simp only[V.ren,q34]
  refine .agg cs _ (by simp [h]) (fun j v x hv hx=>?_) h1
  simp only[List.getElem?_map,Option.map_eq_some_iff] at hx
  obtain⟨y,hy,rfl⟩:=hx
  exact ih j v y hv hy (hp y (List.mem_of_getElem? hy))
 |tup cs vs h _ ih=>
  intro hp
  simp only[V.within,q2u,List.all_eq_true] at hp
  simp only[V.ren,q34]
  refine .tup cs _ (by simp [h]) (fun j v x hv hx=>?_)
  simp only[List.getElem?_map,Option.map_eq_some_iff] at hx
  obtain⟨y,hy,rfl⟩:=hx
  exact ih j v y hv hy (hp y (List.mem_of_getElem? hy))
 |fn f cs vs h _ ih=>
  intro hp
  simp only[V.within,q2u,List.all_eq_true] at hp
  simp only[V.ren,q34]
  refine .fn f cs _ (by simp [h]) (fun j v x hv hx=>?_)
  simp only[List.getElem?_map,Option.map_eq_some_iff] at hx
  obtain⟨y,hy,rfl⟩:=hx
  exact ih j v y hv hy (hp y (List.mem_of_getElem? hy))
 |iface t v x _ ih=>intro hp;exact .iface t v _ (ih hp)
 |map b l hl=>intro hp;exact .map _ l (hσ b l hp hl)
 |junk v=>intro _;exact .junk v
theorem RepV.dim(base':Nat){v:Value}{x:V}(h:RepV w F base σ v x):RepV w F base' σ v x.dim:=by
 induction h with
 |d c v x h=>exact .d false v x (h.mono fun b hb=>⟨q1F hb,rfl⟩)
 |fs c a len k rows h=>exact .fs false a len k rows (h.mono fun b hb=>⟨q1F hb,rfl⟩)
 |ptr b i j l hl=>exact .ptr b i j l hl
 |bsl0 a b i=>exact .bsl0 a b i
 |bsl b i len cap l hl h1 h2=>exact .bsl b i len cap l hl h1 h2
 |agg cs vs h _ h1 ih=>
  simp only[V.dim,q4a]
  refine .agg cs _ (by simp [h]) (fun j v x hv hx=>?_) h1
  simp only[List.getElem?_map,Option.map_eq_some_iff] at hx
  obtain⟨y,hy,rfl⟩:=hx
  exact ih j v y hv hy
 |tup cs vs h _ ih=>
  simp only[V.dim,q4a]
  refine .tup cs _ (by simp [h]) (fun j v x hv hx=>?_)
  simp only[List.getElem?_map,Option.map_eq_some_iff] at hx
  obtain⟨y,hy,rfl⟩:=hx
  exact ih j v y hv hy
 |fn f cs vs h _ ih=>
  simp only[V.dim,q4a]
  refine .fn f cs _ (by simp [h]) (fun j v x hv hx=>?_)
  simp only[List.getElem?_map,Option.map_eq_some_iff] at hx
  obtain⟨y,hy,rfl⟩:=hx
  exact ih j v y hv hy
 |iface t v x _ ih=>exact .iface t v _ ih
 |map b l hl=>exact .map b l hl
 |junk v=>exact .junk v
mutual
theorem q3Z(p:Nat→Bool):∀ x:V,x.dim.within p=x.within p
 |.d _ _=>rfl
 |.fs _ _ _=>rfl
 |.ptr _ _ _=>rfl
 |.bsl _ _ _=>rfl
 |.agg cs=>by simp only[V.dim,V.within];exact q2t p cs
 |.tup cs=>by simp only[V.dim,V.within];exact q2t p cs
 |.fn _ cs=>by simp only[V.dim,V.within];exact q2t p cs
 |.iface _ v=>by simp only[V.dim,V.within];exact q3Z p v
 |.map _=>rfl
 |.junk=>rfl
theorem q2t(p:Nat→Bool):∀ cs:List V,withinL p (dimL cs)=withinL p cs
 |[]=>rfl
 |v :: r=>by simp only[dimL,withinL,q3Z p v,q2t p r]
end
mutual
theorem q3i:∀ x:V,x.within (fun _=>true)=true
 |.d _ _=>rfl
 |.fs _ _ _=>rfl
 |.ptr _ _ _=>rfl
 |.bsl _ _ _=>rfl
 |.agg cs=>by simp only[V.within];exact q17 cs
 |.tup cs=>by simp only[V.within];exact q17 cs
 |.fn _ cs=>by simp only[V.within];exact q17 cs
 |.iface _ v=>by simp only[V.within];exact q3i v
 |.map _=>rfl
 |.junk=>rfl
theorem q17:∀ cs:List V,withinL (fun _=>true) cs=true
 |[]=>rfl
 |v :: r=>by simp only[withinL,q3i v,q17 r,Bool.and_self]
end
theorem q7g(k:Blk):k.within (fun _=>true)=true:=by
 cases k with
 |dat=>rfl
 |mix k rows=>simp [Blk.within,q17]
 |map es=>simp [Blk.within,q3i]
theorem BufV.ren{p:Nat→Bool}{g:Nat→Nat}(hσ:∀ b l,p b=true→σ b=some l→σ' (g b)=some l){v:Value}{x:V}(h:BufV σ v x)(hx:x.within p=true):BufV σ' v (x.ren g):=by
 cases x with
 |bsl b i n=>
  obtain⟨h0,h|⟨l,h1,h2⟩⟩:=h
  ·exact⟨h0,.inl h⟩
  ·exact⟨h0,.inr ⟨l,hσ b l hx h1,h2⟩⟩
 |_=>trivial
theorem BufV.dim{v:Value}{x:V}(h:BufV σ v x):BufV σ v x.dim:=by
 cases x with
 |bsl b i n=>exact h
 |_=>trivial
theorem BlkRel.ren{p:Nat→Bool}{g:Nat→Nat}(hF:∀ b,F b→F' b∧w'.heap[b]? = w.heap[b]?)(hc:∀ c b,col F' base c b→col F' base' c b)(hσ:∀ b l,p b=true→σ b=some l→σ' (g b)=some l){b b':Nat}{blk:Blk}(hp:blk.within p=true)
  (hs:∀ l,σ b=some l→σ' b'=some l) (hn:σ b=none→σ' b'=none) (hw:∀ l,σ b=some l→w'.heap[l.blk]? = w.heap[l.blk]?) (h:BlkRel w F base σ b blk):BlkRel w' F' base' σ' b' (blk.ren g):=by
 have hk:(blk.ren g).k=blk.k:=by cases blk <;> rfl
 have hnn:(blk.ren g).n=blk.n:=by cases blk <;> simp [Blk.ren,Blk.n,q2A (V.ren g)]
 have one:∀ v x,RepV w F base σ v x→x.within p=true→RepV w' F' base' σ' v (x.ren g):=fun v x h hx=>(h.mono (F':=F') (w':=w') (σ':=σ) hF (fun _ _ h=>h)).ren hc hσ hx
 rcases h with⟨h1,h2⟩|⟨l,es,ck,ds,rfl,h1,h2,h3,h4,h5⟩|⟨l,cs,T,h1,h2,h3,h4,h5,h6,h7⟩
 ·exact .inl ⟨by rw[hnn];exact h1,hn h2⟩
 ·refine .inr (.inl ⟨l,es,ck,_,rfl,hs l h1,h2.of (hw l h1) (fun q hq v hv=>hv.ren hσ (by have:=hp;simp only[Blk.within,List.all_eq_true] at this;exact this q hq)),h3,h4,h5.transM fun q hq v hv=>one v _ hv ?_⟩)
  simp only[Blk.within,List.all_eq_true] at hp
  exact hp q hq
 ·refine .inr <| .inr ⟨l,cs,T,hs l h1,by rw[hw l h1];exact h2,by rw[hk];exact h3,by rw[hnn];exact h4,h5,fun i row hrow=>?_,by cases blk <;> first|rfl|simp [Blk.entries] at h7⟩
  cases blk with
  |dat c k rows=>
   obtain⟨g1,g2⟩:=h6 i row hrow
   refine⟨by rw[hk];exact g1,fun j x hx=>?_⟩
   obtain⟨v,g3,g4,g5⟩:=g2 j x hx
   refine⟨v,g3,g4,?_⟩
   simp only[Blk.ren,Blk.row?,Option.map_eq_some_iff] at hrow
   obtain⟨r,_,rfl⟩:=hrow
   simp only[List.getElem?_map,Option.map_eq_some_iff] at hx
   obtain⟨d,_,rfl⟩:=hx
   have e:(mkd c d).ren g=mkd c d:=by unfold mkd;split <;> rfl
   rw[←e]
   exact one v _ g5 (by unfold mkd;split <;> rfl)
  |mix k rows=>
   simp only[Blk.ren,Blk.row?,List.getElem?_map,Option.map_eq_some_iff] at hrow
   obtain⟨r,hr,rfl⟩:=hrow
   obtain⟨g1,g2⟩:=h6 i r hr
   refine⟨by rw[q34];simpa [Blk.ren,Blk.k] using g1,fun j x hx=>?_⟩
   rw[q34,List.getElem?_map,Option.map_eq_some_iff] at hx
   obtain⟨y,hy,rfl⟩:=hx
   obtain⟨v,g3,g4,g5⟩:=g2 j y hy
   refine⟨v,g3,g4,one v y g5 ?_⟩
   simp only[Blk.within,List.all_eq_true] at hp
   have:=hp r (List.mem_of_getElem? hr)
   rw[q2u,List.all_eq_true] at this
   exact this y (List.mem_of_getElem? hy)
  |map es=>simp [Blk.entries] at h7
theorem BlkRel.dim(base':Nat){b:Nat}{blk:Blk}(h:BlkRel w F base σ b blk):BlkRel w F base' σ b blk.dim:=by
 have hk:blk.dim.k=blk.k:=by cases blk <;> rfl
 have hnn:blk.dim.n=blk.n:=by cases blk <;> simp [Blk.dim,Blk.n,q2A V.dim]
 rcases h with⟨h1,h2⟩|⟨l,es,ck,ds,rfl,h1,h2,h3,h4,h5⟩|⟨l,cs,T,h1,h2,h3,h4,h5,h6,h7⟩
 ·exact .inl ⟨by rw[hnn];exact h1,h2⟩
 ·exact .inr (.inl ⟨l,es,ck,_,rfl,h1,h2.of rfl (fun _ _ _ h=>h.dim),h3,h4,h5.trans fun v x h=>h.dim base'⟩)
 ·refine .inr <| .inr ⟨l,cs,T,h1,h2,by rw[hk];exact h3,by rw[hnn];exact h4,h5,fun i row hrow=>?_,by cases blk <;> first|rfl|simp [Blk.entries] at h7⟩
  cases blk with
  |dat c k rows=>
   simp only[Blk.dim,Blk.row?,Option.map_eq_some_iff] at hrow
   obtain⟨r,hr,rfl⟩:=hrow
   obtain⟨g1,g2⟩:=h6 i (r.map (mkd c)) (by simp [Blk.row?,hr])
   refine⟨by simpa [Blk.dim,Blk.k] using g1,fun j x hx=>?_⟩
   simp only[List.getElem?_map,Option.map_eq_some_iff] at hx
   obtain⟨d,hd,rfl⟩:=hx
   obtain⟨v,g3,g4,g5⟩:=g2 j (mkd c d) (by simp [hd])
   refine⟨v,g3,g4,?_⟩
   have e:mkd false d=(mkd c d).dim:=by unfold mkd;split <;> rfl
   rw[e]
   exact g5.dim base'
  |mix k rows=>
   simp only[Blk.dim,Blk.row?,List.getElem?_map,Option.map_eq_some_iff] at hrow
   obtain⟨r,hr,rfl⟩:=hrow
   obtain⟨g1,g2⟩:=h6 i r hr
   refine⟨by rw[q4a];simpa [Blk.dim,Blk.k] using g1,fun j x hx=>?_⟩
   rw[q4a,List.getElem?_map,Option.map_eq_some_iff] at hx
   obtain⟨y,hy,rfl⟩:=hx
   obtain⟨v,g3,g4,g5⟩:=g2 j y hy
   exact⟨v,g3,g4,g5.dim base'⟩
  |map es=>simp [Blk.entries] at h7
theorem q19(g:Nat→Nat)(b:Nat):∀(l:List Blk)(i:Nat)(H:List (Nat×Blk)),(∀ j,j<l.length→g (i+j)≠b)→look (putAll H g i l) b=look H b
 |[],i,H,_=>rfl
 |k :: r,i,H,h=>by
  simp only[putAll]
  rw[q19 g b r (i+1) _ (fun j hj=>by have:=h (j+1) (by simpa using hj);rwa [show i+1+j=i+(j+1) by omega])]
  rw[q0I,if_neg (by simpa using h 0 (by simp))]
theorem q9n(g:Nat→Nat):∀(l:List Blk)(i:Nat)(H:List (Nat×Blk))(j:Nat)(k:Blk),l[j]? = some k→(∀ x y,x<i+l.length→y<i+l.length→g x=g y→x=y)→look (putAll H g i l) (g (i+j))=some (k.ren g)
 |[],i,H,j,k,hk,_=>by simp at hk
 |k0 :: r,i,H,0,k,hk,hg=>by
  simp only[List.getElem?_cons_zero,Option.some.injEq] at hk
  subst hk
  simp only[putAll]
  rw[q19 g _ r (i+1) _ (fun j hj he=>by
   have:=hg (i+1+j) (i+0) (by simp;omega) (by simp) he
   omega)]
  rw[q0I,if_pos (by simp)]
 |k0 :: r,i,H,j+1,k,hk,hg=>by
  simp only[List.getElem?_cons_succ] at hk
  simp only[putAll]
  have:=q9n g r (i+1) (put H (g i) (k0.ren g)) j k hk (fun x y hx hy=>hg x y (by simp at hx⊢;omega) (by simp at hy⊢;omega))
  rwa [show i+1+j=i+(j+1) by omega] at this
theorem q1E{i:Nat}(h:i<bs.length)(nx:Nat):q1C bs nx i=bs[i]:=by
 unfold q1C
 rw[List.getElem?_eq_getElem h]
theorem q2n{i:Nat}(h:bs.length≤i)(nx:Nat):q1C bs nx i=nx+(i - bs.length):=by
 unfold q1C
 rw[List.getElem?_eq_none h]
theorem z7w(hn:bs.Nodup)(hlt:∀ b∈bs,b<nx){i j:Nat}(h:q1C bs nx i=q1C bs nx j):i=j:=by
 by_cases hi:i<bs.length <;> by_cases hj:j<bs.length
 ·rw[q1E hi,q1E hj] at h
  exact(List.getElem_inj hn).1 h
 ·rw[q1E hi,q2n (by omega)] at h
  have:=hlt _ (List.getElem_mem hi)
  omega
 ·rw[q1E hj,q2n (by omega)] at h
  have:=hlt _ (List.getElem_mem hj)
  omega
 ·rw[q2n (by omega),q2n (by omega)] at h
  omega
def inn(bs:List Nat)(σ:Nat→Option Loc)(i:Nat):Option Loc:=match bs[i]? with
 |some b=>σ b
 |none=>none
def back(bs:List Nat)(nx n:Nat)(σ τ:Nat→Option Loc)(b:Nat):Option Loc:=
 if b∈bs then τ (bs.idxOf b) else if nx≤b∧b<nx+(n - bs.length) then τ (bs.length+(b - nx)) else σ b
theorem z0R{b:Nat}(h:b∈bs):inn bs σ (bs.idxOf b)=σ b:=by
 unfold inn
 rw[List.getElem?_eq_getElem (List.idxOf_lt_length_of_mem h),List.getElem_idxOf]
theorem q1D{i:Nat}{l:Loc}(h:inn bs σ i=some l):∃ b,bs[i]? = some b∧σ b=some l:=by
 unfold inn at h
 split at h
 ·rename_i b hb;exact⟨b,hb,h⟩
 ·cases h
theorem q8R{nx n:Nat}{τ:Nat→Option Loc}(hn:bs.Nodup)(hlt:∀ b∈bs,b<nx)(hle:bs.length≤n){i:Nat}(hi:i<n):back bs nx n σ τ (q1C bs nx i)=τ i:=by
 unfold back
 by_cases h:i<bs.length
 ·rw[q1E h,if_pos (List.getElem_mem h)]
  congr 1
  exact hn.idxOf_getElem i h
 ·rw[q2n (by omega)]
  rw[if_neg (fun hm=>by have:=hlt _ hm;omega),if_pos (by omega)]
  congr 1
  omega
end Go.Vm
end

section
namespace Go.Vm
open Go.RowKit
variable {P:Program}{w w':World}{F F':Nat→Prop}{X:Nat→Nat→Prop}{base base' nx:Nat}{σ σ':Nat→Option Loc}{K:Cx}{s:S}{a:Act}{o:Oper}{env:Env}{H:List (Nat×Blk)}{bs:List Nat}
theorem q2d(f:Blk→Blk):∀(l:List (Nat×Blk))(t:Nat),look (l.map fun(t,v)=>(t,f v)) t=(look l t).map f
 |[],t=>rfl
 |(k,v) :: l,t=>by
  simp only[List.map_cons,look]
  split
  ·rfl
  ·exact q2d f l t
theorem BlkRel.forget{b:Nat}{blk:Blk}(p:Nat→Bool)(hF:∀ b,F b→F' b∧w'.heap[b]? = w.heap[b]?)(hσ:∀ b l,σ b=some l→p b=false→σ' b=some l)(hs:∀ l,σ b=some l→σ' b=some l)(hn:σ b=none→σ' b=none)(hw:∀ l,σ b=some l→w'.heap[l.blk]? = w.heap[l.blk]?)(h:BlkRel w F base σ b blk) :
  BlkRel w' F' base σ' b (blk.forget p):=by
 have hk:(blk.forget p).k=blk.k:=by cases blk <;> rfl
 have hnn:(blk.forget p).n=blk.n:=by cases blk <;> simp [Blk.forget,Blk.n,q2A (V.forget p)]
 rcases h with⟨h1,h2⟩|⟨l,es,ck,ds,rfl,h1,h2,h3,h4,h5⟩|⟨l,cs,T,h1,h2,h3,h4,h5,h6,h7⟩
 ·exact .inl ⟨by rw[hnn];exact h1,hn h2⟩
 ·exact .inr (.inl ⟨l,es,ck,_,rfl,hs l h1,h2.of (hw l h1) (fun _ _ _ h=>h.forget hσ),h3,h4,h5.trans fun v x h=>h.forget hF hσ⟩)
 ·refine .inr <| .inr ⟨l,cs,T,hs l h1,by rw[hw l h1];exact h2,by rw[hk];exact h3,by rw[hnn];exact h4,h5,fun i row hrow=>?_,by rw[q1z,h7];rfl⟩
  cases blk with
  |dat c k rows=>
   obtain⟨g1,g2⟩:=h6 i row hrow
   refine⟨by rw[hk];exact g1,fun j x hx=>?_⟩
   obtain⟨v,g3,g4,g5⟩:=g2 j x hx
   refine⟨v,g3,g4,?_⟩
   have hp:x.ref0 p=false:=by
    simp only[Blk.forget,Blk.row?,Option.map_eq_some_iff] at hrow
    obtain⟨r,_,rfl⟩:=hrow
    simp only[List.getElem?_map,Option.map_eq_some_iff] at hx
    obtain⟨d,_,rfl⟩:=hx
    unfold mkd
    split <;> rfl
   exact g5.keep0 hF hσ hp
  |mix k rows=>
   simp only[Blk.forget,Blk.row?,List.getElem?_map,Option.map_eq_some_iff] at hrow
   obtain⟨r,hr,rfl⟩:=hrow
   obtain⟨g1,g2⟩:=h6 i r hr
   refine⟨by simpa [Blk.forget,Blk.k] using g1,fun j x hx=>?_⟩
   simp only[List.getElem?_map,Option.map_eq_some_iff] at hx
   obtain⟨y,hy,rfl⟩:=hx
   obtain⟨v,g3,g4,g5⟩:=g2 j y hy
   exact⟨v,g3,g4,g5.drop1 hF hσ⟩
  |map es=>simp [Blk.entries] at h7
theorem RepV.loseMany{lost:List Nat}(hF:∀ b,F b→F' b∧w'.heap[b]? = w.heap[b]?)(hσ:∀ b l,σ b=some l→b∉lost→σ' b=some l){v:Value}{x:V}(h:RepV w F base σ v x):RepV w' F' base σ' v (q4T (.many lost) x):=by
 cases lost with
 |nil=>exact h.mono hF (fun b l hb=>hσ b l hb (by simp))
 |cons c r=>
  simp only[q4T]
  exact h.forget hF fun b l hb hp=>hσ b l hb (by simpa using hp)
theorem q7V(lost:List Nat)(b:Nat)(k:Blk)(h:look (q0W lost H) b=some k):∃ k0,look H b=some k0∧(lost=[]∧k=k0∨k=k0.forget lost.contains):=by
 cases lost with
 |nil=>exact⟨k,h,.inl ⟨rfl,rfl⟩⟩
 |cons c r=>
  simp only[q0W,forgetH,q2d,Option.map_eq_some_iff] at h
  obtain⟨k0,h1,rfl⟩:=h
  exact⟨k0,h1,.inr rfl⟩
theorem q5P(l:List Blk)(i:Nat):look (indexed l) i=l[i]?:=q2Q l i
theorem q48(hK:K.Sound P)(hH:HeapRel w F X base σ s.nx H)(hG:GlobRel w F K.glob)(hb:base≤w.heap.size)(hdom:∀ b blk,look H b=some blk→b<s.nx){f:FuncId}{vs:List V}{vals:Array Value}{H':List (Nat×Blk)}{r:V}{p:Lost}{nx':Nat}
  (hv:Reps w F base σ vals vs) (hr:q67 K s.nx H f vs bs=some (H',r,p,nx')) :
  q0M P f=true∧Calls P f vals w fun e w'=>∃ v F' σ',e=.returned v∧Wrote w w' F F' X base σ σ' p nx' H'∧RepV w' F' base σ' v r:=by
 unfold q67 at hr
 split at hr
 case isFalse=>cases hr
 rename_i hc
 simp only[Bool.and_eq_true,decide_eq_true_eq,List.all_eq_true] at hc
 obtain⟨⟨hnd,hwi⟩,hcl⟩:=hc
 cases hb1:handed H bs with
 |none=>simp [hb1] at hr
 |some blks=>
  simp only[hb1] at hr
  cases hef:K.eff f (vs.map fun v=>v.dim.ren bs.idxOf) blks with
  |none=>simp [hef] at hr
  |some q=>
   obtain⟨r0,blks',mv⟩:=q
   simp only[hef] at hr
   split at hr
   case isFalse=>cases hr
   rename_i hle
   simp only[Option.some.injEq,Prod.mk.injEq] at hr
   obtain⟨rfl,rfl,rfl,rfl⟩:=hr
   obtain⟨hcal,hcon⟩:=hK.eff f _ _ _ _ _ hef
   refine⟨hcal,?_⟩
   obtain⟨l1,l2⟩:=q0l hb1
   simp only[closedB,List.all_eq_true] at hcl
   have hin:∀ b∈bs,∃ k,look H b=some k∧k.within bs.contains=true:=fun b hm=>by
    have:=hcl b hm
    split at this
    ·rename_i k hk;exact⟨k,hk,this⟩
    ·cases this
   have hlt:∀ b∈bs,b<s.nx:=fun b hm=>by
    obtain⟨k,hk,_⟩:=hin b hm
    exact hdom b k hk
   have hidx:∀ b l,bs.contains b=true→σ b=some l→inn bs σ (bs.idxOf b)=some l:=fun b l h1 h2=>by rw[z0R (by simpa using h1)];exact h2
   have hcc:∀ c b,col F w.heap.size c b→col F w.heap.size c b:=fun _ _ h=>h
   have blk_at:∀(i:Nat) (k:Blk),blks[i]? = some k→∃ b k0,bs[i]? = some b∧look H b=some k0∧k0.within bs.contains=true∧k=k0.dim.ren bs.idxOf:=by
    intro i k hk
    have hi:i<bs.length:=by rw[←l1];exact(List.getElem?_eq_some_iff.1 hk).1
    obtain⟨y,hy,hz⟩:=l2 i _ (List.getElem?_eq_getElem hi)
    rw[hk] at hy
    obtain rfl:=Option.some.inj hy
    obtain⟨k0,h1,h2⟩:=hin _ (List.getElem_mem hi)
    simp only[h1,Option.map_some,Option.some.injEq] at hz
    exact⟨_,k0,List.getElem?_eq_getElem hi,h1,h2,hz.symm⟩
   have wdim:∀(k:Blk),k.within bs.contains=true→k.dim.within bs.contains=true:=by
    intro k hk
    cases k with
    |dat=>rfl
    |mix kk rows=>
     simp only[Blk.dim,Blk.within,List.all_eq_true,List.mem_map,forall_exists_index,and_imp,forall_apply_eq_imp_iff₂] at hk ⊢
     intro row hrow
     rw[q2t]
     exact hk row hrow
    |map es=>
     simp only[Blk.dim,Blk.within,List.all_eq_true,List.mem_map,forall_exists_index,and_imp,forall_apply_eq_imp_iff₂] at hk ⊢
     intro q hq
     rw[q3Z]
     exact hk q hq
   have hheap:HeapRel w F (OwnB (inn bs σ)) w.heap.size (inn bs σ) blks.length (indexed blks):=by
    refine⟨fun i k hi=>?_,fun i j l l' h1 h2 he=>?_,fun i l hi=>?_,hH.fro⟩
    ·rw[q5P] at hi
     obtain⟨b,k0,h1,h2,h3,rfl⟩:=blk_at i k hi
     have hσi:inn bs σ i=σ b:=by unfold inn;rw[h1]
     refine((hH.blk b k0 h2).dim w.heap.size).ren (w':=w) (F':=F) (p:=bs.contains) (fun b hb=>⟨hb,rfl⟩) hcc hidx (wdim k0 h3) (fun l hl=>by rw[hσi];exact hl) (fun hl=>by rw[hσi];exact hl) (fun _ _=>rfl)
    ·obtain⟨b,hb1',h3⟩:=q1D h1
     obtain⟨b',hb2,h4⟩:=q1D h2
     obtain rfl:=hH.inj b b' l l' h3 h4 he
     exact(List.getElem?_inj (List.getElem?_eq_some_iff.1 hb1').1 hnd).1 (hb1'.trans hb2.symm)
    ·obtain⟨b,hb1',h3⟩:=q1D hi
     obtain⟨_,h5,_,h6⟩:=hH.own b l h3
     exact⟨by rw[l1];exact(List.getElem?_eq_some_iff.1 hb1').1,h5,.inr ⟨l,hi,rfl⟩,h6⟩
   have hargs:Reps w F w.heap.size (inn bs σ) vals (vs.map fun v=>v.dim.ren bs.idxOf):=by
    refine⟨by simpa using hv.1,fun j v x hvj hx=>?_⟩
    simp only[List.getElem?_map,Option.map_eq_some_iff] at hx
    obtain⟨y,hy,rfl⟩:=hx
    exact((hv.2 j v y hvj hy).dim w.heap.size).ren hcc hidx (by rw[q3Z];exact hwi y (List.mem_of_getElem? hy))
   refine(hcon w F (inn bs σ) vals hG hheap hargs).mono fun e w' ⟨v,F',τ,he,hfr,hF1,hF2,hRv,hHr,hst⟩=>?_
   refine⟨v,F',back bs s.nx blks'.length σ τ,he,?_,?_⟩
   case refine_2=>
    have hown:∀ i l,τ i=some l→i<blks'.length:=fun i l h=>(hHr.own i l h).1
    refine(hRv.ren (p:=fun _=>true) (base':=base) (σ':=back bs s.nx blks'.length σ τ) (g:=q1C bs s.nx) ?_ (fun i l _ hl=>by rw[q8R hnd hlt hle (hown i l hl)];exact hl) ?_)
    ·intro c b hb'
     cases c
     ·exact hb'
     ·exact⟨hb'.1,Nat.le_trans hb hb'.2⟩
    ·exact q3i _
   case refine_1=>
    have hown:∀ i l,τ i=some l→i<blks'.length:=fun i l h=>(hHr.own i l h).1
    have hcol:∀ c b,col F' w.heap.size c b→col F' base c b:=by
     intro c b hb'
     cases c
     ·exact hb'
     ·exact⟨hb'.1,Nat.le_trans hb hb'.2⟩
    have hsame:∀ b,F b→F' b∧w'.heap[b]? = w.heap[b]?:=fun b hb'=>⟨hF1 b hb',hfr.block b (hH.fro b hb') (by
     rintro i ⟨l,hi,rfl⟩
     obtain⟨b',_,h3⟩:=q1D hi
     exact(hH.own b' l h3).2.1 hb')⟩
    have hout:∀ b l,b∉bs→σ b=some l→w'.heap[l.blk]? = w.heap[l.blk]?:=fun b l hnb hl=>hfr.block _ (hH.own b l hl).2.2.2 (by
     rintro i ⟨l',hi,he'⟩
     obtain⟨b',hb',h3⟩:=q1D hi
     obtain rfl:=hH.inj b' b l' l h3 hl he'
     exact hnb (List.mem_of_getElem? hb'))
    have back_out:∀ b l,b∉bs→σ b=some l→back bs s.nx blks'.length σ τ b=some l:=by
     intro b l hnb hl
     unfold back
     rw[if_neg hnb,if_neg (by have:=(hH.own b l hl).1;omega)]
     exact hl
    have hσσ:∀ b l,σ b=some l→b∉mv.map (q1C bs s.nx)→back bs s.nx blks'.length σ τ b=some l:=by
     intro b l hl hnm
     by_cases hbm:b∈bs
     ·have hi:=List.idxOf_lt_length_of_mem hbm
      have hni:bs.idxOf b∉mv:=fun hm=>hnm (List.mem_map.2 ⟨_,hm,by rw[q1E hi,List.getElem_idxOf]⟩)
      have:=hst (bs.idxOf b) l (by rw[l1];exact hi) (by rw[z0R hbm];exact hl) hni
      unfold back
      rw[if_pos hbm]
      exact this
     ·exact back_out b l hbm hl
    have hginj:∀ x y,x<0+blks'.length→y<0+blks'.length→q1C bs s.nx x=q1C bs s.nx y→x=y:=fun x y _ _ h=>z7w hnd hlt h
    have back_some:∀ b l,back bs s.nx blks'.length σ τ b=some l→(∃ i,i<blks'.length∧b=q1C bs s.nx i∧τ i=some l)∨(b∉bs∧σ b=some l):=by
     intro b l h
     unfold back at h
     split at h
     ·rename_i hbm
      have hi:=List.idxOf_lt_length_of_mem hbm
      exact .inl ⟨_,by omega,by rw[q1E hi,List.getElem_idxOf],h⟩
     ·rename_i hbm
      split at h
      ·rename_i hr'
       refine .inl ⟨bs.length+(b - s.nx),by omega,?_,h⟩
       rw[q2n (by omega)]
       omega
      ·exact .inr ⟨hbm,h⟩
    refine⟨⟨hfr.os,hfr.tape,hfr.output,hfr.size,fun k hk hx=>hfr.block k (by omega) ?_⟩,hsame,fun b hb'=>(hF2 b hb').imp id (fun h=>Nat.le_trans hb h),fun v x h=>h.loseMany hsame hσσ,?_,fun b l hl hnm=>hσσ b l hl hnm⟩
    ·rintro i ⟨l,hi,rfl⟩
     obtain⟨b',_,h3⟩:=q1D hi
     rcases(hH.own b' l h3).2.2.1 with h|h
     ·omega
     ·exact hx b' h
    ·simp only[loseH]
     refine⟨fun b k hk=>?_,fun b b' l l' h1 h2 he'=>?_,fun b l hl=>?_,hHr.fro⟩
     ·by_cases him:∃ j,j<blks'.length∧q1C bs s.nx j=b
      ·obtain⟨j,hj,rfl⟩:=him
       have:=q9n (q1C bs s.nx) blks' 0 (q0W (mv.map (q1C bs s.nx)) H) j blks'[j] (List.getElem?_eq_getElem hj) hginj
       rw[Nat.zero_add] at this
       rw[this] at hk
       obtain rfl:=Option.some.inj hk
       have hbj:=hHr.blk j blks'[j] (by rw[q5P];exact List.getElem?_eq_getElem hj)
       refine hbj.ren (p:=fun _=>true) (fun b hb'=>⟨hb',rfl⟩) hcol (fun i l _ hl=>by rw[q8R hnd hlt hle (hown i l hl)];exact hl) (q7g _) (fun l hl=>by rw[q8R hnd hlt hle hj];exact hl) (fun hl=>by rw[q8R hnd hlt hle hj];exact hl) (fun _ _=>rfl)
      ·rw[q19 _ _ _ _ _ (fun j hj he'=>him ⟨j,hj,by rw[Nat.zero_add] at he';exact he'⟩)] at hk
       obtain⟨k0,h1,h2⟩:=q7V _ _ _ hk
       have hnb:b∉bs:=fun hbm=>him ⟨bs.idxOf b,by have:=List.idxOf_lt_length_of_mem hbm;omega,by rw[q1E (List.idxOf_lt_length_of_mem hbm),List.getElem_idxOf]⟩
       have hnone:σ b=none→back bs s.nx blks'.length σ τ b=none:=by
        intro h0
        cases hbk:back bs s.nx blks'.length σ τ b with
        |none=>rfl
        |some l=>
         rcases back_some b l hbk with⟨i,hi,rfl,_⟩|⟨_,h3⟩
         ·exact absurd ⟨i,hi,rfl⟩ him
         ·rw[h0] at h3;cases h3
       rcases h2 with⟨hm0,rfl⟩|rfl
       ·exact(hH.blk b k h1).mono hsame (fun b l hl=>hσσ b l hl (by rw[hm0];simp)) hnone (fun l hl=>hout b l hnb hl)
       ·exact(hH.blk b k0 h1).forget _ hsame (fun b l hl hp=>hσσ b l hl (by simpa using hp)) (fun l hl=>back_out b l hnb hl) hnone (fun l hl=>hout b l hnb hl)
     ·rcases back_some b l h1 with⟨i,hi,rfl,h3⟩|⟨hnb,h3⟩ <;> rcases back_some b' l' h2 with⟨j,hj,rfl,h4⟩|⟨hnb',h4⟩
      ·rw[hHr.inj i j l l' h3 h4 he']
      ·exfalso
       have:=(hH.own b' l' h4).2.2.2
       rcases(hHr.own i l h3).2.2.1 with h5|⟨l'',h5,h6⟩
       ·omega
       ·obtain⟨b2,hb2,h7⟩:=q1D h5
        obtain rfl:=hH.inj b2 b' l'' l' h7 h4 (h6.trans he')
        exact hnb' (List.mem_of_getElem? hb2)
      ·exfalso
       have:=(hH.own b l h3).2.2.2
       rcases(hHr.own j l' h4).2.2.1 with h5|⟨l'',h5,h6⟩
       ·omega
       ·obtain⟨b2,hb2,h7⟩:=q1D h5
        obtain rfl:=hH.inj b2 b l'' l h7 h3 (h6.trans he'.symm)
        exact hnb (List.mem_of_getElem? hb2)
      ·exact hH.inj b b' l l' h3 h4 he'
     ·rcases back_some b l hl with⟨i,hi,rfl,h3⟩|⟨hnb,h3⟩
      ·obtain⟨_,h4,h5,h6⟩:=hHr.own i l h3
       refine⟨?_,h4,?_,h6⟩
       ·by_cases hib:i<bs.length
        ·rw[q1E hib];have:=hlt _ (List.getElem_mem hib);omega
        ·rw[q2n (by omega)];omega
       ·rcases h5 with h5|⟨l'',h5,h7⟩
        ·exact .inl (Nat.le_trans hb h5)
        ·obtain⟨b2,hb2,h8⟩:=q1D h5
         rw[←h7]
         have:q1C bs s.nx i=b2:=by
          obtain⟨hi2,he2⟩:=List.getElem?_eq_some_iff.1 hb2
          rw[q1E hi2,he2]
         rw[this]
         exact(hH.own b2 l'' h8).2.2.1
      ·obtain⟨h4,h5,h6,h7⟩:=hH.own b l h3
       refine⟨by omega,fun hf=>?_,h6,Nat.lt_of_lt_of_le h7 hfr.size⟩
       rcases hF2 _ hf with h8|h8
       ·exact h5 h8
       ·omega
theorem z95{f:FuncId}{ea:E}{H':List (Nat×Blk)}{r:V}{p:Lost}{nx':Nat}(hw:effK P env o=some (f,ea))(hev:evWr K s H (.calle f ea)=some (H',r,p,nx'))
  (hops:∀ x∈o.op.operands.toList,Held P K s env w F base σ a x) (hK:K.Sound P) (hH:HeapRel w F X base σ s.nx H) (hG:GlobRel w F K.glob) (hb:base≤w.heap.size) (hdom:∀ b blk,look H b=some blk→b<s.nx) {next:Act→World→Prop} {Q:Exit→Act→World→Prop}
  (hn:∀ v w' F' σ',Wrote w w' F F' X base σ σ' p nx' H'→RepV w' F' base σ' v r→next (a.put o.dst v) w'):o.wp P a w next Q:=by
 unfold effK at hw
 cases hop:o.op with
 |call c=>
  obtain⟨callee,args,argTypes⟩:=c
  simp only[hop] at hw
  cases callee with
  |value fv=>
   cases fv with
   |func g=>
    simp only at hw
    split at hw
    case isFalse=>cases hw
    rename_i hcl
    simp only[Bool.and_eq_true,bne_iff_ne,ne_eq] at hcl
    obtain⟨hcl,hnd⟩:=hcl
    simp only[Option.map_eq_some_iff] at hw
    obtain⟨es,hes,he⟩:=hw
    simp only[Prod.mk.injEq] at he
    obtain⟨rfl,rfl⟩:=he
    simp only[evWr] at hev
    cases hvs:ev K s (q2H es) with
    |none=>simp [hvs] at hev
    |some vv=>
     obtain⟨vs,rfl,hmo⟩:=q24 K s es vv hvs
     have hnd':(g==dynF)=false:=by simpa using hnd
     simp only[hvs,q2m,hnd',Bool.false_eq_true,if_false] at hev
     have hreps:=q3K (t:=fun i=>argTypes.getD i 0) (a:=a) (args:=args.toList) (fun x hx=>by
      intro t e r he hr
      exact hops x (by simp [hop,Op.operands,Call.operands];exact .inr (by simpa using hx)) t e r he hr) 0 hes hmo
     simp only[Array.toArray_toList] at hreps
     obtain⟨_,hc⟩:=q48 hK hH hG hb hdom hreps hev
     exact q2s (first:=#[]) (R:=fun v w'=>∃ F' σ',Wrote w w' F F' X base σ σ' p nx' H'∧RepV w' F' base σ' v r) hop rfl rfl hcl (by simp) (hc.mono fun e w' ⟨v,F',σ',he,h1,h2⟩=>⟨v,he,F',σ',h1,h2⟩) fun v w' ⟨F',σ',h1,h2⟩=>hn v w' F' σ' h1 h2
   |tmp t=>
    simp only[Option.map_eq_some_iff] at hw
    obtain⟨es,hes,he⟩:=hw
    simp only[Prod.mk.injEq] at he
    obtain⟨rfl,rfl⟩:=he
    simp only[evWr,ev] at hev
    cases hfv:ev K s (env.get t) with
    |none=>simp [hfv] at hev
    |some fv=>
     cases hvs:ev K s (q2H es) with
     |none=>simp [hfv,hvs] at hev
     |some vv=>
      obtain⟨vs,rfl,hmo⟩:=q24 K s es vv hvs
      simp only[hfv,hvs] at hev
      cases fv with
      |fn f caps=>
       simp only[q2m,beq_self_eq_true,if_true] at hev
       have hreps:=q3K (t:=fun i=>argTypes.getD i 0) (a:=a) (args:=args.toList) (fun x hx=>by
        intro t e r he hr
        exact hops x (by simp [hop,Op.operands,Call.operands];exact .inr (by simpa using hx)) t e r he hr) 0 hes hmo
       simp only[Array.toArray_toList] at hreps
       have hfun:=hops (.tmp t) (by simp [hop,Op.operands,Call.operands]) 0 _ _ rfl hfv
       generalize hfe:a.eval (.tmp t)=fval at hfun
       cases hfun with
       |fn _ cs _ g1 g2=>
        have hall:Reps w F base σ (args.map a.eval++cs) (vs++caps):=by
         refine⟨by have:=hreps.1;simp only[Array.size_append,List.length_append];omega,fun j v x hv hx=>?_⟩
         have hsz:(args.map a.eval).size=vs.length:=hreps.1
         rw[Array.getElem?_append] at hv
         rw[List.getElem?_append] at hx
         by_cases hj:j<vs.length
         ·rw[if_pos (by omega)] at hv
          rw[if_pos hj] at hx
          exact hreps.2 j v x hv hx
         ·rw[if_neg (by omega)] at hv
          rw[if_neg hj] at hx
          rw[hsz] at hv
          exact g2 _ v x hv hx
        obtain⟨hcl,hc⟩:=q48 hK hH hG hb hdom hall hev
        exact q2s (first:=#[]) (R:=fun v w'=>∃ F' σ',Wrote w w' F F' X base σ σ' p nx' H'∧RepV w' F' base σ' v r) hop rfl hfe hcl rfl (hc.mono fun e w' ⟨v,F',σ',he,h1,h2⟩=>⟨v,he,F',σ',h1,h2⟩) fun v w' ⟨F',σ',h1,h2⟩=>hn v w' F' σ' h1 h2
      |_=>simp [q2m] at hev
   |_=>simp at hw
  |_=>simp at hw
 |_=>simp [hop] at hw
end Go.Vm
end

section
namespace Go.Vm
open Go.RowKit
variable {K:Cx}{s:S}
abbrev q1w:=List (E×Bool)
def Won(K:Cx)(s:S)(ch:q1w):Prop:=∀ p∈ch,∃ c,ev K s p.1=some (.d c (.bool p.2))
def q7n(c:E)(b:Bool)(l:List (q1w×E)):List (q1w×E):=l.map fun(ch,e)=>((c,b) :: ch,e)
def subs:E→List (q1w×E)
 |.un o a=>([],.un o a) :: subs a
 |.bin o a b=>([],.bin o a b) :: (subs a++subs b)
 |.eqs n g ks a b=>([],.eqs n g ks a b) :: (subs a++subs b)
 |.and a b=>([],.and a b) :: (subs a++q7n a true (subs b))
 |.or a b=>([],.or a b) :: (subs a++q7n a false (subs b))
 |.cond c a b=>([],.cond c a b) :: (subs c++(q7n c true (subs a)++q7n c false (subs b)))
 |.fa off a=>([],.fa off a) :: subs a
 |.fld off n g a=>([],.fld off n g a) :: subs a
 |.ia k a i=>([],.ia k a i) :: (subs a++subs i)
 |.aa len k a i=>([],.aa len k a i) :: (subs a++subs i)
 |.ix a i=>([],.ix a i) :: (subs a++subs i)
 |.ax len k g a i=>([],.ax len k g a i) :: (subs a++subs i)
 |.ld n g a=>([],.ld n g a) :: subs a
 |.ext i a=>([],.ext i a) :: subs a
 |.len g a=>([],.len g a) :: subs a
 |.cut g bl bh bm k a lo hi mx=>([],.cut g bl bh bm k a lo hi mx) :: (subs a++(subs lo++(subs hi++subs mx)))
 |.agg cs=>([],.agg cs) :: subs cs
 |.set off n e b=>([],.set off n e b) :: (subs e++subs b)
 |.mki t a=>([],.mki t a) :: subs a
 |.mkf f caps=>([],.mkf f caps) :: subs caps
 |.conv k a=>([],.conv k a) :: subs a
 |.lkp ok kk z m k=>([],.lkp ok kk z m k) :: (subs z++(subs m++subs k))
 |.mlen a=>([],.mlen a) :: subs a
 |.b2s a=>([],.b2s a) :: subs a
 |.i2s a=>([],.i2s a) :: subs a
 |.call f args=>([],.call f args) :: subs args
 |.callv f args=>([],.callv f args) :: (subs f++subs args)
 |.cons a b=>([],.cons a b) :: (subs a++subs b)
 |e=>[([],e)]
def conds:E→List (q1w×E)
 |.un _ a=>conds a
 |.bin _ a b=>conds a++conds b
 |.eqs _ _ _ a b=>conds a++conds b
 |.and a b=>([],a) :: (conds a++q7n a true (conds b))
 |.or a b=>([],a) :: (conds a++q7n a false (conds b))
 |.cond c a b=>([],c) :: (conds c++(q7n c true (conds a)++q7n c false (conds b)))
 |.fa _ a=>conds a
 |.fld _ _ _ a=>conds a
 |.ia _ a i=>conds a++conds i
 |.aa _ _ a i=>conds a++conds i
 |.ix a i=>conds a++conds i
 |.ax _ _ _ a i=>conds a++conds i
 |.ld _ _ a=>conds a
 |.ext _ a=>conds a
 |.len _ a=>conds a
 |.cut _ _ _ _ _ a lo hi mx=>conds a++(conds lo++(conds hi++conds mx))
 |.agg cs=>conds cs
 |.set _ _ e b=>conds e++conds b
 |.mki _ a=>conds a
 |.mkf _ caps=>conds caps
 |.conv _ a=>conds a
 |.lkp _ _ z m k=>conds z++(conds m++conds k)
 |.mlen a=>conds a
 |.b2s a=>conds a
 |.i2s a=>conds a
 |.call _ args=>conds args
 |.callv f args=>conds f++conds args
 |.cons a b=>conds a++conds b
 |_=>[]
theorem q2b{c:E}{b:Bool}{l:List (q1w×E)}{ch:q1w}{e:E}(h:(ch,e)∈q7n c b l):∃ ch',ch=(c,b) :: ch'∧(ch',e)∈l:=by
 simp only[q7n,List.mem_map] at h
 obtain⟨⟨ch',e'⟩,h1,h2⟩:=h
 simp only[Prod.mk.injEq] at h2
 obtain⟨rfl,rfl⟩:=h2
 exact⟨ch',rfl,h1⟩
theorem Won.tail{p:E×Bool}{ch:q1w}(h:Won K s (p :: ch)):Won K s ch:=fun q hq=>h q (List.mem_cons_of_mem _ hq)
theorem Won.head{p:E×Bool}{ch:q1w}(h:Won K s (p :: ch)):∃ c,ev K s p.1=some (.d c (.bool p.2)):=h p (List.mem_cons_self ..)
theorem j0N{ok:Bool}{kk:Nat}{z m k:E}{r:V}(h:ev K s (.lkp ok kk z m k)=some r):(∃ v,ev K s z=some v)∧(∃ v,ev K s m=some v)∧(∃ v,ev K s k=some v):=by
 simp only[ev] at h
 split at h
 ·rename_i h1 h2 h3;exact⟨⟨_,h1⟩,⟨_,h2⟩,⟨_,h3⟩⟩
 ·cases h
theorem z67{a b:E}{r:V}(h:ev K s (.and a b)=some r):∃ c x,ev K s a=some (.d c (.bool x))∧(x=true→∃ c' y,ev K s b=some (.d c' (.bool y))∧r=.bool y)∧(x=false→r=.bool false):=by
 simp only[ev] at h
 split at h
 ·rename_i c x c' y h1 h2
  obtain rfl:=Option.some.inj h
  exact⟨c,x,h1,fun hx=>⟨c',y,h2,by subst hx;rfl⟩,fun hx=>by subst hx;rfl⟩
 ·rename_i c h1 _
  obtain rfl:=Option.some.inj h
  exact⟨c,false,h1,(fun hx=>by cases hx),fun _=>rfl⟩
 ·cases h
theorem j2G{a b:E}{r:V}(h:ev K s (.or a b)=some r):∃ c x,ev K s a=some (.d c (.bool x))∧(x=false→∃ c' y,ev K s b=some (.d c' (.bool y))∧r=.bool y)∧(x=true→r=.bool true):=by
 simp only[ev] at h
 split at h
 ·rename_i c x c' y h1 h2
  obtain rfl:=Option.some.inj h
  exact⟨c,x,h1,fun hx=>⟨c',y,h2,by subst hx;rfl⟩,fun hx=>by subst hx;rfl⟩
 ·rename_i c h1 _
  obtain rfl:=Option.some.inj h
  exact⟨c,true,h1,(fun hx=>by cases hx),fun _=>rfl⟩
 ·cases h
theorem z03{c a b:E}{r:V}(h:ev K s (.cond c a b)=some r):∃ k x,ev K s c=some (.d k (.bool x))∧(x=true→ev K s a=some r)∧(x=false→ev K s b=some r):=by
 simp only[ev] at h
 split at h
 ·rename_i k x h1
  cases x
  ·exact⟨k,false,h1,(fun hx=>by cases hx),fun _=>by simpa using h⟩
  ·exact⟨k,true,h1,(fun _=>by simpa using h),fun hx=>by cases hx⟩
 ·cases h
theorem q1v{f:V→Option V}{a:E}{r:V}(h:(match ev K s a with|some v=>f v|none=>none)=some r):∃ v,ev K s a=some v:=by
 cases ha:ev K s a with
 |none=>simp [ha] at h
 |some v=>exact⟨v,rfl⟩
theorem q3d{f:V→V→Option V}{a b:E}{r:V}(h:(match ev K s a,ev K s b with|some v,some u=>f v u|_,_=>none)=some r):(∃ v,ev K s a=some v)∧∃ v,ev K s b=some v:=by
 cases ha:ev K s a with
 |none=>simp [ha] at h
 |some v=>
  cases hb:ev K s b with
  |none=>simp [ha,hb] at h
  |some u=>exact⟨⟨v,rfl⟩,⟨u,rfl⟩⟩
theorem j0L{off n:Nat}{e b:E}{r:V}(h:ev K s (.set off n e b)=some r):(∃ v,ev K s e=some v)∧∃ v,ev K s b=some v:=q3d h
theorem j0P{cs:E}{r:V}(h:ev K s (.agg cs)=some r):∃ v,ev K s cs=some v:=by
 simp only[ev] at h
 split at h
 ·rename_i h1;exact⟨_,h1⟩
 ·cases h
theorem j0M{f:FuncId}{cs:E}{r:V}(h:ev K s (.mkf f cs)=some r):∃ v,ev K s cs=some v:=by
 simp only[ev] at h
 split at h
 ·rename_i h1;exact⟨_,h1⟩
 ·cases h
theorem z6X{f:FuncId}{cs:E}{r:V}(h:ev K s (.call f cs)=some r):∃ v,ev K s cs=some v:=by
 simp only[ev] at h
 split at h
 ·rename_i h1;exact⟨_,h1⟩
 ·cases h
theorem z18{f cs:E}{r:V}(h:ev K s (.callv f cs)=some r):(∃ v,ev K s f=some v)∧∃ v,ev K s cs=some v:=by
 simp only[ev] at h
 split at h
 ·rename_i h1 h2;exact⟨⟨_,h1⟩,⟨_,h2⟩⟩
 ·cases h
theorem z6S{a b:E}{r:V}(h:ev K s (.cons a b)=some r):(∃ v,ev K s a=some v)∧∃ v,ev K s b=some v:=by
 simp only[ev] at h
 split at h
 ·rename_i h1 h2;exact⟨⟨_,h1⟩,⟨_,h2⟩⟩
 ·cases h
theorem j0O{g bl bh bm:Bool}{k:Nat}{a lo hi mx:E}{r:V}(h:ev K s (.cut g bl bh bm k a lo hi mx)=some r):(∃ v,ev K s a=some v)∧(∃ v,ev K s lo=some v)∧(∃ v,ev K s hi=some v)∧∃ v,ev K s mx=some v:=by
 simp only[ev] at h
 split at h
 ·rename_i h1 h2 h3 h4;exact⟨⟨_,h1⟩,⟨_,h2⟩,⟨_,h3⟩,⟨_,h4⟩⟩
 ·cases h
theorem z0p:∀(root:E)(r:V),ev K s root=some r→∀ ch e,(ch,e)∈subs root→Won K s ch→∃ v,ev K s e=some v:=by
 have leaf:∀(root:E) (r:V),subs root=[([],root)]→ev K s root=some r→∀ ch e,(ch,e)∈subs root→Won K s ch→∃ v,ev K s e=some v:=by
  intro root r hs h ch e he _
  rw[hs] at he
  simp only[List.mem_singleton,Prod.mk.injEq] at he
  obtain⟨_,rfl⟩:=he
  exact⟨r,h⟩
 intro root
 induction root with
 |un o a iha=>
  intro r h ch e he hw
  obtain⟨v,hv⟩:=q1v h
  simp only[subs,List.mem_cons,Prod.mk.injEq] at he
  rcases he with⟨_,rfl⟩|he
  ·exact⟨r,h⟩
  ·exact iha v hv ch e he hw
 |bin o a b iha ihb=>
  intro r h ch e he hw
  obtain⟨⟨v,hv⟩,⟨u,hu⟩⟩:=q3d h
  simp only[subs,List.mem_cons,Prod.mk.injEq,List.mem_append] at he
  rcases he with⟨_,rfl⟩|he|he
  ·exact⟨r,h⟩
  ·exact iha v hv ch e he hw
  ·exact ihb u hu ch e he hw
 |eqs n g ks a b iha ihb=>
  intro r h ch e he hw
  obtain⟨⟨v,hv⟩,⟨u,hu⟩⟩:=q3d h
  simp only[subs,List.mem_cons,Prod.mk.injEq,List.mem_append] at he
  rcases he with⟨_,rfl⟩|he|he
  ·exact⟨r,h⟩
  ·exact iha v hv ch e he hw
  ·exact ihb u hu ch e he hw
 |and a b iha ihb=>
  intro r h ch e he hw
  obtain⟨c,x,hx,h1,h2⟩:=z67 h
  simp only[subs,List.mem_cons,Prod.mk.injEq,List.mem_append] at he
  rcases he with⟨_,rfl⟩|he|he
  ·exact⟨r,h⟩
  ·exact iha _ hx ch e he hw
  ·obtain⟨ch',rfl,hm⟩:=q2b he
   obtain⟨c',hc'⟩:=hw.head
   rw[hx] at hc'
   simp only[Option.some.injEq,V.d.injEq,D.bool.injEq] at hc'
   obtain⟨c2,y,hy,_⟩:=h1 hc'.2
   exact ihb _ hy ch' e hm hw.tail
 |or a b iha ihb=>
  intro r h ch e he hw
  obtain⟨c,x,hx,h1,h2⟩:=j2G h
  simp only[subs,List.mem_cons,Prod.mk.injEq,List.mem_append] at he
  rcases he with⟨_,rfl⟩|he|he
  ·exact⟨r,h⟩
  ·exact iha _ hx ch e he hw
  ·obtain⟨ch',rfl,hm⟩:=q2b he
   obtain⟨c',hc'⟩:=hw.head
   rw[hx] at hc'
   simp only[Option.some.injEq,V.d.injEq,D.bool.injEq] at hc'
   obtain⟨c2,y,hy,_⟩:=h1 hc'.2
   exact ihb _ hy ch' e hm hw.tail
 |cond c a b ihc iha ihb=>
  intro r h ch e he hw
  obtain⟨k,x,hx,h1,h2⟩:=z03 h
  simp only[subs,List.mem_cons,Prod.mk.injEq,List.mem_append] at he
  rcases he with⟨_,rfl⟩|he|he|he
  ·exact⟨r,h⟩
  ·exact ihc _ hx ch e he hw
  ·obtain⟨ch',rfl,hm⟩:=q2b he
   obtain⟨c',hc'⟩:=hw.head
   rw[hx] at hc'
   simp only[Option.some.injEq,V.d.injEq,D.bool.injEq] at hc'
   exact iha _ (h1 hc'.2) ch' e hm hw.tail
  ·obtain⟨ch',rfl,hm⟩:=q2b he
   obtain⟨c',hc'⟩:=hw.head
   rw[hx] at hc'
   simp only[Option.some.injEq,V.d.injEq,D.bool.injEq] at hc'
   exact ihb _ (h2 hc'.2) ch' e hm hw.tail
 |fa off a iha=>
  intro r h ch e he hw
  obtain⟨v,hv⟩:=q1v h
  simp only[subs,List.mem_cons,Prod.mk.injEq] at he
  rcases he with⟨_,rfl⟩|he
  ·exact⟨r,h⟩
  ·exact iha v hv ch e he hw
 |fld off n g a iha=>
  intro r h ch e he hw
  obtain⟨v,hv⟩:=q1v h
  simp only[subs,List.mem_cons,Prod.mk.injEq] at he
  rcases he with⟨_,rfl⟩|he
  ·exact⟨r,h⟩
  ·exact iha v hv ch e he hw
 |ia k a b iha ihb=>
  intro r h ch e he hw
  obtain⟨⟨v,hv⟩,⟨u,hu⟩⟩:=q3d h
  simp only[subs,List.mem_cons,Prod.mk.injEq,List.mem_append] at he
  rcases he with⟨_,rfl⟩|he|he
  ·exact⟨r,h⟩
  ·exact iha v hv ch e he hw
  ·exact ihb u hu ch e he hw
 |aa len k a b iha ihb=>
  intro r h ch e he hw
  obtain⟨⟨v,hv⟩,⟨u,hu⟩⟩:=q3d h
  simp only[subs,List.mem_cons,Prod.mk.injEq,List.mem_append] at he
  rcases he with⟨_,rfl⟩|he|he
  ·exact⟨r,h⟩
  ·exact iha v hv ch e he hw
  ·exact ihb u hu ch e he hw
 |ix a b iha ihb=>
  intro r h ch e he hw
  obtain⟨⟨v,hv⟩,⟨u,hu⟩⟩:=q3d h
  simp only[subs,List.mem_cons,Prod.mk.injEq,List.mem_append] at he
  rcases he with⟨_,rfl⟩|he|he
  ·exact⟨r,h⟩
  ·exact iha v hv ch e he hw
  ·exact ihb u hu ch e he hw
 |ax len k g a b iha ihb=>
  intro r h ch e he hw
  obtain⟨⟨v,hv⟩,⟨u,hu⟩⟩:=q3d h
  simp only[subs,List.mem_cons,Prod.mk.injEq,List.mem_append] at he
  rcases he with⟨_,rfl⟩|he|he
  ·exact⟨r,h⟩
  ·exact iha v hv ch e he hw
  ·exact ihb u hu ch e he hw
 |ld n g a iha=>
  intro r h ch e he hw
  obtain⟨v,hv⟩:=q1v h
  simp only[subs,List.mem_cons,Prod.mk.injEq] at he
  rcases he with⟨_,rfl⟩|he
  ·exact⟨r,h⟩
  ·exact iha v hv ch e he hw
 |ext i a iha=>
  intro r h ch e he hw
  obtain⟨v,hv⟩:=q1v h
  simp only[subs,List.mem_cons,Prod.mk.injEq] at he
  rcases he with⟨_,rfl⟩|he
  ·exact⟨r,h⟩
  ·exact iha v hv ch e he hw
 |len g a iha=>
  intro r h ch e he hw
  obtain⟨v,hv⟩:=q1v h
  simp only[subs,List.mem_cons,Prod.mk.injEq] at he
  rcases he with⟨_,rfl⟩|he
  ·exact⟨r,h⟩
  ·exact iha v hv ch e he hw
 |cut g bl bh bm k a lo hi mx iha ihl ihh ihm=>
  intro r h ch e he hw
  obtain⟨⟨v,hv⟩,⟨vl,hl⟩,⟨vh,hh⟩,⟨vm,hm⟩⟩:=j0O h
  simp only[subs,List.mem_cons,Prod.mk.injEq,List.mem_append] at he
  rcases he with⟨_,rfl⟩|he|he|he|he
  ·exact⟨r,h⟩
  ·exact iha v hv ch e he hw
  ·exact ihl vl hl ch e he hw
  ·exact ihh vh hh ch e he hw
  ·exact ihm vm hm ch e he hw
 |agg cs ih=>
  intro r h ch e he hw
  obtain⟨v,hv⟩:=j0P h
  simp only[subs,List.mem_cons,Prod.mk.injEq] at he
  rcases he with⟨_,rfl⟩|he
  ·exact⟨r,h⟩
  ·exact ih v hv ch e he hw
 |set off n a b iha ihb=>
  intro r h ch e he hw
  obtain⟨⟨v,hv⟩,⟨u,hu⟩⟩:=j0L h
  simp only[subs,List.mem_cons,Prod.mk.injEq,List.mem_append] at he
  rcases he with⟨_,rfl⟩|he|he
  ·exact⟨r,h⟩
  ·exact iha v hv ch e he hw
  ·exact ihb u hu ch e he hw
 |mki t a iha=>
  intro r h ch e he hw
  obtain⟨v,hv⟩:=q1v h
  simp only[subs,List.mem_cons,Prod.mk.injEq] at he
  rcases he with⟨_,rfl⟩|he
  ·exact⟨r,h⟩
  ·exact iha v hv ch e he hw
 |mkf f caps ih=>
  intro r h ch e he hw
  obtain⟨v,hv⟩:=j0M h
  simp only[subs,List.mem_cons,Prod.mk.injEq] at he
  rcases he with⟨_,rfl⟩|he
  ·exact⟨r,h⟩
  ·exact ih v hv ch e he hw
 |conv k a iha=>
  intro r h ch e he hw
  obtain⟨v,hv⟩:=q1v h
  simp only[subs,List.mem_cons,Prod.mk.injEq] at he
  rcases he with⟨_,rfl⟩|he
  ·exact⟨r,h⟩
  ·exact iha v hv ch e he hw
 |lkp ok kk z m k ihz ihm ihk=>
  intro r h ch e he hw
  obtain⟨⟨v1,h1⟩,⟨v2,h2⟩,⟨v3,h3⟩⟩:=j0N h
  simp only[subs,List.mem_cons,Prod.mk.injEq,List.mem_append] at he
  rcases he with⟨_,rfl⟩|he|he|he
  ·exact⟨r,h⟩
  ·exact ihz v1 h1 ch e he hw
  ·exact ihm v2 h2 ch e he hw
  ·exact ihk v3 h3 ch e he hw
 |mlen a iha=>
  intro r h ch e he hw
  obtain⟨v,hv⟩:=q1v h
  simp only[subs,List.mem_cons,Prod.mk.injEq] at he
  rcases he with⟨_,rfl⟩|he
  ·exact⟨r,h⟩
  ·exact iha v hv ch e he hw
 |b2s a iha=>
  intro r h ch e he hw
  obtain⟨v,hv⟩:=q1v h
  simp only[subs,List.mem_cons,Prod.mk.injEq] at he
  rcases he with⟨_,rfl⟩|he
  ·exact⟨r,h⟩
  ·exact iha v hv ch e he hw
 |i2s a iha=>
  intro r h ch e he hw
  obtain⟨v,hv⟩:=q1v h
  simp only[subs,List.mem_cons,Prod.mk.injEq] at he
  rcases he with⟨_,rfl⟩|he
  ·exact⟨r,h⟩
  ·exact iha v hv ch e he hw
 |call f args ih=>
  intro r h ch e he hw
  obtain⟨v,hv⟩:=z6X h
  simp only[subs,List.mem_cons,Prod.mk.injEq] at he
  rcases he with⟨_,rfl⟩|he
  ·exact⟨r,h⟩
  ·exact ih v hv ch e he hw
 |callv f args ihf iha=>
  intro r h ch e he hw
  obtain⟨⟨v,hv⟩,⟨u,hu⟩⟩:=z18 h
  simp only[subs,List.mem_cons,Prod.mk.injEq,List.mem_append] at he
  rcases he with⟨_,rfl⟩|he|he
  ·exact⟨r,h⟩
  ·exact ihf v hv ch e he hw
  ·exact iha u hu ch e he hw
 |cons a b iha ihb=>
  intro r h ch e he hw
  obtain⟨⟨v,hv⟩,⟨u,hu⟩⟩:=z6S h
  simp only[subs,List.mem_cons,Prod.mk.injEq,List.mem_append] at he
  rcases he with⟨_,rfl⟩|he|he
  ·exact⟨r,h⟩
  ·exact iha v hv ch e he hw
  ·exact ihb u hu ch e he hw
 |_=>intro r h;exact leaf _ r rfl h
theorem q8O:∀(root:E)(r:V),ev K s root=some r→∀ ch e,(ch,e)∈conds root→Won K s ch→∃ c b,ev K s e=some (.d c (.bool b)):=by
 intro root
 induction root with
 |un o a iha=>
  intro r h ch e he hw
  obtain⟨v,hv⟩:=q1v h
  exact iha v hv ch e he hw
 |bin o a b iha ihb=>
  intro r h ch e he hw
  obtain⟨⟨v,hv⟩,⟨u,hu⟩⟩:=q3d h
  rcases List.mem_append.1 he with he|he
  ·exact iha v hv ch e he hw
  ·exact ihb u hu ch e he hw
 |eqs n g ks a b iha ihb=>
  intro r h ch e he hw
  obtain⟨⟨v,hv⟩,⟨u,hu⟩⟩:=q3d h
  rcases List.mem_append.1 he with he|he
  ·exact iha v hv ch e he hw
  ·exact ihb u hu ch e he hw
 |and a b iha ihb=>
  intro r h ch e he hw
  obtain⟨c,x,hx,h1,h2⟩:=z67 h
  simp only[conds,List.mem_cons,Prod.mk.injEq,List.mem_append] at he
  rcases he with⟨_,rfl⟩|he|he
  ·exact⟨c,x,hx⟩
  ·exact iha _ hx ch e he hw
  ·obtain⟨ch',rfl,hm⟩:=q2b he
   obtain⟨c',hc'⟩:=hw.head
   rw[hx] at hc'
   simp only[Option.some.injEq,V.d.injEq,D.bool.injEq] at hc'
   obtain⟨c2,y,hy,_⟩:=h1 hc'.2
   exact ihb _ hy ch' e hm hw.tail
 |or a b iha ihb=>
  intro r h ch e he hw
  obtain⟨c,x,hx,h1,h2⟩:=j2G h
  simp only[conds,List.mem_cons,Prod.mk.injEq,List.mem_append] at he
  rcases he with⟨_,rfl⟩|he|he
  ·exact⟨c,x,hx⟩
  ·exact iha _ hx ch e he hw
  ·obtain⟨ch',rfl,hm⟩:=q2b he
   obtain⟨c',hc'⟩:=hw.head
   rw[hx] at hc'
   simp only[Option.some.injEq,V.d.injEq,D.bool.injEq] at hc'
   obtain⟨c2,y,hy,_⟩:=h1 hc'.2
   exact ihb _ hy ch' e hm hw.tail
 |cond c a b ihc iha ihb=>
  intro r h ch e he hw
  obtain⟨k,x,hx,h1,h2⟩:=z03 h
  simp only[conds,List.mem_cons,Prod.mk.injEq,List.mem_append] at he
  rcases he with⟨_,rfl⟩|he|he|he
  ·exact⟨k,x,hx⟩
  ·exact ihc _ hx ch e he hw
  ·obtain⟨ch',rfl,hm⟩:=q2b he
   obtain⟨c',hc'⟩:=hw.head
   rw[hx] at hc'
   simp only[Option.some.injEq,V.d.injEq,D.bool.injEq] at hc'
   exact iha _ (h1 hc'.2) ch' e hm hw.tail
  ·obtain⟨ch',rfl,hm⟩:=q2b he
   obtain⟨c',hc'⟩:=hw.head
   rw[hx] at hc'
   simp only[Option.some.injEq,V.d.injEq,D.bool.injEq] at hc'
   exact ihb _ (h2 hc'.2) ch' e hm hw.tail
 |fa off a iha=>intro r h ch e he hw;obtain⟨v,hv⟩:=q1v h;exact iha v hv ch e he hw
 |fld off n g a iha=>intro r h ch e he hw;obtain⟨v,hv⟩:=q1v h;exact iha v hv ch e he hw
 |ia k a b iha ihb=>
  intro r h ch e he hw
  obtain⟨⟨v,hv⟩,⟨u,hu⟩⟩:=q3d h
  rcases List.mem_append.1 he with he|he
  ·exact iha v hv ch e he hw
  ·exact ihb u hu ch e he hw
 |aa len k a b iha ihb=>
  intro r h ch e he hw
  obtain⟨⟨v,hv⟩,⟨u,hu⟩⟩:=q3d h
  rcases List.mem_append.1 he with he|he
  ·exact iha v hv ch e he hw
  ·exact ihb u hu ch e he hw
 |ix a b iha ihb=>
  intro r h ch e he hw
  obtain⟨⟨v,hv⟩,⟨u,hu⟩⟩:=q3d h
  rcases List.mem_append.1 he with he|he
  ·exact iha v hv ch e he hw
  ·exact ihb u hu ch e he hw
 |ax len k g a b iha ihb=>
  intro r h ch e he hw
  obtain⟨⟨v,hv⟩,⟨u,hu⟩⟩:=q3d h
  rcases List.mem_append.1 he with he|he
  ·exact iha v hv ch e he hw
  ·exact ihb u hu ch e he hw
 |ld n g a iha=>intro r h ch e he hw;obtain⟨v,hv⟩:=q1v h;exact iha v hv ch e he hw
 |ext i a iha=>intro r h ch e he hw;obtain⟨v,hv⟩:=q1v h;exact iha v hv ch e he hw
 |len g a iha=>intro r h ch e he hw;obtain⟨v,hv⟩:=q1v h;exact iha v hv ch e he hw
 |cut g bl bh bm k a lo hi mx iha ihl ihh ihm=>
  intro r h ch e he hw
  obtain⟨⟨v,hv⟩,⟨vl,hl⟩,⟨vh,hh⟩,⟨vm,hm⟩⟩:=j0O h
  simp only[conds,List.mem_append] at he
  rcases he with he|he|he|he
  ·exact iha v hv ch e he hw
  ·exact ihl vl hl ch e he hw
  ·exact ihh vh hh ch e he hw
  ·exact ihm vm hm ch e he hw
 |agg cs ih=>intro r h ch e he hw;obtain⟨v,hv⟩:=j0P h;exact ih v hv ch e he hw
 |set off n a b iha ihb=>
  intro r h ch e he hw
  obtain⟨⟨v,hv⟩,⟨u,hu⟩⟩:=j0L h
  rcases List.mem_append.1 he with he|he
  ·exact iha v hv ch e he hw
  ·exact ihb u hu ch e he hw
 |mki t a iha=>intro r h ch e he hw;obtain⟨v,hv⟩:=q1v h;exact iha v hv ch e he hw
 |mkf f caps ih=>intro r h ch e he hw;obtain⟨v,hv⟩:=j0M h;exact ih v hv ch e he hw
 |conv k a iha=>intro r h ch e he hw;obtain⟨v,hv⟩:=q1v h;exact iha v hv ch e he hw
 |lkp ok kk z m k ihz ihm ihk=>
  intro r h ch e he hw
  obtain⟨⟨v1,h1⟩,⟨v2,h2⟩,⟨v3,h3⟩⟩:=j0N h
  simp only[conds,List.mem_append] at he
  rcases he with he|he|he
  ·exact ihz v1 h1 ch e he hw
  ·exact ihm v2 h2 ch e he hw
  ·exact ihk v3 h3 ch e he hw
 |mlen a iha=>intro r h ch e he hw;obtain⟨v,hv⟩:=q1v h;exact iha v hv ch e he hw
 |b2s a iha=>intro r h ch e he hw;obtain⟨v,hv⟩:=q1v h;exact iha v hv ch e he hw
 |i2s a iha=>intro r h ch e he hw;obtain⟨v,hv⟩:=q1v h;exact iha v hv ch e he hw
 |call f args ih=>intro r h ch e he hw;obtain⟨v,hv⟩:=z6X h;exact ih v hv ch e he hw
 |callv f args ihf iha=>
  intro r h ch e he hw
  obtain⟨⟨v,hv⟩,⟨u,hu⟩⟩:=z18 h
  rcases List.mem_append.1 he with he|he
  ·exact ihf v hv ch e he hw
  ·exact iha u hu ch e he hw
 |cons a b iha ihb=>
  intro r h ch e he hw
  obtain⟨⟨v,hv⟩,⟨u,hu⟩⟩:=z6S h
  rcases List.mem_append.1 he with he|he
  ·exact iha v hv ch e he hw
  ·exact ihb u hu ch e he hw
 |_=>intro r h ch e he hw;simp [conds] at he
end Go.Vm
end

section
namespace Go.Vm
open Go.RowKit
structure Rec where
 i:Nat
 o:Oper
 kd:Kd
 ch:q1w
 deriving Inhabited
def Rec.x(r:Rec):E:=match r.kd with
 |.pure e=>e
 |_=>.sl (r.o.dst.getD 0)
def Rec.isMk(r:Rec):Bool:=match r.kd with
 |.mk _=>true
 |_=>false
def Rec.isWr(r:Rec):Bool:=match r.kd with
 |.wr _=>true
 |_=>false
def q0X:List Rec→Env
 |[]=>[]
 |q :: done=>match q.o.dst with
  |some d=>(d,q.x) :: q0X done
  |none=>q0X done
def tmpOf:Operand→Option Nat
 |.tmp t=>some t
 |_=>none
def reads(o:Oper):List Nat:=o.op.operands.toList.filterMap tmpOf
def isIn(mds:List Nat):Option Nat→Bool
 |some d=>mds.contains d
 |none=>false
def j0d(ef:Option FuncId)(o:Oper):Bool:=match ef,o.op with
 |some f,.call { callee:=.value (.func g),.. }=>f==g
 |some f,.call { callee:=.value (.tmp _),.. }=>f==dynF
 |_,_=>false
def kdOf(P:Program)(mds:List Nat)(ef:Option FuncId)(env:Env)(o:Oper):Option Kd:=
 if isIn mds o.dst then(mkK P env o).map .mk
 else if j0d ef o then(effK P env o).map fun(f,e)=>.wr (.calle f e)
 else match z0A P env o with
  |some e=>some (.pure e)
  |none=>(wrK P env o).map .wr
def q4x(ops:Array Oper)(done:List Rec):Option (Nat×Bool)→Option q1w
 |none=>some []
 |some (j,b)=>match done.find? (·.i==j) with
  |some q=>match q.kd,q.o.dst with
   |.pure e,some _=>some ((e,b) :: q.ch)
   |_,_=>none
  |none=>match ops[j]? with
   |some o=>match o.dst with
    |some d=>some [(.sl d,b)]
    |none=>none
   |none=>none
def q6d(c1 c2:q1w):Bool:=c1.all fun p=>decide (p∈c2)
def q6C(P:Program)(env:Env)(o:Oper)(ch:q1w):List (Operand×q1w):=
 match o.op with
 |.pick c a b=>match q0j P env 0 c with
  |some ec=>[(c,ch),(a,(ec,true) :: ch),(b,(ec,false) :: ch)]
  |none=>[(c,ch),(a,ch),(b,ch)]
 |op=>op.operands.toList.map fun x=>(x,ch)
def q8u(B:Nat→Nat→Bool)(done:List Rec)(i:Nat)(l:List (Operand×q1w)):Bool:=
 l.all fun p=>match p.1 with
  |.tmp t=>match done.find? (fun q=>q.o.dst==some t) with
   |some q=>B q.i i&&q6d q.ch p.2
   |none=>true
  |_=>true
def z0G(B:Nat→Nat→Bool)(n:Nat)(done:List Rec)(r:Rec):Bool:=
 match r.o.dst with
 |some d=>decide (d<n)&&done.all (fun q=>q.o.dst != some d&&(!(reads q.o).contains d||(B q.i r.i&&!r.isMk)))&&(!r.isMk||!(reads r.o).contains d)
 |none=>true
def q6x(B:Nat→Nat→Bool)(r:Rec):Bool:=
 match r.o.guard with
 |some (j,_)=>B j r.i&&!r.isMk
 |none=>true
def z1I(B:Nat→Nat→Bool)(P:Program)(n:Nat)(done:List Rec)(r:Rec):Bool:=
 q8u B done r.i (q6C P (q0X done) r.o r.ch)&&z0G B n done r&&q6x B r&&done.all fun q=>decide (q.i<r.i)&&(!q.isWr||(!r.isWr&&!r.isMk))
def recs(B:Nat→Nat→Bool)(P:Program)(ops:Array Oper)(mds:List Nat)(ef:Option FuncId)(n:Nat):List Nat→List Rec→Option (List Rec)
 |[],done=>some done
 |i :: is,done=>match ops[i]? with
  |some o=>match kdOf P mds ef (q0X done) o,q4x ops done o.guard with
   |some kd,some ch=>if z1I B P n done ⟨i,o,kd,ch⟩ then recs B P ops mds ef n is (⟨i,o,kd,ch⟩ :: done) else none
   |_,_=>none
  |none=>none
inductive Good(B:Nat→Nat→Bool)(P:Program)(ops:Array Oper)(mds:List Nat)(ef:Option FuncId)(n:Nat):List Rec→Prop
 |nil:Good B P ops mds ef n []
 |cons (r:Rec) (done:List Rec):Good B P ops mds ef n done→ops[r.i]? = some r.o→kdOf P mds ef (q0X done) r.o=some r.kd→q4x ops done r.o.guard=some r.ch→z1I B P n done r=true→Good B P ops mds ef n (r :: done)
variable {B:Nat→Nat→Bool}{P:Program}{ops:Array Oper}{mds:List Nat}{ef:Option FuncId}{n:Nat}
theorem q3J:∀(is:List Nat)(done R:List Rec),Good B P ops mds ef n done→recs B P ops mds ef n is done=some R→Good B P ops mds ef n R∧R.map (·.i)=is.reverse++done.map (·.i)
 |[],done,R,hg,h=>by
  obtain rfl:=Option.some.inj h
  exact⟨hg,by simp⟩
 |i :: is,done,R,hg,h=>by
  simp only[recs] at h
  cases ho:ops[i]? with
  |none=>simp [ho] at h
  |some o=>
   cases hk:kdOf P mds ef (q0X done) o with
   |none=>simp [ho,hk] at h
   |some kd=>
    cases hc:q4x ops done o.guard with
    |none=>simp [ho,hk,hc] at h
    |some ch=>
     simp only[ho,hk,hc] at h
     split at h
     ·rename_i hn
      obtain⟨h1,h2⟩:=q3J is (⟨i,o,kd,ch⟩ :: done) R (.cons _ _ hg ho hk hc hn) h
      exact⟨h1,by rw[h2];simp⟩
     ·cases h
theorem Good.suffix{l:List Rec}{R:List Rec}(h:Good B P ops mds ef n (l++R)):Good B P ops mds ef n R:=by
 induction l with
 |nil=>exact h
 |cons q l ih=>cases h with|cons _ _ h=>exact ih h
theorem Good.split{R:List Rec}(h:Good B P ops mds ef n R){r:Rec}(hr:r∈R):∃ later done,R=later++r :: done∧Good B P ops mds ef n (r :: done):=by
 obtain⟨later,done,rfl⟩:=List.append_of_mem hr
 exact⟨later,done,rfl,h.suffix⟩
theorem q0B{done:List Rec}{r:Rec}(h:z1I B P n done r=true):q8u B done r.i (q6C P (q0X done) r.o r.ch)=true∧z0G B n done r=true∧q6x B r=true∧True∧∀ q∈done,q.i<r.i∧(q.isWr=true→r.isWr=false∧r.isMk=false):=by
 simp only[z1I,Bool.and_eq_true,List.all_eq_true,Bool.not_eq_true',decide_eq_true_eq,Bool.or_eq_true] at h
 obtain⟨⟨⟨h1,h2⟩,h3⟩,h5⟩:=h
 exact⟨h1,h2,h3,trivial,fun q hq=>⟨(h5 q hq).1,fun hw=>(h5 q hq).2.resolve_left (by rw[hw];simp)⟩⟩
theorem Good.inj{R:List Rec}(h:Good B P ops mds ef n R):∀ r∈R,∀ q∈R,r.i=q.i→r=q:=by
 induction h with
 |nil=>intro r hr;simp at hr
 |cons r done _ _ _ _ hn ih=>
  have h5:=(q0B hn).2.2.2.2
  intro p hp q hq he
  rcases List.mem_cons.1 hp with hp|hp
  ·rcases List.mem_cons.1 hq with hq|hq
   ·rw[hp,hq]
   ·have:=(h5 q hq).1;rw[hp] at he;omega
  ·rcases List.mem_cons.1 hq with hq|hq
   ·have:=(h5 p hp).1;rw[hq] at he;omega
   ·exact ih p hp q hq he
theorem z1Q{done:List Rec}{t:Nat}:(∃ q∈done,q.o.dst=some t∧done.find? (fun q=>q.o.dst==some t)=some q∧look (q0X done) t=some q.x)∨((∀ q∈done,q.o.dst≠some t)∧done.find? (fun q=>q.o.dst==some t)=none∧look (q0X done) t=none):=by
 induction done with
 |nil=>exact .inr ⟨fun q h=>by simp at h,rfl,rfl⟩
 |cons q done ih=>
  by_cases hq:q.o.dst=some t
  ·refine .inl ⟨q,List.mem_cons_self ..,hq,by simp [hq],?_⟩
   simp [q0X,hq,look]
  ·have hb:(q.o.dst==some t)=false:=by simpa using hq
   have hl:look (q0X (q :: done)) t=look (q0X done) t:=by
    cases hd:q.o.dst with
    |none=>simp only[q0X,hd]
    |some d=>
     have:d≠t:=fun h=>hq (by rw[hd,h])
     simp only[q0X,hd,look,this,if_false]
   rw[hl]
   simp only[List.find?_cons,hb]
   rcases ih with⟨p,h1,h2,h3,h4⟩|⟨h1,h2,h3⟩
   ·exact .inl ⟨p,List.mem_cons_of_mem _ h1,h2,h3,h4⟩
   ·refine .inr ⟨fun p hp=>?_,h2,h3⟩
    rcases List.mem_cons.1 hp with rfl|hp
    ·exact hq
    ·exact h1 p hp
end Go.Vm
end

section
namespace Go.Vm
open Go.RowKit
theorem j5f(K:Cx)(ρ:List (Nat×V))(H:List (Nat×Blk))(m n:Nat)(v u:List Nat):∀ e,ev K ⟨ρ,H,m,v⟩ e=ev K ⟨ρ,H,n,u⟩ e:=by
 intro e
 induction e <;> simp only[ev, *]
theorem q3w{a:Act}{d:Nat}(hd:d<a.tmps.size)(v:Value)(t:Nat):(a.put (some d) v).tmps.getD t undef=if t=d then v else a.tmps.getD t undef:=by
 simp only[Act.put,Array.getD_eq_getD_getElem?]
 by_cases h:t=d
 ·subst h
  simp [hd]
 ·rw[if_neg h,Array.getElem?_setIfInBounds_ne (fun e=>h e.symm)]
theorem q4H(a:Act)(d:Option Nat)(v:Value):(a.put d v).tmps.size=a.tmps.size:=by
 cases d <;> simp [Act.put]
theorem q3f(a:Act)(d:Option Nat)(v:Value):(a.put d v).defers=a.defers:=by
 cases d <;> simp [Act.put]
abbrev Tr:=List (Nat×Mk×V×Nat×List Blk)
structure Piece where
 P:Program
 K:Cx
 ops:Array Oper
 B:Nat→Nat→Bool
 mds:List Nat
 ef:Option FuncId
 n:Nat
 R:List Rec
 s:S
 s1:S
 T:Tr
 X:Nat→Nat→Prop
 base:Nat
 w0:World
 F0:Nat→Prop
 m:Nat
 σ0:Nat→Option Loc
structure Piece.Ok(c:Piece):Prop where
 good:Good c.B c.P c.ops c.mds c.ef c.n c.R
 sound:c.K.Sound c.P
 s1:c.s1.heap=c.s.heap
 mds:∀ d,d∈c.mds↔∃ m v n0 news,(d,m,v,n0,news)∈c.T
 put:∀ d m v n0 news,(d,m,v,n0,news)∈c.T→look c.s1.rho d=some v
 evm:∀ d m v n0 news,(d,m,v,n0,news)∈c.T→evMk c.K ⟨c.s1.rho,c.s.heap,n0,[]⟩ m=some (v,news)∧c.s.nx≤n0∧n0+news.length≤c.s1.nx
 old:∀ t,t∉c.mds→look c.s1.rho t=look c.s.rho t
 rec_:∀ r∈c.R,∀ m d,r.kd=.mk m→r.o.dst=some d→∃ v n0 news,(d,m,v,n0,news)∈c.T
 disj:∀ d m v n0 news d' m' v' n0' news',(d,m,v,n0,news)∈c.T→(d',m',v',n0',news')∈c.T→d≠d'→n0+news.length≤n0'∨n0'+news'.length≤n0
 same:∀ d m v n0 news m' v' n0' news',(d,m,v,n0,news)∈c.T→(d,m',v',n0',news')∈c.T→m=m'∧v=v'∧n0=n0'∧news=news'
 dem:∀ r∈c.R,∀ e,r.kd=.pure e→Won c.K c.s1 r.ch→∃ v,ev c.K c.s1 e=some v
 gbool:∀ r∈c.R,∀ j b,r.o.guard=some (j,b)→∀ q∈c.R,q.i=j→Won c.K c.s1 q.ch→∃ k x,ev c.K c.s1 q.x=some (.d k (.bool x))
 gold:∀ r∈c.R,∀ j b,r.o.guard=some (j,b)→(∃ q∈c.R,q.i=j∧q.i<r.i)∨∀ o d,c.ops[j]? = some o→o.dst=some d→(∀ q∈c.R,q.o.dst≠some d)∧∃ k x,look c.s.rho d=some (.d k (.bool x))
 dom:∀ b blk,look c.s.heap b=some blk→b<c.s.nx
 covers:∀ d∈c.mds,∃ r∈c.R,r.o.dst=some d∧r.isMk=true
structure Inv(c:Piece)(D:Nat→Prop)(a:Act)(w:World)(F:Nat→Prop)(σ:Nat→Option Loc):Prop where
 heap:HeapRel w F c.X c.base σ c.s1.nx c.s.heap
 glob:GlobRel w F c.K.glob
 le:c.base≤w.heap.size
 frame:Frame c.X c.base c.w0 w
 frz:∀ b,F b→c.F0 b∨c.base≤b
 size:a.tmps.size=c.n
 dfr:a.defers=[]
 old:∀ t v,look c.s.rho t=some v→(∀ r∈c.R,D r.i→r.o.dst≠some t)→RepV w F c.base σ (a.tmps.getD t undef) v
 done:∀ r∈c.R,D r.i→∀ d,r.o.dst=some d→r.isWr=false→(Won c.K c.s1 r.ch→∀ v,ev c.K c.s1 r.x=some v→RepV w F c.base σ (a.tmps.getD d undef) v)∧(¬ Won c.K c.s1 r.ch→a.tmps.getD d undef=undef)
 made:∀ d m v n0 news,(d,m,v,n0,news)∈c.T→(∃ r∈c.R,D r.i∧r.o.dst=some d)→∀ i blk,news[i]? = some blk→BlkRel w F c.base σ (n0+i) blk
 unmade:∀ d m v n0 news,(d,m,v,n0,news)∈c.T→(∀ r∈c.R,D r.i→r.o.dst≠some d)→∀ b,n0≤b→b<n0+news.length→σ b=none
 stab:∀ b l,b<c.m→c.σ0 b=some l→b∉c.s.mv→σ b=some l
 sub:∀ b,c.F0 b→F b
variable {c:Piece}{D:Nat→Prop}{a:Act}{w:World}{F:Nat→Prop}{σ:Nat→Option Loc}
def plus(D:Nat→Prop)(i:Nat):Nat→Prop:=fun j=>D j∨j=i
theorem q5U(hc:c.Ok){r:Rec}(hr:r∈c.R){d:Nat}(hd:r.o.dst=some d):d<c.n:=by
 obtain⟨later,done,_,hg⟩:=hc.good.split hr
 cases hg with
 |cons _ _ _ _ _ _ hn=>
  have:=(q0B hn).2.1
  simp only[z0G,hd,Bool.and_eq_true,decide_eq_true_eq] at this
  exact this.1.1
theorem q4j(hc:c.Ok){r q:Rec}(hr:r∈c.R)(hq:q∈c.R)(hne:r.i≠q.i){d:Nat}(hd:r.o.dst=some d):q.o.dst≠some d:=by
 have key:∀ r∈c.R,∀ q∈c.R,q.i<r.i→∀ d,r.o.dst=some d→q.o.dst≠some d:=by
  intro r hr q hq hlt d hd
  obtain⟨later,done,hR,hg⟩:=hc.good.split hr
  cases hg with
  |cons _ _ hgd _ _ _ hn=>
   have hp:=q0B hn
   have hqd:q∈done:=by
    rw[hR] at hq
    rcases List.mem_append.1 hq with hq|hq
    ·-- q is later: its number is greater
     obtain⟨l1,l2,rfl⟩:=List.append_of_mem hq
     have hg2:Good c.B c.P c.ops c.mds c.ef c.n (q :: (l2++r :: done)):=by
      have:=hc.good
      rw[hR] at this
      simp only[List.append_assoc,List.cons_append] at this
      exact this.suffix
     cases hg2 with
     |cons _ _ _ _ _ _ hn2=>
      have:=((q0B hn2).2.2.2.2 r (by simp)).1
      omega
    ·rcases List.mem_cons.1 hq with rfl|hq
     ·omega
     ·exact hq
   have:=hp.2.1
   simp only[z0G,hd,Bool.and_eq_true,List.all_eq_true,bne_iff_ne,ne_eq] at this
   exact(this.1.2 q hqd).1
 rcases Nat.lt_or_gt_of_ne hne with h|h
 ·intro hq'
  exact key q hq r hr h d hq' hd
 ·exact key r hr q hq h d hd
theorem Inv.advance(hc:c.Ok)(h:Inv c D a w F σ){r:Rec}(hr:r∈c.R)(hD:¬ D r.i){w':World}{F':Nat→Prop}{σ':Nat→Option Loc}{v:Value}
  (hval:∀ v x,RepV w F c.base σ v x→RepV w' F' c.base σ' v x) (hheap:HeapRel w' F' c.X c.base σ' c.s1.nx c.s.heap) (hglob:GlobRel w' F' c.K.glob) (hle:c.base≤w'.heap.size) (hframe:Frame c.X c.base w w') (hfrz:∀ b,F' b→c.F0 b∨c.base≤b)
  (hnew:∀ d,r.o.dst=some d→r.isWr=false→(Won c.K c.s1 r.ch→∀ x,ev c.K c.s1 r.x=some x→RepV w' F' c.base σ' v x)∧(¬ Won c.K c.s1 r.ch→v=undef))
  (hmade:∀ d m v n0 news,(d,m,v,n0,news)∈c.T→(∃ q∈c.R,plus D r.i q.i∧q.o.dst=some d)→∀ i blk,news[i]? = some blk→BlkRel w' F' c.base σ' (n0+i) blk)
  (hunmade:∀ d m v n0 news,(d,m,v,n0,news)∈c.T→(∀ q∈c.R,plus D r.i q.i→q.o.dst≠some d)→∀ b,n0≤b→b<n0+news.length→σ' b=none) (hstab:∀ b l,σ b=some l→σ' b=some l) (hsub:∀ b,F b→F' b) :
  Inv c (plus D r.i) (a.put r.o.dst v) w' F' σ':=by
 have hget:∀ t,(r.o.dst≠some t)→(a.put r.o.dst v).tmps.getD t undef=a.tmps.getD t undef:=by
  intro t ht
  cases hd:r.o.dst with
  |none=>rfl
  |some d=>
   rw[q3w (by rw[h.size];exact q5U hc hr hd),if_neg (fun e=>ht (by rw[hd,e]))]
 refine⟨hheap,hglob,hle,h.frame.trans hframe,hfrz,by rw[q4H];exact h.size,by rw[q3f];exact h.dfr,fun t x hx hno=>?_,fun q hq hqD d hd hw=>?_,hmade,hunmade,fun b l hb h0 hm=>hstab b l (h.stab b l hb h0 hm),fun b hb=>hsub b (h.sub b hb)⟩
 ·rw[hget t (hno r hr (.inr rfl))]
  exact hval _ _ (h.old t x hx (fun q hq hqD=>hno q hq (.inl hqD)))
 ·rcases hqD with hqD|hqi
  ·have hne:r.i≠q.i:=fun e=>hD (by rw[e];exact hqD)
   have hdn:r.o.dst≠some d:=q4j hc hq hr (fun e=>hne e.symm) hd
   rw[hget d hdn]
   obtain⟨h1,h2⟩:=h.done q hq hqD d hd hw
   exact⟨fun hwon x hx=>hval _ _ (h1 hwon x hx),h2⟩
  ·obtain rfl:=hc.good.inj q hq r hr hqi
   rw[hd,q3w (by rw[h.size];exact q5U hc hr hd),if_pos rfl]
   exact hnew d hd hw
theorem z55(hc:c.Ok)(h:Inv c D a w F σ)(hnw:∀ q∈c.R,D q.i→q.isWr=false){r:Rec}{later done:List Rec}(hR:c.R=later++r :: done)(hg:Good c.B c.P c.ops c.mds c.ef c.n (r :: done))(hD:¬ D r.i)(hdown:∀ q∈c.R,D q.i→∀ p∈c.R,c.B p.i q.i=true→D p.i)(hpre:∀ q∈c.R,c.B q.i r.i=true→D q.i)
  {x:Operand} {ch:q1w} (hx:(x,ch)∈q6C c.P (q0X done) r.o r.ch) (hxo:x∈r.o.op.operands.toList) (hw:Won c.K c.s1 ch):Held c.P c.K c.s1 (q0X done) w F c.base σ a x:=by
 cases hg with
 |cons _ _ hgd hop hkd hch hn=>
  obtain⟨hneeds,hdst,_,_,hall⟩:=q0B hn
  have hmem:r∈c.R:=by rw[hR];simp
  have hdone:∀ q∈done,q∈c.R:=fun q hq=>by rw[hR];simp [hq]
  cases x with
  |const v=>exact q5y
  |global g=>exact q6O h.glob
  |func f=>exact q6P
  |tmp t=>
   refine q8B fun v hv=>?_
   simp only[q8u,List.all_eq_true] at hneeds
   have hnt:=hneeds (.tmp t,ch) hx
   simp only at hnt
   rcases z1Q (done:=done) (t:=t) with⟨q,hq,hqd,hfind,hlook⟩|⟨hno,hfind,hlook⟩
   ·rw[hfind] at hnt
    simp only[Bool.and_eq_true] at hnt
    have hget:Env.get (q0X done) t=q.x:=by simp [Env.get,hlook]
    rw[hget] at hv
    have hqD:=hpre q (hdone q hq) hnt.1
    have hwon:Won c.K c.s1 q.ch:=fun p hp=>by
     have hsub:=hnt.2
     simp only[q6d,List.all_eq_true,decide_eq_true_eq] at hsub
     exact hw p (hsub p hp)
    exact(h.done q (hdone q hq) hqD t hqd (hnw q (hdone q hq) hqD)).1 hwon v hv
   ·have hget:Env.get (q0X done) t=.sl t:=by simp [Env.get,hlook]
    rw[hget] at hv
    simp only[ev] at hv
    have hreads:t∈reads r.o:=by
     simp only[reads,List.mem_filterMap]
     exact⟨.tmp t,hxo,rfl⟩
    -- who writes t comes later, and makes no memory
    have hlater:∀ q∈c.R,q.o.dst=some t→q.isMk=false∧¬ D q.i:=by
     intro q hq hqd
     rw[hR] at hq
     rcases List.mem_append.1 hq with hq|hq
     ·obtain⟨l1,l2,rfl⟩:=List.append_of_mem hq
      have hg2:Good c.B c.P c.ops c.mds c.ef c.n (q :: (l2++r :: done)):=by
       have:=hc.good
       rw[hR] at this
       simp only[List.append_assoc,List.cons_append] at this
       exact this.suffix
      have hqR:q∈c.R:=by rw[hR];simp
      cases hg2 with
      |cons _ _ _ _ _ _ hn2=>
       have h2:=(q0B hn2).2.1
       simp only[z0G,hqd,Bool.and_eq_true,List.all_eq_true] at h2
       have h3:=(h2.1.2 r (by simp)).2
       simp only[Bool.or_eq_true,Bool.not_eq_true',Bool.and_eq_true] at h3
       rcases h3 with h3|h3
       ·rw[List.contains_eq_mem,decide_eq_false_iff_not] at h3
        exact absurd hreads h3
       ·exact⟨h3.2,fun hqD=>hD (hdown q hqR hqD r hmem h3.1)⟩
     ·rcases List.mem_cons.1 hq with rfl|hq
      ·refine⟨?_,hD⟩
       simp only[z0G,hqd,Bool.and_eq_true,Bool.or_eq_true,Bool.not_eq_true'] at hdst
       rcases hdst.2 with h3|h3
       ·exact h3
       ·rw[List.contains_eq_mem,decide_eq_false_iff_not] at h3
        exact absurd hreads h3
      ·exact absurd hqd (hno q hq)
    have hnm:t∉c.mds:=by
     intro hm
     obtain⟨q,hq,hqd,hqm⟩:=hc.covers t hm
     rw[(hlater q hq hqd).1] at hqm
     cases hqm
    rw[hc.old t hnm] at hv
    exact h.old t v hv fun q hq hqD hqd=>(hlater q hq hqd).2 hqD
end Go.Vm
end

section
namespace Go.Vm
open Go.RowKit
variable {c:Piece}{D:Nat→Prop}{a:Act}{w:World}{F:Nat→Prop}{σ:Nat→Option Loc}
theorem q5p{c:Piece}{d:Nat}{r:Rec}(hr:r∈c.R)(hno:∀ q∈c.R,plus D r.i q.i→q.o.dst≠some d):∀ q∈c.R,D q.i→q.o.dst≠some d:=fun q hq hqD=>hno q hq (.inl hqD)
theorem q7x(hc:c.Ok)(h:Inv c D a w F σ)(hnw:∀ q∈c.R,D q.i→q.isWr=false){r:Rec}(hr:r∈c.R)(hpre:∀ q∈c.R,c.B q.i r.i=true→D q.i):Region.wanted r.o (yielded c.ops a.tmps)=true↔Won c.K c.s1 r.ch:=by
 obtain⟨later,done,hR,hg⟩:=hc.good.split hr
 cases hg with
 |cons _ _ hgd hop hkd hch hn=>
  obtain⟨_,_,hgu,_,hall⟩:=q0B hn
  unfold Region.wanted
  cases hgd':r.o.guard with
  |none=>
   simp only[hgd',q4x,Option.some.injEq] at hch
   rw[←hch]
   simp [Won]
  |some jb=>
   obtain⟨j,b⟩:=jb
   simp only[hgd',q4x] at hch
   simp only[q6x,hgd',Bool.and_eq_true] at hgu
   cases hf:done.find? (·.i==j) with
   |none=>
    simp only[hf] at hch
    rcases hc.gold r hr j b hgd' with⟨q,hq,hqj,hlt⟩|hgo
    ·exfalso
     -- it is among those that are done
     have hqd:q∈done:=by
      rw[hR] at hq
      rcases List.mem_append.1 hq with hq|hq
      ·obtain⟨l1,l2,rfl⟩:=List.append_of_mem hq
       have hg2:Good c.B c.P c.ops c.mds c.ef c.n (q :: (l2++r :: done)):=by
        have:=hc.good
        rw[hR] at this
        simp only[List.append_assoc,List.cons_append] at this
        exact this.suffix
       cases hg2 with
       |cons _ _ _ _ _ _ hn2=>
        have:=((q0B hn2).2.2.2.2 r (by simp)).1
        omega
      ·rcases List.mem_cons.1 hq with rfl|hq
       ·omega
       ·exact hq
     have:=List.find?_eq_none.1 hf q hqd
     simp [hqj] at this
    ·cases hoj:c.ops[j]? with
     |none=>simp [hoj] at hch
     |some oj=>
      cases hdj:oj.dst with
      |none=>simp [hoj,hdj] at hch
      |some d=>
       simp only[hoj,hdj,Option.some.injEq] at hch
       obtain⟨hnw,k,x,hlk⟩:=hgo oj d hoj hdj
       have hv:=(h.old d _ hlk (fun q hq _=>hnw q hq)).bool_inv
       have hnm:d∉c.mds:=fun hm=>by
        obtain⟨q,hq,hqd,_⟩:=hc.covers d hm
        exact hnw q hq hqd
       have hy:yielded c.ops a.tmps j=some x:=by
        unfold yielded
        rw[hoj]
        simp only[Option.bind_some,hdj]
        rw[Array.getD_eq_getD_getElem?] at hv
        cases ht:a.tmps[d]? with
        |none=>rw[ht] at hv;simp [undef] at hv
        |some u=>rw[ht] at hv;simp only[Option.getD_some] at hv;subst hv;rfl
       simp only[hy]
       rw[←hch]
       have hev:ev c.K c.s1 (.sl d)=some (.d k (.bool x)):=by
        simp only[ev]
        rw[hc.old d hnm]
        exact hlk
       constructor
       ·intro hb
        have hxb:x=b:=by simpa using hb
        subst hxb
        intro p hp
        simp only[List.mem_singleton] at hp
        subst hp
        exact⟨k,hev⟩
       ·intro hw
        obtain⟨k',hk'⟩:=hw.head
        rw[hev] at hk'
        simp only[Option.some.injEq,V.d.injEq,Vm.D.bool.injEq] at hk'
        simp [hk'.2]
   |some q=>
    have hqm:=List.mem_of_find?_eq_some hf
    have hqi:q.i=j:=by simpa using List.find?_some hf
    have hqR:q∈c.R:=by rw[hR];simp [hqm]
    simp only[hf] at hch
    cases hk:q.kd with
    |mk m=>simp [hk] at hch
    |wr x=>simp [hk] at hch
    |pure e=>
     cases hd:q.o.dst with
     |none=>simp [hk,hd] at hch
     |some d=>
      simp only[hk,hd,Option.some.injEq] at hch
      have hqD:D q.i:=hpre q hqR (by rw[hqi];exact hgu.1)
      have hopq:c.ops[j]? = some q.o:=by
       obtain⟨l2,d2,_,hg2⟩:=hc.good.split hqR
       cases hg2 with
       |cons _ _ _ ho _ _ _=>rw[←hqi];exact ho
      have hdn:=q5U hc hqR hd
      obtain⟨h1,h2⟩:=h.done q hqR hqD d hd (hnw q hqR hqD)
      have hqx:q.x=e:=by simp [Rec.x,hk]
      have hy:yielded c.ops a.tmps j=match a.tmps.getD d undef with|.bool b=>some b|_=>none:=by
       unfold yielded
       rw[hopq]
       simp only[Option.bind_some,hd]
       have:a.tmps[d]? = some (a.tmps.getD d undef):=by
        rw[Array.getD_eq_getD_getElem?]
        have hlt:d<a.tmps.size:=by rw[h.size];exact hdn
        simp [hlt]
       rw[this]
       cases a.tmps.getD d undef <;> rfl
      simp only[hy]
      rw[←hch]
      by_cases hwon:Won c.K c.s1 q.ch
      ·obtain⟨k,x,hx⟩:=hc.gbool r hr j b hgd' q hqR hqi hwon
       have hv:=(h1 hwon _ hx).bool_inv
       rw[hv]
       rw[hqx] at hx
       constructor
       ·intro hb
        have hxb:x=b:=by simpa using hb
        subst hxb
        intro p hp
        rcases List.mem_cons.1 hp with rfl|hp
        ·exact⟨k,hx⟩
        ·exact hwon p hp
       ·intro hw
        obtain⟨k',hk'⟩:=hw.head
        rw[hx] at hk'
        simp only[Option.some.injEq,V.d.injEq,Vm.D.bool.injEq] at hk'
        simp [hk'.2]
      ·rw[h2 hwon]
       constructor
       ·intro hb;simp [undef] at hb
       ·intro hw;exact absurd hw.tail hwon
theorem z5s{P:Program}{K:Cx}{s:S}{env:Env}{o:Oper}{base:Nat}{a:Act}{cc x y:Operand}{e:E}{r:V}(hop:o.op=.pick cc x y)(he:z0A P env o=some e)(hev:ev K s e=some r){ch:q1w}(hw:Won K s ch)
  (hc:Held P K s env w F base σ a cc) (hx:∀ ec,q0j P env 0 cc=some ec→Won K s ((ec,true) :: ch)→Held P K s env w F base σ a x) (hy:∀ ec,q0j P env 0 cc=some ec→Won K s ((ec,false) :: ch)→Held P K s env w F base σ a y):OpOk P w F base σ a.eval o r:=by
 simp only[z0A,hop] at he
 cases hec:q0j P env 0 cc with
 |none=>simp [hec] at he
 |some ec=>
  cases hea:q0j P env o.type x with
  |none=>simp [hec,hea] at he
  |some ea=>
   cases heb:q0j P env o.type y with
   |none=>simp [hec,hea,heb] at he
   |some eb=>
    simp only[hec,hea,heb,Option.some.injEq] at he
    have won:∀ k b,ev K s ec=some (.d k (.bool b))→Won K s ((ec,b) :: ch):=fun k b h p hp=>by
     rcases List.mem_cons.1 hp with rfl|hp
     ·exact⟨k,h⟩
     ·exact hw p hp
    split at he
    ·rename_i ht
     subst he
     obtain⟨k,b,h1,h2,h3⟩:=j2G hev
     refine z0E (x:=b) hop (hc _ _ _ hec h1).bool_inv (fun hb=>?_) (fun hb=>?_)
     ·subst hb
      rw[h3 rfl]
      exact hx ec hec (won k true h1) _ _ _ hea (by rw[ht];rfl)
     ·subst hb
      obtain⟨c',y',hy',rfl⟩:=h2 rfl
      have:=(hy ec hec (won k false h1) _ _ _ heb hy').bool_inv
      rw[this]
      exact .bool
    ·split at he
     ·rename_i hf
      subst he
      obtain⟨k,b,h1,h2,h3⟩:=z67 hev
      refine z0E (x:=b) hop (hc _ _ _ hec h1).bool_inv (fun hb=>?_) (fun hb=>?_)
      ·subst hb
       obtain⟨c',y',hy',rfl⟩:=h2 rfl
       have:=(hx ec hec (won k true h1) _ _ _ hea hy').bool_inv
       rw[this]
       exact .bool
      ·subst hb
       rw[h3 rfl]
       exact hy ec hec (won k false h1) _ _ _ heb (by rw[hf];rfl)
     ·subst he
      obtain⟨k,b,h1,h2,h3⟩:=z03 hev
      refine z0E (x:=b) hop (hc _ _ _ hec h1).bool_inv (fun hb=>?_) (fun hb=>?_)
      ·subst hb
       exact hx ec hec (won k true h1) _ _ _ hea (h2 rfl)
      ·subst hb
       exact hy ec hec (won k false h1) _ _ _ heb (h3 rfl)
set_option maxHeartbeats 1000000 in
theorem j1n(hc:c.Ok)(h:Inv c D a w F σ)(hnw:∀ q∈c.R,D q.i→q.isWr=false){r:Rec}(hr:r∈c.R)(hwr:r.isWr=false)(hD:¬ D r.i)(hdown:∀ q∈c.R,D q.i→∀ p∈c.R,c.B p.i q.i=true→D p.i)(hpre:∀ q∈c.R,c.B q.i r.i=true→D q.i)
  {Kn:Act→World→Prop} {Q:Exit→Act→World→Prop} (hK:∀ a w F σ,Inv c (plus D r.i) a w F σ→Kn a w):wpOp c.P c.ops Q r.i Kn a w:=by
 have hwant:=q7x hc h hnw hr hpre
 obtain⟨later,done,hR,hg⟩:=hc.good.split hr
 have hheld:=fun x ch hx hxo hw=>z55 hc h hnw (x:=x) (ch:=ch) hR hg hD hdown hpre hx hxo hw
 cases hg with
 |cons _ _ hgd hop hkd hch hn=>
  unfold wpOp
  rw[hop]
  simp only
  have madeold:∀(w':World) (F':Nat→Prop) (σ':Nat→Option Loc),r.isMk=false→(∀ b,F b→F' b∧w'.heap[b]? = w.heap[b]?)→(∀ b l,σ b=some l→w'.heap[l.blk]? = w.heap[l.blk]?)→σ'=σ→
    (∀ d m v n0 news,(d,m,v,n0,news)∈c.T→(∃ q∈c.R,plus D r.i q.i∧q.o.dst=some d)→∀ i blk,news[i]? = some blk→BlkRel w' F' c.base σ' (n0+i) blk):=by
   rintro w' F' σ' hm hF hblk rfl d m v n0 news hT ⟨q,hq,hqD,hqd⟩ i blk hi
   rcases hqD with hqD|hqi
   ·exact(h.made d m v n0 news hT ⟨q,hq,hqD,hqd⟩ i blk hi).mono hF (fun _ _ h=>h) (fun h=>h) (fun l hl=>hblk _ l hl)
   ·obtain rfl:=hc.good.inj q hq r hr hqi
    -- r writes d, which is one of the new ones
    obtain⟨q2,hq2,hq2d,hq2m⟩:=hc.covers d ((hc.mds d).2 ⟨m,v,n0,news,hT⟩)
    by_cases he:q2.i=q.i
    ·obtain rfl:=hc.good.inj q2 hq2 q hr he
     rw[hm] at hq2m;cases hq2m
    ·exact absurd hqd (q4j hc hq2 hr he hq2d)
  by_cases hwon:Won c.K c.s1 r.ch
  ·rw[if_pos (hwant.2 hwon)]
   refine .inl ?_
   cases hk:r.kd with
   |wr x=>simp [Rec.isWr,hk] at hwr
   |pure e=>
    rw[hk] at hkd
    have hmk:r.isMk=false:=by simp [Rec.isMk,hk]
    have hpe:z0A c.P (q0X done) r.o=some e:=by
     simp only[kdOf] at hkd
     split at hkd
     ·cases hm:mkK c.P (q0X done) r.o <;> simp [hm] at hkd
     ·split at hkd
      ·cases hm:effK c.P (q0X done) r.o <;> simp [hm] at hkd
      ·split at hkd
       ·rename_i h1
        simp only[Option.some.injEq,Kd.pure.injEq] at hkd
        rw[←hkd]
        exact h1
       ·cases hm:wrK c.P (q0X done) r.o <;> simp [hm] at hkd
    obtain⟨val,hval⟩:=hc.dem r hr e hk hwon
    have hs1:c.s1.heap=c.s.heap:=hc.s1
    have fin:∀ v w' F',After w w' F F'→RepV w' F' c.base σ v val→Kn (a.put r.o.dst v) w':=by
     intro v w' F' haf hR
     have hFw:∀ b,F b→F' b∧w'.heap[b]? = w.heap[b]?:=fun b hb=>⟨haf.sub b hb,haf.below.block b (h.heap.fro b hb)⟩
     refine hK _ _ F' σ (h.advance hc hr hD (fun v x hx=>hx.mono hFw (fun _ _ h=>h)) (h.heap.after haf) (h.glob.mono hFw) (Nat.le_trans h.le haf.below.size) (.of_after haf h.le) (fun b hb=>?_) (fun d hd _=>⟨fun _ x hx=>?_,fun hno=>absurd hwon hno⟩)
      (madeold w' F' σ hmk hFw (fun b l hl=>haf.below.block _ (h.heap.own b l hl).2.2.2) rfl) (fun d m v n0 news hT hno=>h.unmade d m v n0 news hT (q5p hr hno)) (fun _ _ h=>h) (fun b hb=>(hFw b hb).1))
     ·rcases haf.old b hb with hb|hb
      ·exact h.frz b hb
      ·exact .inr (Nat.le_trans h.le hb)
     ·have:r.x=e:=by simp [Rec.x,hk]
      rw[this,hval] at hx
      obtain rfl:=Option.some.inj hx
      exact hR
    by_cases hpick:∃ cc x y,r.o.op=.pick cc x y
    ·obtain⟨cc,x,y,hpk⟩:=hpick
     have hmem:∀ z,z∈[cc,x,y]→z∈r.o.op.operands.toList:=fun z hz=>by rw[hpk];simpa [Op.operands] using hz
     refine z1l (z5s hpk hpe hval hwon ?_ ?_ ?_) fun v hR=>fin v w F (.refl h.heap.fro) hR
     ·refine hheld cc r.ch ?_ (hmem cc (by simp)) hwon
      simp only[q6C,hpk]
      cases q0j c.P (q0X done) 0 cc <;> simp
     ·intro ec hec hw
      exact hheld x _ (by simp only[q6C,hpk,hec];simp) (hmem x (by simp)) hw
     ·intro ec hec hw
      exact hheld y _ (by simp only[q6C,hpk,hec];simp) (hmem y (by simp)) hw
    ·have hne:∀ cc x y,r.o.op≠.pick cc x y:=fun cc x y hp=>hpick ⟨cc,x,y,hp⟩
     refine q9o (s:=c.s1) hne hpe hval (fun x hx=>hheld x r.ch ?_ hx hwon) (by rw[hs1];exact h.heap) h.glob h.le hc.sound fin
     unfold q6C
     split
     ·rename_i hp;exact absurd hp (hne _ _ _)
     ·exact List.mem_map.2 ⟨x,hx,rfl⟩
   |mk m=>
    rw[hk] at hkd
    have hmk:r.isMk=true:=by simp [Rec.isMk,hk]
    have hin:∃ d,r.o.dst=some d∧mkK c.P (q0X done) r.o=some m:=by
     simp only[kdOf] at hkd
     split at hkd
     ·rename_i hi
      cases hd:r.o.dst with
      |none=>rw[hd] at hi;cases hi
      |some d=>
       cases hm:mkK c.P (q0X done) r.o with
       |none=>simp [hm] at hkd
       |some m'=>
        simp only[hm,Option.map_some,Option.some.injEq,Kd.mk.injEq] at hkd
        exact⟨d,rfl,by rw[hkd]⟩
     ·split at hkd
      ·cases hm:effK c.P (q0X done) r.o <;> simp [hm] at hkd
      ·split at hkd
       ·cases hkd
       ·cases hm:wrK c.P (q0X done) r.o <;> simp [hm] at hkd
    obtain⟨d,hd,hmkK⟩:=hin
    obtain⟨v0,n0,news,hT⟩:=hc.rec_ r hr m d hk hd
    obtain⟨hevm,hn0,hn1⟩:=hc.evm d m v0 n0 news hT
    have hnotdone:∀ q∈c.R,D q.i→q.o.dst≠some d:=fun q hq hqD=>q4j hc hr hq (fun e=>hD (by rw[e];exact hqD)) hd
    have hun:=h.unmade d m v0 n0 news hT hnotdone
    have hnp:∀ cc x y,r.o.op≠.pick cc x y:=fun cc x y hp=>by simp [mkK,hp] at hmkK
    have hops:∀ x∈r.o.op.operands.toList,Held c.P c.K ⟨c.s1.rho,c.s.heap,n0,[]⟩ (q0X done) w F c.base σ a x:=by
     intro x hx t e v he hv
     refine hheld x r.ch ?_ hx hwon t e v he ?_
     ·unfold q6C
      split
      ·rename_i hp;exact absurd hp (hnp _ _ _)
      ·exact List.mem_map.2 ⟨x,hx,rfl⟩
     ·have:c.s1=⟨c.s1.rho,c.s.heap,c.s1.nx,c.s1.mv⟩:=by rw[←hc.s1]
      rw[this,j5f _ _ _ _ n0 _ []]
      exact hv
    refine j11 (s:=⟨c.s1.rho,c.s.heap,n0,[]⟩) hmkK hevm hops h.heap h.glob h.le hc.sound hun hn1 (fun b blk hb=>Nat.lt_of_lt_of_le (hc.dom b blk hb) hn0) fun vv w' F' σ' hmd hRv=>?_
    have honly:∀ b,¬(n0≤b∧b<n0+news.length)→σ' b=σ b:=hmd.only
    have hFw:∀ b,F b→F' b∧w'.heap[b]? = w.heap[b]?:=fun b hb=>⟨hmd.after.sub b hb,hmd.after.below.block b (h.heap.fro b hb)⟩
    refine hK _ _ F' σ' (h.advance hc hr hD (fun v x hx=>hx.mono hFw hmd.old) hmd.heap (h.glob.mono hFw) (Nat.le_trans h.le hmd.after.below.size) (.of_after hmd.after h.le) (fun b hb=>?_) (fun d' hd' _=>⟨fun _ x hx=>?_,fun hno=>absurd hwon hno⟩) ?_ ?_ hmd.old (fun b hb=>(hFw b hb).1))
    ·rcases hmd.after.old b hb with hb|hb
     ·exact h.frz b hb
     ·exact .inr (Nat.le_trans h.le hb)
    ·have hrx:r.x=.sl d:=by simp [Rec.x,hk,hd]
     rw[hrx] at hx
     simp only[ev] at hx
     rw[hc.put d m v0 n0 news hT] at hx
     obtain rfl:=Option.some.inj hx
     exact hRv
    ·rintro d' m' v' n0' news' hT' ⟨q,hq,hqD,hqd⟩ i blk hi
     by_cases hdd:d=d'
     ·subst hdd
      obtain⟨rfl,rfl,rfl,rfl⟩:=hc.same d m v0 n0 news m' v' n0' news' hT hT'
      exact hmd.blk i blk hi
     ·have hqD':D q.i:=by
       rcases hqD with hqD|hqi
       ·exact hqD
       ·obtain rfl:=hc.good.inj q hq r hr hqi
        rw[hd] at hqd
        exact absurd (Option.some.inj hqd) hdd
      have hdj:=hc.disj d m v0 n0 news d' m' v' n0' news' hT hT' hdd
      have hil:i<news'.length:=(List.getElem?_eq_some_iff.1 hi).1
      exact(h.made d' m' v' n0' news' hT' ⟨q,hq,hqD',hqd⟩ i blk hi).mono hFw hmd.old (fun h0=>by rw[honly _ (by omega)];exact h0) (fun l hl=>hmd.after.below.block _ (h.heap.own _ l hl).2.2.2)
    ·intro d' m' v' n0' news' hT' hno b hb1 hb2
     have hdd:d≠d':=by
      rintro rfl
      exact hno r hr (.inr rfl) hd
     have hdj:=hc.disj d m v0 n0 news d' m' v' n0' news' hT hT' hdd
     rw[honly b (by omega)]
     exact h.unmade d' m' v' n0' news' hT' (q5p hr hno) b hb1 hb2
  ·rw[if_neg (fun hw=>hwon (hwant.1 hw))]
   have hmk:r.isMk=false:=by
    cases hk:r.kd with
    |pure e=>simp [Rec.isMk,hk]
    |wr x=>simp [Rec.isMk,hk]
    |mk m=>
     -- what makes memory has no guard
     obtain⟨_,_,hgu,_,_⟩:=q0B hn
     exfalso
     cases hgd':r.o.guard with
     |none=>
      simp only[hgd',q4x,Option.some.injEq] at hch
      rw[←hch] at hwon
      exact hwon (fun p hp=>by simp at hp)
     |some jb=>
      obtain⟨j,b⟩:=jb
      simp only[q6x,hgd',Bool.and_eq_true,Bool.not_eq_true'] at hgu
      simp [Rec.isMk,hk] at hgu
   exact hK _ _ F σ (h.advance hc hr hD (fun _ _ h=>h) h.heap h.glob h.le (.refl _ _ _) h.frz (fun d hd _=>⟨fun hw=>absurd hw hwon,fun _=>rfl⟩)
    (madeold w F σ hmk (fun b hb=>⟨hb,rfl⟩) (fun _ _ _=>rfl) rfl) (fun d m v n0 news hT hno=>h.unmade d m v n0 news hT (q5p hr hno)) (fun _ _ h=>h) (fun _ h=>h))
end Go.Vm
end

section
namespace Go.Vm
open Go.RowKit
structure StRel(K:Cx)(X:Nat→Nat→Prop)(base:Nat)(w0:World)(F0:Nat→Prop)(m:Nat)(σ0:Nat→Option Loc)(n:Nat)(s:S)(a:Act)(w:World)(F:Nat→Prop)(σ:Nat→Option Loc):Prop where
 heap:HeapRel w F X base σ s.nx s.heap
 glob:GlobRel w F K.glob
 le:base≤w.heap.size
 frame:Frame X base w0 w
 frz:∀ b,F b→F0 b∨base≤b
 size:a.tmps.size=n
 dfr:a.defers=[]
 rho:∀ t v,look s.rho t=some v→RepV w F base σ (a.tmps.getD t undef) v
 dom:∀ b blk,look s.heap b=some blk→b<s.nx
 stab:∀ b l,b<m→σ0 b=some l→b∉s.mv→σ b=some l
 nxm:m≤s.nx
 xm:∀ b k,X b k→b<m
 sub:∀ b,F0 b→F b
def E.free(ds:List Nat):E→Bool
 |.sl t=>!ds.contains t
 |.un _ a|.fa _ a|.fld _ _ _ a|.ld _ _ a|.ext _ a|.len _ a|.agg a|.mki _ a|.mkf _ a|.conv _ a|.mlen a|.b2s a|.i2s a|.call _ a=>a.free ds
 |.bin _ a b|.eqs _ _ _ a b|.and a b|.or a b|.ia _ a b|.aa _ _ a b|.ix a b|.ax _ _ _ a b|.set _ _ a b|.callv a b|.cons a b=>a.free ds&&b.free ds
 |.cond a b c|.lkp _ _ a b c=>a.free ds&&b.free ds&&c.free ds
 |.cut _ _ _ _ _ a b c d=>a.free ds&&b.free ds&&c.free ds&&d.free ds
 |_=>true
def Mk.free(ds:List Nat):Mk→Bool
 |.box e=>e.free ds
 |.mks _ a b c=>a.free ds&&b.free ds&&c.free ds
 |.lits _ e=>e.free ds
 |.callo _ e=>e.free ds
 |.mkm=>true
 |.bld _ _=>true
theorem q4u(K:Cx)(ρ ρ':List (Nat×V))(H:List (Nat×Blk))(n n':Nat)(u u':List Nat){ds:List Nat}(h:∀ t,t∉ds→look ρ' t=look ρ t):∀ e:E,e.free ds=true→ev K ⟨ρ',H,n',u'⟩ e=ev K ⟨ρ,H,n,u⟩ e:=by
 intro e
 induction e with
 |sl t=>
  intro he
  simp only[E.free,Bool.not_eq_true',List.contains_eq_mem,decide_eq_false_iff_not] at he
  simp only[ev]
  exact h t he
 |_=>
  intro he
  simp only[E.free,Bool.and_eq_true] at he
  simp only[ev, *]
theorem z7b(K:Cx)(ρ ρ':List (Nat×V))(H:List (Nat×Blk))(n:Nat)(u u':List Nat){ds:List Nat}(h:∀ t,t∉ds→look ρ' t=look ρ t){m:Mk}(hm:m.free ds=true):evMk K ⟨ρ',H,n,u'⟩ m=evMk K ⟨ρ,H,n,u⟩ m:=by
 cases m <;> simp only[Mk.free,Bool.and_eq_true] at hm <;> simp only[evMk]
 ·rw[q4u K ρ ρ' H n n u u' h _ hm]
 ·rw[q4u K ρ ρ' H n n u u' h _ hm.1.1,q4u K ρ ρ' H n n u u' h _ hm.1.2,q4u K ρ ρ' H n n u u' h _ hm.2]
 ·rw[q4u K ρ ρ' H n n u u' h _ hm]
 ·rw[q4u K ρ ρ' H n n u u' h _ hm]
def z5G:List (Nat×Mk)→Bool
 |[]=>true
 |(d,m) :: r=>m.free (d :: r.map (·.1))&&!(r.map (·.1)).contains d&&z5G r
theorem q2e:∀(news:List Blk)(H:List (Nat×Blk))(nx b:Nat),look (addBlks H nx news) b=if nx≤b∧b<nx+news.length then news[b - nx]? else look H b
 |[],H,nx,b=>by simp only[addBlks,List.length_nil];rw[if_neg (by omega)]
 |k :: r,H,nx,b=>by
  simp only[addBlks,List.length_cons]
  rw[q2e r]
  by_cases h:nx+1≤b∧b<nx+1+r.length
  ·rw[if_pos h,if_pos (by omega)]
   obtain⟨m,rfl⟩:∃ m,b=nx+1+m:=⟨b - (nx+1),by omega⟩
   have h1:nx+1+m - (nx+1)=m:=by omega
   have h2:nx+1+m - nx=m+1:=by omega
   rw[h1,h2];rfl
  ·rw[if_neg h]
   simp only[look]
   by_cases hb:nx=b
   ·subst hb
    rw[if_pos rfl,if_pos (by omega)]
    simp
   ·rw[if_neg hb,if_neg (by omega)]
structure Traced(K:Cx)(s s1:S)(news:List Blk)(mks:List (Nat×Mk))(T:Tr):Prop where
 heap:s1.heap=s.heap
 nx:s1.nx=s.nx+news.length
 mv:s1.mv=s.mv
 of:∀ d m,(d,m)∈mks↔∃ v n0 nw,(d,m,v,n0,nw)∈T
 put:∀ d m v n0 nw,(d,m,v,n0,nw)∈T→look s1.rho d=some v
 evm:∀ d m v n0 nw,(d,m,v,n0,nw)∈T→evMk K ⟨s1.rho,s.heap,n0,[]⟩ m=some (v,nw)∧s.nx≤n0∧n0+nw.length≤s1.nx
 old:∀ t,t∉mks.map (·.1)→look s1.rho t=look s.rho t
 disj:∀ d m v n0 nw d' m' v' n0' nw',(d,m,v,n0,nw)∈T→(d',m',v',n0',nw')∈T→d≠d'→n0+nw.length≤n0'∨n0'+nw'.length≤n0
 same:∀ d m v n0 nw m' v' n0' nw',(d,m,v,n0,nw)∈T→(d,m',v',n0',nw')∈T→m=m'∧v=v'∧n0=n0'∧nw=nw'
 news:∀ i blk,news[i]? = some blk→∃ d m v n0 nw j,(d,m,v,n0,nw)∈T∧s.nx+i=n0+j∧nw[j]? = some blk
theorem traced(K:Cx):∀(mks:List (Nat×Mk))(s s1:S)(news:List Blk),z5G mks=true→q2E K s mks=some (s1,news)→∃ T,Traced K s s1 news mks T
 |[],s,s1,news,_,h=>by
  simp only[q2E,Option.some.injEq,Prod.mk.injEq] at h
  obtain⟨rfl,rfl⟩:=h
  exact⟨[],⟨rfl,by simp,rfl,fun d m=>by simp,fun _ _ _ _ _ h=>by simp at h,fun _ _ _ _ _ h=>by simp at h,fun _ _=>rfl,fun _ _ _ _ _ _ _ _ _ _ h=>by simp at h,fun _ _ _ _ _ _ _ _ _ h=>by simp at h,fun i blk h=>by simp at h⟩⟩
 |(d,m) :: r,s,s1,news,hok,h=>by
  simp only[z5G,Bool.and_eq_true,Bool.not_eq_true',List.contains_eq_mem,decide_eq_false_iff_not] at hok
  obtain⟨⟨hfree,hd⟩,hok⟩:=hok
  simp only[q2E] at h
  cases hm:evMk K s m with
  |none=>simp [hm] at h
  |some p=>
   obtain⟨v,nw⟩:=p
   simp only[hm] at h
   cases hr:q2E K ⟨put s.rho d v,s.heap,s.nx+nw.length,s.mv⟩ r with
   |none=>simp [hr] at h
   |some p=>
    obtain⟨s2,more⟩:=p
    simp only[hr,Option.some.injEq,Prod.mk.injEq] at h
    obtain⟨rfl,rfl⟩:=h
    obtain⟨T,hT⟩:=traced K r _ _ _ hok hr
    have inr:∀ d' m' v' n0' nw',(d',m',v',n0',nw')∈T→(d',m')∈r:=fun d' m' v' n0' nw' h=>(hT.of d' m').2 ⟨v',n0',nw',h⟩
    have hdT:∀ m' v' n0' nw',(d,m',v',n0',nw')∉T:=fun m' v' n0' nw' h=>hd (List.mem_map.2 ⟨_,inr _ _ _ _ _ h,rfl⟩)
    have hlook:∀ t,t∉d :: r.map (·.1)→look s2.rho t=look s.rho t:=by
     intro t ht
     simp only[List.mem_cons,not_or] at ht
     rw[hT.old t ht.2,q0I,if_neg (fun e=>ht.1 e.symm)]
    have hnx:=hT.nx
    simp only at hnx
    refine⟨(d,m,v,s.nx,nw) :: T,⟨hT.heap,by rw[hnx];simp;omega,hT.mv,fun d' m'=>?_,?_,?_,fun t ht=>hlook t (by simpa using ht),?_,?_,?_⟩⟩
    ·constructor
     ·intro h
      rcases List.mem_cons.1 h with h|h
      ·simp only[Prod.mk.injEq] at h
       obtain⟨rfl,rfl⟩:=h
       exact⟨v,s.nx,nw,by simp⟩
      ·obtain⟨v',n0',nw',h'⟩:=(hT.of d' m').1 h
       exact⟨v',n0',nw',List.mem_cons_of_mem _ h'⟩
     ·rintro⟨v',n0',nw',h⟩
      rcases List.mem_cons.1 h with h|h
      ·simp only[Prod.mk.injEq] at h
       obtain⟨rfl,rfl,_⟩:=h
       simp
      ·exact List.mem_cons_of_mem _ (inr _ _ _ _ _ h)
    ·intro d' m' v' n0' nw' h
     rcases List.mem_cons.1 h with h|h
     ·simp only[Prod.mk.injEq] at h
      obtain⟨rfl,rfl,rfl,rfl,rfl⟩:=h
      rw[hT.old d' hd,q0I,if_pos rfl]
     ·exact hT.put _ _ _ _ _ h
    ·intro d' m' v' n0' nw' h
     rcases List.mem_cons.1 h with h|h
     ·simp only[Prod.mk.injEq] at h
      obtain⟨rfl,rfl,rfl,rfl,rfl⟩:=h
      refine⟨?_,Nat.le_refl _,by omega⟩
      rw[z7b K s.rho s2.rho s.heap s.nx s.mv [] hlook hfree]
      exact hm
     ·obtain⟨h1,h2,h3⟩:=hT.evm _ _ _ _ _ h
      simp only at h1 h2
      exact⟨h1,by omega,h3⟩
    ·intro d1 m1 v1 n1 w1 d2 m2 v2 n2 w2 h1 h2 hne
     rcases List.mem_cons.1 h1 with k1|k1 <;> rcases List.mem_cons.1 h2 with k2|k2
     ·simp only[Prod.mk.injEq] at k1 k2
      exact absurd (k1.1.trans k2.1.symm) hne
     ·simp only[Prod.mk.injEq] at k1
      obtain⟨rfl,rfl,rfl,rfl,rfl⟩:=k1
      have:=(hT.evm _ _ _ _ _ k2).2.1
      simp only at this
      exact .inl this
     ·simp only[Prod.mk.injEq] at k2
      obtain⟨rfl,rfl,rfl,rfl,rfl⟩:=k2
      have:=(hT.evm _ _ _ _ _ k1).2.1
      simp only at this
      exact .inr this
     ·exact hT.disj _ _ _ _ _ _ _ _ _ _ k1 k2 hne
    ·intro d1 m1 v1 n1 w1 m2 v2 n2 w2 h1 h2
     rcases List.mem_cons.1 h1 with k1|k1 <;> rcases List.mem_cons.1 h2 with k2|k2
     ·simp only[Prod.mk.injEq] at k1 k2
      obtain⟨_,rfl,rfl,rfl,rfl⟩:=k1
      obtain⟨_,rfl,rfl,rfl,rfl⟩:=k2
      exact⟨rfl,rfl,rfl,rfl⟩
     ·simp only[Prod.mk.injEq] at k1
      obtain⟨rfl,_⟩:=k1
      exact absurd k2 (hdT _ _ _ _)
     ·simp only[Prod.mk.injEq] at k2
      obtain⟨rfl,_⟩:=k2
      exact absurd k1 (hdT _ _ _ _)
     ·exact hT.same _ _ _ _ _ _ _ _ _ k1 k2
    ·intro i blk hi
     by_cases hl:i<nw.length
     ·rw[List.getElem?_append_left hl] at hi
      exact⟨d,m,v,s.nx,nw,i,by simp,rfl,hi⟩
     ·rw[List.getElem?_append_right (by omega)] at hi
      obtain⟨d',m',v',n0',nw',j,h1,h2,h3⟩:=hT.news _ _ hi
      simp only at h2
      exact⟨d',m',v',n0',nw',j,List.mem_cons_of_mem _ h1,by omega,h3⟩
def Mk.roots:Mk→List E
 |.box e=>[e]
 |.mks _ a b c=>[a,b,c]
 |.lits _ e=>[e]
 |.callo _ e=>[e]
 |.mkm=>[]
 |.bld _ _=>[]
def Wr.roots:Wr→List E
 |.store _ a v=>[a,v]
 |.app _ a b=>[a,b]
 |.mset _ a b c=>[a,b,c]
 |.mclr a=>[a]
 |.calle _ e=>[e]
def Seg.ef(g:Seg):Option FuncId:=match g.wr with
 |some (_,.calle f _)=>some f
 |_=>none
def Seg.roots(g:Seg):List E:=g.mks.flatMap (·.2.roots)++(g.lets.map (·.2)++g.chk)
def Seg.wroots(g:Seg):List E:=match g.wr with|some p=>p.2.roots|none=>[]
def z1f:q1w→List (q1w×E)
 |[]=>[]
 |(e,_) :: r=>(r,e) :: z1f r
def q5V(ch:q1w)(l:List (q1w×E)):List (q1w×E):=l.map fun p=>(p.1++ch,p.2)
def Seg.subs(g:Seg):List (q1w×E):=g.roots.flatMap Vm.subs++(q5V g.wg (g.wroots.flatMap Vm.subs)++if g.wr.isSome then(z1f g.wg).flatMap (fun p=>q5V p.1 (Vm.subs p.2)) else [])
def Seg.conds(g:Seg):List (q1w×E):=g.roots.flatMap Vm.conds++(q5V g.wg (g.wroots.flatMap Vm.conds)++if g.wr.isSome then z1f g.wg++(z1f g.wg).flatMap (fun p=>q5V p.1 (Vm.conds p.2)) else [])
def q7c(l:List (q1w×E))(ch:q1w)(e:E):Bool:=l.any fun p=>decide (p.2=e)&&q6d p.1 ch
def z5m(ops:Array Oper)(R:List Rec)(sb cd:List (q1w×E))(r:Rec):Bool:=
 (match r.kd with
 |.pure e=>q7c sb r.ch e
 |_=>true) &&
 (match r.o.guard with
 |some (j,_)=>(R.all fun q=>q.i != j||(q7c cd q.ch q.x&&decide (q.i<r.i)))&&((R.any fun q=>q.i==j)||(match ops[j]? with
   |some o=>match o.dst with
    |some d=>(R.all fun q=>q.o.dst != some d)&&q7c cd [] (.sl d)
    |none=>true
   |none=>true))
 |none=>true)
def mkOf(r:Rec):Option (Nat×Mk):=match r.kd,r.o.dst with
 |.mk m,some d=>some (d,m)
 |_,_=>none
def j1X:Op→Bool
 |.pick ..=>false
 |_=>true
def q23(late:List E)(q:Rec):Bool:=match q.kd with
 |.pure e=>decide (e∈late)&&q.ch.isEmpty&&q.o.guard.isNone&&j1X q.o.op
 |_=>false
def q9v(late:List E)(R:List Rec):Bool:=R.all fun q=>!q23 late q||(reads q.o).all fun t=>R.all fun p=>decide (p.o.dst≠some t)||decide (q.i≤p.i)||q23 late p
def q8m(B:Nat→Nat→Bool)(P:Program)(ops:Array Oper)(n:Nat)(is:List Nat)(g:Seg):Bool:=
 z5G g.mks&&match recs B P ops (g.mks.map (·.1)) g.ef n is [] with
  |none=>false
  |some R=>
   let sb:=g.subs
   let cd:=g.conds
   R.all (z5m ops R sb cd)&&g.mks.all (fun p=>R.any fun r=>decide (mkOf r=some p))&&R.all (fun r=>match r.kd with
    |.mk m=>g.mks.any fun p=>decide (r.o.dst=some p.1)&&decide (p.2=m)
    |_=>true) &&
   g.lets.all (fun p=>R.any fun r=>decide (r.o.dst=some p.1)&&decide (r.kd=.pure p.2)&&r.ch.isEmpty) &&
   g.keep.all (fun t=>(g.mks.map (·.1)).contains t||R.all fun r=>decide (r.o.dst≠some t)) &&
   (match R.find? (·.isWr) with
   |some r=>match r.kd with
    |.wr x=>decide (g.wr=some (r.o.dst,x))&&decide (g.wg=r.ch)&&R.all fun q=>decide (q.i=r.i)||(!q.isWr&&(B q.i r.i||q23 g.late q))
    |_=>false
   |none=>g.wr.isNone)&&q9v g.late R
end Go.Vm
end

section
namespace Go.Vm
open Go.RowKit
structure SegOk(B:Nat→Nat→Bool)(P:Program)(ops:Array Oper)(n:Nat)(is:List Nat)(g:Seg)(R:List Rec):Prop where
 mks:z5G g.mks=true
 recs:recs B P ops (g.mks.map (·.1)) g.ef n is []=some R
 each:∀ r∈R,z5m ops R g.subs g.conds r=true
 made:∀ p∈g.mks,∃ r∈R,mkOf r=some p
 of:∀ r∈R,∀ m d,r.kd=.mk m→r.o.dst=some d→(d,m)∈g.mks
 lets:∀ p∈g.lets,∃ r∈R,r.o.dst=some p.1∧r.kd=.pure p.2∧r.ch=[]
 keep:∀ t∈g.keep,t∈g.mks.map (·.1)∨∀ r∈R,r.o.dst≠some t
 wr:(∀ r∈R,r.isWr=false)∧g.wr=none∨∃ r x,r∈R∧r.kd=.wr x∧g.wr=some (r.o.dst,x)∧g.wg=r.ch∧∀ q∈R,q.i=r.i∨(q.isWr=false∧(B q.i r.i=true∨q23 g.late q=true))
 lateN:∀ q∈R,q23 g.late q=true→∀ t∈reads q.o,∀ p∈R,p.o.dst=some t→p.i<q.i→q23 g.late p=true
theorem z0s{B:Nat→Nat→Bool}{P:Program}{ops:Array Oper}{n:Nat}{is:List Nat}{g:Seg}(h:q8m B P ops n is g=true):∃ R,SegOk B P ops n is g R:=by
 unfold q8m at h
 simp only[Bool.and_eq_true] at h
 obtain⟨h0,h⟩:=h
 cases hr:recs B P ops (g.mks.map (·.1)) g.ef n is [] with
 |none=>simp [hr] at h
 |some R=>
  simp only[hr,Bool.and_eq_true,List.all_eq_true,List.any_eq_true,decide_eq_true_eq,Bool.or_eq_true,List.contains_eq_mem] at h
  obtain⟨⟨⟨⟨⟨⟨h1,h2⟩,h3⟩,h4⟩,h5⟩,h6⟩,h7⟩:=h
  have hg:=(q3J is [] R .nil hr).1
  refine⟨R,⟨h0,hr,h1,h2,fun r hr m d hk hd=>?_,fun p hp=>?_,h5,?_,fun q hq hl t ht p hp hd hi=>?_⟩⟩
  ·have:=h3 r hr
   rw[hk] at this
   simp only[List.any_eq_true,Bool.and_eq_true,decide_eq_true_eq] at this
   obtain⟨p,hp,h1,h2⟩:=this
   rw[hd] at h1
   obtain rfl:=Option.some.inj h1
   subst h2
   exact hp
  ·obtain⟨r,hr,⟨h1,h2⟩,h3⟩:=h4 p hp
   exact⟨r,hr,h1,h2,by simpa using h3⟩
  ·cases hf:R.find? (·.isWr) with
   |none=>
    rw[hf] at h6
    exact .inl ⟨fun r hr=>by simpa using List.find?_eq_none.1 hf r hr,by simpa using h6⟩
   |some r=>
    rw[hf] at h6
    simp only at h6
    cases hk:r.kd with
    |wr x=>
     simp only[hk,Bool.and_eq_true,decide_eq_true_eq,List.all_eq_true,Bool.or_eq_true,Bool.not_eq_true'] at h6
     exact .inr ⟨r,x,List.mem_of_find?_eq_some hf,hk,h6.1.1,h6.1.2,h6.2⟩
    |pure e=>simp [hk] at h6
    |mk m=>simp [hk] at h6
  ·simp only[q9v,List.all_eq_true,Bool.or_eq_true,Bool.not_eq_true',decide_eq_true_eq] at h7
   rcases h7 q hq with h|h
   ·rw[hl] at h;cases h
   ·rcases h t ht p hp with(h|h)|h
    ·exact absurd hd h
    ·omega
    ·exact h
theorem q29(f:V→V):∀(l:List (Nat×V))(t:Nat),look (l.map fun(t,v)=>(t,f v)) t=(look l t).map f
 |[],t=>rfl
 |(k,v) :: l,t=>by
  simp only[List.map_cons,look]
  split
  ·rfl
  ·exact q29 f l t
theorem z1P{α:Type}:∀(l:List (Nat×α))(t:Nat)(v:α),look l t=some v→(t,v)∈l
 |[],t,v,h=>by simp [look] at h
 |(k,u) :: l,t,v,h=>by
  simp only[look] at h
  split at h
  ·rename_i he;subst he;obtain rfl:=Option.some.inj h;simp
  ·exact List.mem_cons_of_mem _ (z1P l t v h)
theorem q2q(K:Cx)(s:S):∀(l:List (Nat×E))(r:List (Nat×V)),q2W K s l=some r→(∀ t v,look r t=some v→∃ e,(t,e)∈l∧ev K s e=some v)∧∀ t e,(t,e)∈l→∃ v,ev K s e=some v
 |[],r,h=>by
  obtain rfl:=Option.some.inj h
  exact⟨fun t v h=>by simp [look] at h,fun t e h=>by simp at h⟩
 |(d,e) :: l,r,h=>by
  simp only[q2W] at h
  cases he:ev K s e with
  |none=>simp [he] at h
  |some v=>
   cases hl:q2W K s l with
   |none=>simp [he,hl] at h
   |some r'=>
    simp only[he,hl,Option.some.injEq] at h
    subst h
    obtain⟨h1,h2⟩:=q2q K s l r' hl
    refine⟨fun t u hu=>?_,fun t e' h'=>?_⟩
    ·simp only[look] at hu
     split at hu
     ·rename_i ht
      subst ht
      obtain rfl:=Option.some.inj hu
      exact⟨e,by simp,he⟩
     ·obtain⟨e',h1,h2⟩:=h1 t u hu
      exact⟨e',List.mem_cons_of_mem _ h1,h2⟩
    ·rcases List.mem_cons.1 h' with h'|h'
     ·simp only[Prod.mk.injEq] at h'
      obtain⟨rfl,rfl⟩:=h'
      exact⟨v,he⟩
     ·exact h2 t e' h'
theorem q9U(K:Cx)(s:S):∀(l:List E),q7s K s l=true→∀ e∈l,∃ v,ev K s e=some v
 |[],_,e,h=>by simp at h
 |x :: l,h,e,he=>by
  simp only[q7s,Bool.and_eq_true] at h
  rcases List.mem_cons.1 he with rfl|he
  ·exact Option.isSome_iff_exists.1 h.1
  ·exact q9U K s l h.2 e he
theorem q3u{α:Type}(a b:List (Nat×α))(t:Nat):look (a++b) t=match look a t with|some v=>some v|none=>look b t:=by
 induction a with
 |nil=>simp [look]
 |cons p a ih=>
  obtain⟨k,v⟩:=p
  simp only[List.cons_append,look]
  split
  ·rfl
  ·exact ih
theorem q0Q{α:Type}(l:List (Nat×α)):∀(ts:List Nat)(t:Nat)(v:α),look (q0g l ts) t=some v→t∈ts∧look l t=some v
 |[],t,v,h=>by simp [q0g,look] at h
 |u :: ts,t,v,h=>by
  simp only[q0g] at h
  cases hu:look l u with
  |none=>
   simp only[hu] at h
   obtain⟨h1,h2⟩:=q0Q l ts t v h
   exact⟨List.mem_cons_of_mem _ h1,h2⟩
  |some x=>
   simp only[hu,look] at h
   split at h
   ·rename_i he
    subst he
    exact⟨by simp,by rw[hu];exact h⟩
   ·obtain⟨h1,h2⟩:=q0Q l ts t v h
    exact⟨List.mem_cons_of_mem _ h1,h2⟩
theorem q6F(p:Lost)(ρ:List (Nat×V))(t:Nat)(x:V)(h:look (lose p ρ) t=some x):∃ y,look ρ t=some y∧x=q4T p y:=by
 cases p with
 |none=>exact⟨x,h,rfl⟩
 |many l=>
  cases l with
  |nil=>exact⟨x,h,rfl⟩
  |cons c r=>
   simp only[lose,forgetR] at h
   induction ρ with
   |nil=>simp [look] at h
   |cons q ρ ih=>
    obtain⟨k,v⟩:=q
    simp only[List.map_cons,look] at h ⊢
    split
    ·rename_i hk
     rw[if_pos hk] at h
     exact⟨v,rfl,(Option.some.inj h).symm⟩
    ·rename_i hk
     rw[if_neg hk] at h
     exact ih h
 |some b=>
  simp only[lose,forgetR] at h
  induction ρ with
  |nil=>simp [look] at h
  |cons q ρ ih=>
   obtain⟨k,v⟩:=q
   simp only[List.map_cons,look] at h ⊢
   split
   ·rename_i hk
    rw[if_pos hk] at h
    exact⟨v,rfl,(Option.some.inj h).symm⟩
   ·rename_i hk
    rw[if_neg hk] at h
    exact ih h
theorem q7W(p:Lost)(H:List (Nat×Blk))(b:Nat)(x:Blk)(h:look (loseH p H) b=some x):∃ y,look H b=some y:=by
 cases p with
 |none=>exact⟨x,h⟩
 |many l=>exact⟨x,h⟩
 |some c=>
  simp only[loseH,forgetH] at h
  induction H with
  |nil=>simp [look] at h
  |cons q H ih=>
   obtain⟨k,v⟩:=q
   simp only[List.map_cons,look] at h ⊢
   split
   ·exact⟨v,rfl⟩
   ·rename_i hk
    rw[if_neg hk] at h
    exact ih h
theorem z7e{K:Cx}{n0:Nat}{H H':List (Nat×Blk)}{f:FuncId}{vs:List V}{bs:List Nat}{v:V}{p:Lost}{nx:Nat}(h:q67 K n0 H f vs bs=some (H',v,p,nx))(hd:∀ b blk,look H b=some blk→b<n0):(∀ b blk,look H' b=some blk→b<nx)∧n0≤nx:=by
 unfold q67 at h
 split at h
 case isFalse=>cases h
 rename_i hc
 simp only[Bool.and_eq_true,decide_eq_true_eq,List.all_eq_true] at hc
 obtain⟨_,hcl⟩:=hc
 cases h1:handed H bs with
 |none=>simp [h1] at h
 |some blks=>
  simp only[h1] at h
  cases h2:K.eff f (vs.map fun v=>v.dim.ren bs.idxOf) blks with
  |none=>simp [h2] at h
  |some q=>
   obtain⟨r0,blks',mv⟩:=q
   simp only[h2] at h
   split at h
   case isFalse=>cases h
   rename_i hle
   simp only[Option.some.injEq,Prod.mk.injEq] at h
   obtain⟨rfl,_,_,rfl⟩:=h
   refine⟨fun b blk hb=>?_,by omega⟩
   simp only[closedB,List.all_eq_true] at hcl
   by_cases him:∃ j,j<blks'.length∧q1C bs n0 j=b
   ·obtain⟨j,hj,rfl⟩:=him
    by_cases hjb:j<bs.length
    ·rw[q1E hjb]
     have:=hcl _ (List.getElem_mem hjb)
     split at this
     ·rename_i k hk
      have:=hd _ _ hk
      omega
     ·cases this
    ·rw[q2n (by omega)]
     omega
   ·rw[q19 _ _ _ _ _ (fun j hj he=>him ⟨j,hj,by rw[Nat.zero_add] at he;exact he⟩)] at hb
    obtain⟨k0,h1,_⟩:=q7V _ _ _ hb
    have:=hd _ _ h1
    omega
theorem z2a{K:Cx}{s:S}{H H':List (Nat×Blk)}{wr:Wr}{v:V}{p:Lost}{nx:Nat}(h:evWr K s H wr=some (H',v,p,nx))(hd:∀ b blk,look H b=some blk→b<s.nx):(∀ b blk,look H' b=some blk→b<nx)∧s.nx≤nx:=by
 have put_dom:∀ {c:Nat} {x y:Blk},look H c=some x→∀ b blk,look (put H c y) b=some blk→b<s.nx:=by
  intro c x y hc b blk hb
  rw[q0I] at hb
  split at hb
  ·rename_i hcb;subst hcb;exact hd _ _ hc
  ·exact hd _ _ hb
 cases wr with
 |store n a e=>
  simp only[evWr] at h
  split at h
  ·rename_i b i j x _ _
   split at h
   ·split at h
    ·rename_i blk hb
     split at h
     ·simp only[Option.some.injEq,Prod.mk.injEq] at h
      obtain⟨rfl,_,_,rfl⟩:=h
      exact⟨put_dom hb,Nat.le_refl _⟩
     ·cases h
    ·cases h
   ·cases h
  ·cases h
 |calle f e=>
  simp only[evWr] at h
  split at h
  ·split at h
   ·exact z7e h hd
   ·cases h
  ·cases h
 |mset kk m k e=>
  simp only[evWr] at h
  split at h
  ·split at h
   ·split at h
    ·rename_i blk hb
     split at h
     ·split at h
      ·simp only[Option.some.injEq,Prod.mk.injEq] at h
       obtain⟨rfl,_,_,rfl⟩:=h
       exact⟨put_dom hb,Nat.le_refl _⟩
      ·cases h
     ·cases h
    ·cases h
   ·cases h
  ·cases h
 |mclr m=>
  simp only[evWr] at h
  split at h
  ·split at h
   ·rename_i blk hb
    split at h
    ·split at h
     ·cases h
     ·simp only[Option.some.injEq,Prod.mk.injEq] at h
      obtain⟨rfl,_,_,rfl⟩:=h
      exact⟨put_dom hb,Nat.le_refl _⟩
    ·cases h
   ·cases h
  ·cases h
 |app k a e=>
  simp only[evWr] at h
  split at h
  ·split at h
   ·split at h
    ·split at h
     ·rename_i blk hb
      split at h
      ·simp only[Option.some.injEq,Prod.mk.injEq] at h
       obtain⟨rfl,_,_,rfl⟩:=h
       exact⟨put_dom hb,Nat.le_refl _⟩
      ·cases h
     ·cases h
    ·split at h
     ·simp only[Option.some.injEq,Prod.mk.injEq] at h
      obtain⟨rfl,_,_,rfl⟩:=h
      refine⟨fun b blk hb=>?_,by omega⟩
      simp only[look] at hb
      split at hb
      ·omega
      ·have:=hd _ _ hb;omega
     ·cases h
    ·cases h
   ·cases h
  ·cases h
structure Ended(K:Cx)(s s':S)(g:Seg)(s1:S)(news:List Blk)(l:List (Nat×V)):Prop where
 mks:q2E K s g.mks=some (s1,news)
 lets:q2W K s1 g.lets=some l
 chk:q7s K s1 g.chk=true
 late:z1T K s s'.mv g
 wr:g.wr=none∧s'=⟨l++q0g s1.rho g.keep,addBlks s.heap s.nx news,s1.nx,s.mv⟩∨
  (∃ d wr,g.wr=some (d,wr)∧wonB K s1 g.wg=some false∧s'=⟨l++q0g s1.rho g.keep,addBlks s.heap s.nx news,s1.nx,s.mv⟩)∨
  ∃ d wr H v p nx,g.wr=some (d,wr)∧wonB K s1 g.wg=some true∧evWr K s1 (addBlks s.heap s.nx news) wr=some (H,v,p,nx)∧
   s'=⟨(match d with|some d=>(d,v) :: lose p (l++q0g s1.rho g.keep)|none=>lose p (l++q0g s1.rho g.keep)),loseH p H,nx,p.ids++s.mv⟩
theorem z08{K:Cx}{s s':S}{g:Seg}(h:q1g K s g=some s'):∃ s1 news l,Ended K s s' g s1 news l:=by
 unfold q1g at h
 split at h
 case h_2=>cases h
 rename_i s2 hs2
 split at h
 case isFalse=>cases h
 rename_i h0
 obtain rfl:=Option.some.inj h
 have h:=hs2
 clear hs2
 unfold q47 at h
 cases h1:q2E K s g.mks with
 |none=>simp [h1] at h
 |some p=>
  obtain⟨s1,news⟩:=p
  simp only[h1] at h
  cases h2:q2W K s1 g.lets with
  |none=>simp [h2] at h
  |some l=>
   simp only[h2] at h
   split at h
   case isFalse=>cases h
   rename_i h3
   refine⟨s1,news,l,⟨h1,h2,h3,h0,?_⟩⟩
   cases h4:g.wr with
   |none=>
    simp only[h4,Option.some.injEq] at h
    exact .inl ⟨rfl,h.symm⟩
   |some q=>
    obtain⟨d,wr⟩:=q
    simp only[h4] at h
    cases hwb:wonB K s1 g.wg with
    |none=>simp [hwb] at h
    |some wb=>
    cases wb with
    |false=>
     simp only[hwb,Option.some.injEq] at h
     exact .inr (.inl ⟨d,wr,rfl,rfl,h.symm⟩)
    |true=>
    simp only[hwb] at h
    cases h5:evWr K s1 (addBlks s.heap s.nx news) wr with
    |none=>simp [h5] at h
    |some r=>
     obtain⟨H,v,p,nx⟩:=r
     simp only[h5] at h
     refine .inr (.inr ⟨d,wr,H,v,p,nx,rfl,rfl,h5,?_⟩)
     cases d with
     |none=>simp only[Option.some.injEq] at h;exact h.symm
     |some d=>simp only[Option.some.injEq] at h;exact h.symm
theorem z8w{K:Cx}{s s' s1:S}{g:Seg}{news:List Blk}{l:List (Nat×V)}{T:Tr}(h:Ended K s s' g s1 news l)(hT:Traced K s s1 news g.mks T):∀ e∈g.roots,∃ v,ev K s1 e=some v:=by
 intro e he
 simp only[Seg.roots,List.mem_append,List.mem_flatMap,List.mem_map] at he
 rcases he with⟨⟨d,m⟩,hp,he⟩|⟨⟨t,e'⟩,hp,rfl⟩|he
 ·obtain⟨v,n0,nw,hm⟩:=(hT.of d m).1 hp
  have hev:=(hT.evm d m v n0 nw hm).1
  have back:∀ x v,ev K ⟨s1.rho,s.heap,n0,[]⟩ x=some v→ev K s1 x=some v:=by
   intro x v hx
   have:s1=⟨s1.rho,s.heap,s1.nx,s1.mv⟩:=by rw[←hT.heap]
   rw[this,j5f _ _ _ _ n0 _ []]
   exact hx
  cases m with
  |mkm=>simp [Mk.roots] at he
  |bld t e=>simp [Mk.roots] at he
  |box x=>
   simp only[Mk.roots,List.mem_singleton] at he
   subst he
   simp only[evMk] at hev
   cases hx:ev K ⟨s1.rho,s.heap,n0,[]⟩ e with
   |none=>simp [hx] at hev
   |some v=>exact⟨v,back _ _ hx⟩
  |mks k a b c=>
   simp only[evMk] at hev
   split at hev
   ·rename_i h1 h2 h3
    simp only[Mk.roots,List.mem_cons,List.not_mem_nil,or_false] at he
    rcases he with rfl|rfl|rfl
    ·exact⟨_,back _ _ h1⟩
    ·exact⟨_,back _ _ h2⟩
    ·exact⟨_,back _ _ h3⟩
   ·cases hev
  |lits k x=>
   simp only[Mk.roots,List.mem_singleton] at he
   subst he
   simp only[evMk] at hev
   split at hev
   ·rename_i h1;exact⟨_,back _ _ h1⟩
   ·cases hev
  |callo f x=>
   simp only[Mk.roots,List.mem_singleton] at he
   subst he
   simp only[evMk] at hev
   split at hev
   ·rename_i h1;exact⟨_,back _ _ h1⟩
   ·cases hev
 ·exact(q2q K s1 g.lets l h.lets).2 t e' hp
 ·exact q9U K s1 g.chk h.chk e he
theorem q82{K:Cx}{s:S}:∀ {ch:q1w},wonB K s ch=some true→Won K s ch
 |[],_=>fun p hp=>by simp at hp
 |(e,b) :: r,h=>by
  simp only[wonB] at h
  cases hr:wonB K s r with
  |none=>simp [hr] at h
  |some x=>
   cases x with
   |false=>simp [hr] at h
   |true=>
    simp only[hr] at h
    split at h
    ·rename_i k x hx
     have hxb:x=b:=by simpa using h
     subst hxb
     intro p hp
     rcases List.mem_cons.1 hp with rfl|hp
     ·exact⟨k,hx⟩
     ·exact q82 hr p hp
    ·cases h
theorem q3Y{K:Cx}{s:S}:∀ {ch:q1w},wonB K s ch=some false→¬ Won K s ch
 |[],h=>by simp [wonB] at h
 |(e,b) :: r,h=>by
  simp only[wonB] at h
  intro hw
  cases hr:wonB K s r with
  |none=>simp [hr] at h
  |some x=>
   cases x with
   |false=>exact q3Y hr hw.tail
   |true=>
    simp only[hr] at h
    obtain⟨k,hk⟩:=hw.head
    simp only at hk
    rw[hk] at h
    simp at h
theorem q6f{K:Cx}{s:S}:∀ {ch:q1w}{b:Bool},wonB K s ch=some b→∀ c e,(c,e)∈z1f ch→Won K s c→∃ k x,ev K s e=some (.d k (.bool x))
 |[],b,_,c,e,hm,_=>by simp [z1f] at hm
 |(e0,b0) :: r,b,h,c,e,hm,hw=>by
  simp only[wonB] at h
  simp only[z1f,List.mem_cons,Prod.mk.injEq] at hm
  cases hr:wonB K s r with
  |none=>simp [hr] at h
  |some x=>
   rcases hm with⟨rfl,rfl⟩|hm
   ·cases x with
    |false=>exact absurd hw (q3Y hr)
    |true=>
     simp only[hr] at h
     split at h
     ·rename_i k x hx;exact⟨k,x,hx⟩
     ·cases h
   ·exact q6f hr c e hm hw
theorem q80{K:Cx}{s s' s1:S}{g:Seg}{news:List Blk}{l:List (Nat×V)}(h:Ended K s s' g s1 news l)(hw:Won K s1 g.wg):∀ e∈g.wroots,∃ v,ev K s1 e=some v:=by
 intro e he
 unfold Seg.wroots at he
 rcases h.wr with⟨hwn,_⟩|⟨d,wr,hwn,hwb,_⟩|⟨d,wr,H,v,p,nx,hwn,hwb,hev,_⟩
 ·rw[hwn] at he;simp at he
 ·exact absurd hw (q3Y hwb)
 ·rw[hwn] at he
  cases wr with
  |store n a b=>
   simp only[Wr.roots,List.mem_cons,List.not_mem_nil,or_false] at he
   simp only[evWr] at hev
   split at hev
   ·rename_i h1 h2
    rcases he with rfl|rfl
    ·exact⟨_,h1⟩
    ·exact⟨_,h2⟩
   ·cases hev
  |mset kk a b c=>
   simp only[Wr.roots,List.mem_cons,List.not_mem_nil,or_false] at he
   simp only[evWr] at hev
   split at hev
   ·rename_i h1 h2 h3
    rcases he with rfl|rfl|rfl
    ·exact⟨_,h1⟩
    ·exact⟨_,h2⟩
    ·exact⟨_,h3⟩
   ·cases hev
  |mclr a=>
   simp only[Wr.roots,List.mem_singleton] at he
   subst he
   simp only[evWr] at hev
   split at hev
   ·rename_i h1;exact⟨_,h1⟩
   ·cases hev
  |calle f x=>
   simp only[Wr.roots,List.mem_singleton] at he
   subst he
   simp only[evWr] at hev
   split at hev
   ·rename_i h1;exact⟨_,h1⟩
   ·cases hev
  |app k a b=>
   simp only[Wr.roots,List.mem_cons,List.not_mem_nil,or_false] at he
   simp only[evWr] at hev
   split at hev
   ·rename_i h1 h2
    rcases he with rfl|rfl
    ·exact⟨_,h1⟩
    ·exact⟨_,h2⟩
   ·cases hev
theorem q4w{K:Cx}{s:S}{l:List (q1w×E)}{ch:q1w}{e:E}(h:q7c l ch e=true)(hw:Won K s ch):∃ ch',(ch',e)∈l∧Won K s ch':=by
 simp only[q7c,List.any_eq_true,Bool.and_eq_true,decide_eq_true_eq] at h
 obtain⟨⟨ch',e'⟩,hm,rfl,hs⟩:=h
 simp only[q6d,List.all_eq_true,decide_eq_true_eq] at hs
 exact⟨ch',hm,fun p hp=>hw p (hs p hp)⟩
def q1N(P:Program)(K:Cx)(ops:Array Oper)(B:Nat→Nat→Bool)(n:Nat)(R:List Rec)(g:Seg)(s s1:S)(T:Tr)(X:Nat→Nat→Prop)(base:Nat)(w0:World)(F0:Nat→Prop)(m:Nat)(σ0:Nat→Option Loc):Piece:=
 ⟨P,K,ops,B,g.mks.map (·.1),g.ef,n,R,s,s1,T,X,base,w0,F0,m,σ0⟩
theorem z8B{P:Program}{K:Cx}{ops:Array Oper}{B:Nat→Nat→Bool}{n:Nat}{is:List Nat}{R:List Rec}{g:Seg}{s s' s1:S}{news:List Blk}{l:List (Nat×V)}{T:Tr}{X:Nat→Nat→Prop}{base:Nat}{w0:World}{F0:Nat→Prop}{m0:Nat}{σ0:Nat→Option Loc}
  (hs:SegOk B P ops n is g R) (h:Ended K s s' g s1 news l) (hT:Traced K s s1 news g.mks T) (hK:K.Sound P) (hdom:∀ b blk,look s.heap b=some blk→b<s.nx):(q1N P K ops B n R g s s1 T X base w0 F0 m0 σ0).Ok:=by
 have hroots:=z8w h hT
 have asks:g.wr.isSome=true→∃ b,wonB K s1 g.wg=some b:=by
  intro hw
  rcases h.wr with⟨hn,_⟩|⟨d,wr,_,hb,_⟩|⟨d,wr,H,v,p,nx,_,hb,_⟩
  ·rw[hn] at hw;cases hw
  ·exact⟨_,hb⟩
  ·exact⟨_,hb⟩
 have won_app:∀ {a b:q1w},Won K s1 (a++b)→Won K s1 a∧Won K s1 b:=fun h=>⟨fun p hp=>h p (List.mem_append_left _ hp),fun p hp=>h p (List.mem_append_right _ hp)⟩
 have key:∀ ch e,(ch,e)∈g.subs→Won K s1 ch→∃ v,ev K s1 e=some v:=by
  intro ch e hm hw
  unfold Seg.subs at hm
  simp only[List.mem_append] at hm
  rcases hm with hm|hm|hm
  ·obtain⟨root,hr,hm⟩:=List.mem_flatMap.1 hm
   obtain⟨v,hv⟩:=hroots root hr
   exact z0p root v hv ch e hm hw
  ·simp only[q5V,List.mem_map] at hm
   obtain⟨⟨c1,e1⟩,hm,he⟩:=hm
   simp only[Prod.mk.injEq] at he
   obtain⟨rfl,rfl⟩:=he
   obtain⟨w1,w2⟩:=won_app hw
   obtain⟨root,hr,hm⟩:=List.mem_flatMap.1 hm
   obtain⟨v,hv⟩:=q80 h w2 root hr
   exact z0p root v hv c1 e1 hm w1
  ·split at hm
   ·rename_i hs'
    obtain⟨b,hb⟩:=asks hs'
    obtain⟨⟨c0,e0⟩,h0,hm2⟩:=List.mem_flatMap.1 hm
    simp only[q5V,List.mem_map] at hm2
    obtain⟨⟨c1,e1⟩,hm3,he⟩:=hm2
    simp only[Prod.mk.injEq] at he
    obtain⟨rfl,rfl⟩:=he
    obtain⟨w1,w2⟩:=won_app hw
    obtain⟨k,x,hx⟩:=q6f hb c0 e0 h0 w2
    exact z0p e0 _ hx c1 e1 hm3 w1
   ·simp at hm
 have keyc:∀ ch e,(ch,e)∈g.conds→Won K s1 ch→∃ k b,ev K s1 e=some (.d k (.bool b)):=by
  intro ch e hm hw
  unfold Seg.conds at hm
  simp only[List.mem_append] at hm
  rcases hm with hm|hm|hm
  ·obtain⟨root,hr,hm⟩:=List.mem_flatMap.1 hm
   obtain⟨v,hv⟩:=hroots root hr
   exact q8O root v hv ch e hm hw
  ·simp only[q5V,List.mem_map] at hm
   obtain⟨⟨c1,e1⟩,hm,he⟩:=hm
   simp only[Prod.mk.injEq] at he
   obtain⟨rfl,rfl⟩:=he
   obtain⟨w1,w2⟩:=won_app hw
   obtain⟨root,hr,hm⟩:=List.mem_flatMap.1 hm
   obtain⟨v,hv⟩:=q80 h w2 root hr
   exact q8O root v hv c1 e1 hm w1
  ·split at hm
   ·rename_i hs'
    obtain⟨b,hb⟩:=asks hs'
    rcases List.mem_append.1 hm with hm|hm
    ·exact q6f hb ch e hm hw
    ·obtain⟨⟨c0,e0⟩,h0,hm2⟩:=List.mem_flatMap.1 hm
     simp only[q5V,List.mem_map] at hm2
     obtain⟨⟨c1,e1⟩,hm3,he⟩:=hm2
     simp only[Prod.mk.injEq] at he
     obtain⟨rfl,rfl⟩:=he
     obtain⟨w1,w2⟩:=won_app hw
     obtain⟨k,x,hx⟩:=q6f hb c0 e0 h0 w2
     exact q8O e0 _ hx c1 e1 hm3 w1
   ·simp at hm
 refine⟨(q3J is [] R .nil hs.recs).1,hK,hT.heap,fun d=>?_,hT.put,fun d m v n0 nw hm=>hT.evm d m v n0 nw hm,hT.old,fun r hr m d hk hd=>(hT.of d m).1 (hs.of r hr m d hk hd),hT.disj,hT.same,fun r hr e hk hw=>?_,fun r hr j b hg q hq hqj hw=>?_,fun r hr j b hg=>?_,hdom,fun d hd=>?_⟩
 ·constructor
  ·intro hd
   obtain⟨⟨d',m⟩,hp,rfl⟩:=List.mem_map.1 hd
   obtain⟨v,n0,nw,hm⟩:=(hT.of d' m).1 hp
   exact⟨m,v,n0,nw,hm⟩
  ·rintro⟨m,v,n0,nw,hm⟩
   exact List.mem_map.2 ⟨(d,m),(hT.of d m).2 ⟨v,n0,nw,hm⟩,rfl⟩
 ·have:=hs.each r hr
  simp only[z5m,hk,Bool.and_eq_true] at this
  obtain⟨ch',hm,hw'⟩:=q4w this.1 hw
  exact key ch' e hm hw'
 ·have:=hs.each r hr
  simp only[z5m,hg,Bool.and_eq_true,List.all_eq_true,Bool.or_eq_true,bne_iff_ne,ne_eq] at this
  rcases this.2.1 q hq with h1|h1
  ·exact absurd hqj h1
  ·obtain⟨ch',hm,hw'⟩:=q4w h1.1 hw
   exact keyc ch' q.x hm hw'
 ·have:=hs.each r hr
  simp only[z5m,hg,Bool.and_eq_true,List.all_eq_true,Bool.or_eq_true,bne_iff_ne,ne_eq,List.any_eq_true,beq_iff_eq,decide_eq_true_eq] at this
  obtain⟨_,h1,h2⟩:=this
  rcases h2 with⟨q,hq,hqj⟩|h2
  ·exact .inl ⟨q,hq,hqj,((h1 q hq).resolve_left (fun h=>h hqj)).2⟩
  ·refine .inr fun o d ho hd=>?_
   have ho':ops[j]? = some o:=ho
   simp only[ho',hd,Bool.and_eq_true,List.all_eq_true,bne_iff_ne,ne_eq] at h2
   obtain⟨h3,h4⟩:=h2
   refine⟨h3,?_⟩
   obtain⟨ch',hm,hw'⟩:=q4w h4 (fun p hp=>by simp at hp)
   obtain⟨k,x,hx⟩:=keyc ch' _ hm hw'
   simp only[ev] at hx
   refine⟨k,x,?_⟩
   show look s.rho d=some (.d k (.bool x))
   rw[←hT.old d (fun hmm=>by
    obtain⟨p,hp,hpd⟩:=List.mem_map.1 hmm
    obtain⟨r2,hr2,hm2⟩:=hs.made p hp
    unfold mkOf at hm2
    split at hm2
    ·rename_i m2 d2 hk2 hd2
     simp only[Option.some.injEq] at hm2
     subst hm2
     simp only at hpd
     subst hpd
     exact h3 r2 hr2 hd2
    ·cases hm2)]
   exact hx
 ·obtain⟨p,hp,rfl⟩:=List.mem_map.1 hd
  obtain⟨r,hr,hm⟩:=hs.made p hp
  unfold mkOf at hm
  split at hm
  ·rename_i m d hk hdd
   simp only[Option.some.injEq] at hm
   subst hm
   exact⟨r,hr,hdd,by simp [Rec.isMk,hk]⟩
  ·cases hm
end Go.Vm
end

section
namespace Go.Vm
open Go.RowKit
variable {c:Piece}{D:Nat→Prop}{a:Act}{w:World}{F:Nat→Prop}{σ:Nat→Option Loc}{g:Seg}{s':S}{news:List Blk}{l:List (Nat×V)}{is:List Nat}
structure Full(c:Piece)(is:List Nat)(g:Seg)(s':S)(news:List Blk)(l:List (Nat×V)):Prop where
 ok:c.Ok
 seg:SegOk c.B c.P c.ops c.n is g c.R
 ended:Ended c.K c.s s' g c.s1 news l
 traced:Traced c.K c.s c.s1 news g.mks c.T
 mds:c.mds=g.mks.map (·.1)
 ef:c.ef=g.ef
 nxm:c.m≤c.s.nx
 xm:∀ b k,c.X b k→b<c.m
structure Wrt(c:Piece)(g:Seg)(s':S)(D:Nat→Prop)(a:Act)(w:World)(F:Nat→Prop)(σ:Nat→Option Loc):Prop where
 rest:∀ r∈c.R,¬ D r.i→q23 g.late r=true
 heap:HeapRel w F c.X c.base σ s'.nx s'.heap
 glob:GlobRel w F c.K.glob
 le:c.base≤w.heap.size
 frame:Frame c.X c.base c.w0 w
 frz:∀ b,F b→c.F0 b∨c.base≤b
 size:a.tmps.size=c.n
 dfr:a.defers=[]
 rho:∀ t v,look s'.rho t=some v→(∀ r∈c.R,¬ D r.i→r.o.dst≠some t)→RepV w F c.base σ (a.tmps.getD t undef) v
 dom:∀ b blk,look s'.heap b=some blk→b<s'.nx
 stab:∀ b l,b<c.m→c.σ0 b=some l→b∉s'.mv→σ b=some l
 nxm:c.m≤s'.nx
 xm:∀ b k,c.X b k→b<c.m
 sub:∀ b,c.F0 b→F b
 ldone:∀ q∈c.R,D q.i→q23 g.late q=true→∀ d,q.o.dst=some d→∀ v,ev c.K (q2g s'.mv (q2i c.K c.s g s'.mv) c.s1) q.x=some v→RepV w F c.base σ (a.tmps.getD d undef) v
 lold:∀ t v,look (q2g s'.mv (q2i c.K c.s g s'.mv) c.s1).rho t=some v→(∀ r∈c.R,D r.i→r.o.dst≠some t)→RepV w F c.base σ (a.tmps.getD t undef) v
def Stage(c:Piece)(g:Seg)(s':S)(D:Nat→Prop)(a:Act)(w:World):Prop:=
 ((∀ r∈c.R,D r.i→r.isWr=false)∧∃ F σ,Inv c D a w F σ)∨((∃ r∈c.R,D r.i∧r.isWr=true)∧∃ F σ,Wrt c g s' D a w F σ)
theorem q2p{late:List E}{q:Rec}(h:q23 late q=true):∃ e,q.kd=.pure e∧q.x=e∧e∈late∧q.ch=[]∧q.o.guard=none∧(∀ c x y,q.o.op≠.pick c x y)∧q.isWr=false∧q.isMk=false:=by
 unfold q23 at h
 split at h
 ·rename_i e hk
  simp only[Bool.and_eq_true,decide_eq_true_eq,List.isEmpty_iff,Option.isNone_iff_eq_none] at h
  obtain⟨⟨⟨h1,h2⟩,h3⟩,h4⟩:=h
  refine⟨e,hk,by simp [Rec.x,hk],h1,h2,h3,fun c x y hp=>?_,by simp [Rec.isWr,hk],by simp [Rec.isMk,hk]⟩
  rw[hp] at h4
  cases h4
 ·cases h
theorem z5L(p:Lost){x:V}(h:x.own=false):q4T p x=x:=by
 have one:∀(P:Nat→Bool) (x:V),x.own1=false→x.drop1 P=x:=by
  intro P x hx
  cases x <;> first|rfl|(simp [V.own1] at hx)
 have all:∀(P:Nat→Bool) (x:V),x.own=false→x.forget P=x:=by
  intro P x hx
  cases x with
  |agg cs=>
   simp only[V.own,List.any_eq_false] at hx
   simp only[V.forget,V.agg.injEq]
   have:cs.map (V.drop1 P)=cs.map id:=List.map_congr_left fun v hv=>one P v (by simpa using hx v hv)
   rw[this,List.map_id]
  |d c y=>rfl
  |fs c k rows=>rfl
  |fn f cs=>
   simp only[V.own,List.any_eq_false] at hx
   simp only[V.forget,V.drop1]
   rw[if_neg]
   simp only[List.any_eq_true,not_exists,not_and]
   intro v hv hr
   have:=hx v hv
   cases v <;> simp [V.own1,V.ref0] at this hr
  |_=>simp [V.own,V.own1] at hx
 cases p with
 |none=>rfl
 |some b=>exact all _ _ h
 |many l=>cases l <;> first|rfl|exact all _ _ h
theorem q5r{p:Lost}{mv:List Nat}{x:V}(hp:∀ b∈p.ids,b∈mv)(h:q5s mv x):q4T p x=x:=by
 cases x with
 |ptr b i j=>
  simp only[q5s,List.contains_eq_mem,decide_eq_false_iff_not] at h
  cases p with
  |none=>rfl
  |some id=>
   have:b≠id:=fun e=>h (hp b (by simp [Lost.ids,e]))
   simp [q4T,V.forget,V.drop1,this]
  |many l=>
   cases l with
   |nil=>rfl
   |cons a r=>
    have:¬ b∈a :: r:=fun e=>h (hp b e)
    simp [q4T,V.forget,V.drop1,this]
 |bsl b i n=>
  simp only[q5s,List.contains_eq_mem,decide_eq_false_iff_not] at h
  cases p with
  |none=>rfl
  |some id=>
   have:b≠id:=fun e=>h (hp b (by simp [Lost.ids,e]))
   simp [q4T,V.forget,V.drop1,this]
  |many l=>
   cases l with
   |nil=>rfl
   |cons a r=>
    have:¬ b∈a :: r:=fun e=>h (hp b e)
    simp [q4T,V.forget,V.drop1,this]
 |map b=>
  simp only[q5s,List.contains_eq_mem,decide_eq_false_iff_not] at h
  cases p with
  |none=>rfl
  |some id=>
   have:b≠id:=fun e=>h (hp b (by simp [Lost.ids,e]))
   simp [q4T,V.forget,V.drop1,this]
  |many l=>
   cases l with
   |nil=>rfl
   |cons a r=>
    have:¬ b∈a :: r:=fun e=>h (hp b e)
    simp [q4T,V.forget,V.drop1,this]
 |_=>exact z5L p h
theorem q2R(p:Nat→Bool):∀(H:List (Nat×Blk))(b:Nat)(blk:Blk),look (H.filter fun q=>p q.1) b=some blk→p b=true∧look H b=some blk
 |[],b,blk,h=>by simp [look] at h
 |(k,v) :: H,b,blk,h=>by
  simp only[List.filter_cons] at h
  split at h
  ·rename_i hk
   simp only[look] at h ⊢
   split at h
   ·rename_i e
    subst e
    exact⟨hk,by rw[if_pos rfl];exact h⟩
   ·rename_i e
    obtain⟨h1,h2⟩:=q2R p H b blk h
    exact⟨h1,by rw[if_neg e];exact h2⟩
  ·rename_i hk
   obtain⟨h1,h2⟩:=q2R p H b blk h
   refine⟨h1,?_⟩
   simp only[look]
   rw[if_neg (fun e=>hk (by rw[e];exact h1))]
   exact h2
theorem z3a{K:Cx}{s s' s1:S}{g:Seg}{news:List Blk}{l:List (Nat×V)}(h:Ended K s s' g s1 news l)(hnx:s.nx≤s1.nx)(hdom:∀ b blk,look s.heap b=some blk→b<s.nx){b:Nat}{blk:Blk}(hb:look (q2i K s g s'.mv) b=some blk):look s'.heap b=some blk:=by
 unfold q2i at hb
 have none:∀ {b:Nat} {blk:Blk},look ([]:List (Nat×Blk)) b=some blk→False:=fun h=>by simp [look] at h
 split at hb
 case h_3=>exact(none hb).elim
 case h_2=>
  rename_i d0 nn ea ee s2 news2 hg hm
  rw[h.mks] at hm
  obtain⟨rfl,rfl⟩:=Prod.mk.inj (Option.some.inj hm)
  split at hb
  case isFalse=>exact(none hb).elim
  split at hb
  case h_2=>exact(none hb).elim
  rename_i bt it jt hpt
  obtain⟨hne,hl⟩:=q2R (fun b=>b != bt) _ _ _ hb
  have hbn:=hdom _ _ hl
  have hadd:look (addBlks s.heap s.nx news) b=some blk:=by rw[q2e,if_neg (by omega)];exact hl
  have hne':b≠bt:=by simpa using hne
  rcases h.wr with⟨hw0,_⟩|⟨d,wr,hw0,_,he⟩|⟨d,wr,H,v,p,nx,hw0,_,hev,he⟩
  ·rw[hg] at hw0;cases hw0
  ·subst he;exact hadd
  ·rw[hg] at hw0
   simp only[Option.some.injEq,Prod.mk.injEq] at hw0
   obtain⟨rfl,rfl⟩:=hw0
   simp only[evWr,hpt] at hev
   split at hev
   case h_2=>cases hev
   rename_i hx1 hx2
   simp only[Option.some.injEq,V.ptr.injEq] at hx1
   obtain⟨rfl,rfl,rfl⟩:=hx1
   split at hev
   case isFalse=>cases hev
   split at hev
   case h_2=>cases hev
   split at hev
   case h_2=>cases hev
   simp only[Option.some.injEq,Prod.mk.injEq] at hev
   obtain⟨rfl,_,rfl,_⟩:=hev
   rw[he]
   simp only[loseH]
   rw[q0I,if_neg (fun e=>hne' e.symm)]
   exact hadd
 rename_i d0 f args s2 news2 hg hm
 rw[h.mks] at hm
 obtain⟨rfl,rfl⟩:=Prod.mk.inj (Option.some.inj hm)
 split at hb
 case isFalse=>exact(none hb).elim
 rename_i hmv
 split at hb
 case h_2=>exact(none hb).elim
 rename_i vs hvs
 split at hb
 case h_2=>exact(none hb).elim
 rename_i f' ws hcal
 obtain⟨hnc,hl⟩:=q2R (fun b=>!(q1l (addBlks s.heap s.nx news) (refN (addBlks s.heap s.nx news)+64) [] (refsL ws)).contains b) _ _ _ hb
 have hbn:=hdom _ _ hl
 have hadd:look (addBlks s.heap s.nx news) b=some blk:=by rw[q2e,if_neg (by omega)];exact hl
 rcases h.wr with⟨hw0,_⟩|⟨d,wr,hw0,_,he⟩|⟨d,wr,H,v,p,nx,hw0,_,hev,he⟩
 ·rw[hg] at hw0;cases hw0
 ·subst he;exact hadd
 ·rw[hg] at hw0
  simp only[Option.some.injEq,Prod.mk.injEq] at hw0
  obtain⟨rfl,rfl⟩:=hw0
  simp only[evWr,hvs,hcal] at hev
  unfold q67 at hev
  split at hev
  case isFalse=>cases hev
  split at hev
  case h_2=>cases hev
  split at hev
  case h_2=>cases hev
  rename_i r blks' mv' heff
  split at hev
  case isFalse=>cases hev
  simp only[Option.some.injEq,Prod.mk.injEq] at hev
  obtain⟨rfl,_,rfl,rfl⟩:=hev
  have hids:mv'.map (q1C (q1l (addBlks s.heap s.nx news) (refN (addBlks s.heap s.nx news)+64) [] (refsL ws)) s1.nx)=[]:=by
   rw[he] at hmv
   simp only[Lost.ids] at hmv
   exact List.append_left_eq_self.1 hmv
  rw[he]
  simp only[loseH]
  rw[hids]
  simp only[q0W]
  rw[q19 _ _ _ _ _ (fun j hj e=>?_)]
  ·exact hadd
  ·rw[Nat.zero_add] at e
   by_cases hj2:j<(q1l (addBlks s.heap s.nx news) (refN (addBlks s.heap s.nx news)+64) [] (refsL ws)).length
   ·rw[q1E hj2] at e
    have:(q1l (addBlks s.heap s.nx news) (refN (addBlks s.heap s.nx news)+64) [] (refsL ws)).contains b=true:=by
     rw[←e];simp [List.contains_eq_mem]
    rw[this] at hnc
    cases hnc
   ·rw[q2n (by omega)] at e
    omega
theorem z1c{l:List Nat}{H:List (Nat×Blk)}{s:S}{t:Nat}{v:V}(h:look (q2g l H s).rho t=some v):∃ u,look s.rho t=some u∧(v=u∧q5s l u∨v=.junk):=by
 simp only[q2g] at h
 rw[q29,Option.map_eq_some_iff] at h
 obtain⟨u,hu,rfl⟩:=h
 refine⟨u,hu,?_⟩
 cases u with
 |ptr b i j=>
  simp only[q2Y]
  split
  ·exact .inr rfl
  ·rename_i hb;exact .inl ⟨rfl,by simpa [q5s] using hb⟩
 |bsl b i n=>
  simp only[q2Y]
  split
  ·exact .inr rfl
  ·rename_i hb;exact .inl ⟨rfl,by simpa [q5s] using hb⟩
 |map b=>
  simp only[q2Y]
  split
  ·exact .inr rfl
  ·rename_i hb;exact .inl ⟨rfl,by simpa [q5s] using hb⟩
 |_=>first|exact .inl ⟨rfl,rfl⟩|exact .inr rfl
theorem Full.nx(h:Full c is g s' news l):c.s.nx≤c.s1.nx:=by rw[h.traced.nx];omega
theorem z2f(h:Full c is g s' news l)(hi:Inv c D a w F σ)(hall:∀ r∈c.R,r.isMk=true→D r.i):HeapRel w F c.X c.base σ c.s1.nx (addBlks c.s.heap c.s.nx news):=by
 refine⟨fun b blk hb=>?_,hi.heap.inj,hi.heap.own,hi.heap.fro⟩
 rw[q2e] at hb
 split at hb
 ·rename_i hr
  obtain⟨d,m,v,n0,nw,j,hT,he,hj⟩:=h.traced.news _ _ hb
  have:b=n0+j:=by omega
  subst this
  have hmd:d∈c.mds:=(h.ok.mds d).2 ⟨m,v,n0,nw,hT⟩
  obtain⟨r,hr,hd,hm⟩:=h.ok.covers d hmd
  exact hi.made d m v n0 nw hT ⟨r,hr,hall r hr hm,hd⟩ j blk hj
 ·exact hi.heap.blk b blk hb
theorem z1i(h:Full c is g s' news l):∀ b blk,look (addBlks c.s.heap c.s.nx news) b=some blk→b<c.s1.nx:=by
 intro b blk hb
 rw[q2e] at hb
 split at hb
 ·have:=h.traced.nx;omega
 ·have:=h.ok.dom b blk hb;have:=h.nx;omega
theorem z7y(h:Full c is g s' news l)(hi:Inv c D a w F σ)(hall:∀ r∈c.R,r.isMk=true→D r.i)(hwr:∀ r∈c.R,D r.i→r.isWr=false) :
  ∀ t v,look (l++q0g c.s1.rho g.keep) t=some v→(∀ r∈c.R,¬ D r.i→r.isWr=false→r.o.dst≠some t)→RepV w F c.base σ (a.tmps.getD t undef) v:=by
 intro t v hv hnp
 rw[q3u] at hv
 cases hl:look l t with
 |some u=>
  rw[hl] at hv
  obtain rfl:=Option.some.inj hv
  obtain⟨e,he,hev⟩:=(q2q _ _ _ _ h.ended.lets).1 t u hl
  obtain⟨r,hr,hd,hk,hch⟩:=h.seg.lets _ he
  have hw:r.isWr=false:=by simp [Rec.isWr,hk]
  have hrD:D r.i:=Classical.byContradiction fun hn=>hnp r hr hn hw hd
  refine(hi.done r hr hrD t hd hw).1 (by rw[hch];exact fun p hp=>by simp at hp) u ?_
  have:r.x=e:=by simp [Rec.x,hk]
  rw[this]
  exact hev
 |none=>
  rw[hl] at hv
  simp only at hv
  obtain⟨hk,hv⟩:=q0Q _ _ _ _ hv
  by_cases hm:t∈c.mds
  ·obtain⟨r,hr,hd,hmk⟩:=h.ok.covers t hm
   obtain⟨later,done,_,hg⟩:=h.ok.good.split hr
   cases hg with
   |cons _ _ _ _ _ hch hn=>
    obtain⟨_,_,hgu,_,_⟩:=q0B hn
    have hgn:r.o.guard=none:=by
     cases hgd:r.o.guard with
     |none=>rfl
     |some jb=>simp [q6x,hgd,hmk] at hgu
    rw[hgn] at hch
    simp only[q4x,Option.some.injEq] at hch
    have hw:r.isWr=false:=by
     unfold Rec.isMk at hmk
     unfold Rec.isWr
     split at hmk
     ·rename_i hk;rw[hk]
     ·cases hmk
    refine(hi.done r hr (hall r hr hmk) t hd hw).1 (by rw[←hch];exact fun p hp=>by simp at hp) v ?_
    have:r.x=.sl t:=by
     unfold Rec.isMk at hmk
     unfold Rec.x
     split at hmk
     ·rename_i hk;rw[hk];simp [hd]
     ·cases hmk
    rw[this]
    simpa only[ev] using hv
  ·rcases h.seg.keep t hk with h1|h1
   ·exact absurd (by rw[h.mds];exact h1) hm
   ·exact hi.old t v (by rw[←h.ok.old t hm];exact hv) (fun r hr _=>h1 r hr)
theorem q4G(h:Full c is g s' news l)(hs:Stage c g s' D a w)(hall:∀ r∈c.R,D r.i):∃ F σ,StRel c.K c.X c.base c.w0 c.F0 c.m c.σ0 c.n s' a w F σ:=by
 rcases hs with⟨hno,F,σ,hi⟩|⟨_,hst⟩
 ·refine⟨F,σ,?_⟩
  have hnone:g.wr=none:=by
   rcases h.seg.wr with⟨_,hw⟩|⟨r,x,hr,hk,_,_⟩
   ·exact hw
   ·have:=hno r hr (hall r hr)
    simp [Rec.isWr,hk] at this
  rcases h.ended.wr with⟨_,he⟩|⟨d,wr,hw,_⟩|⟨d,wr,H,v,p,nx,hw,_⟩
  ·have hall':∀ r∈c.R,r.isMk=true→D r.i:=fun r hr _=>hall r hr
   subst he
   exact⟨z2f h hi hall',hi.glob,hi.le,hi.frame,hi.frz,hi.size,hi.dfr,fun t v hv=>z7y h hi hall' hno t v hv (fun r hr hn=>absurd (hall r hr) hn),z1i h,hi.stab,Nat.le_trans h.nxm h.nx,h.xm,hi.sub⟩
  ·rw[hnone] at hw;cases hw
  ·rw[hnone] at hw;cases hw
 ·obtain⟨F,σ,hw⟩:=hst
  exact⟨F,σ,hw.heap,hw.glob,hw.le,hw.frame,hw.frz,hw.size,hw.dfr,fun t v hv=>hw.rho t v hv (fun r hr hn=>absurd (hall r hr) hn),hw.dom,hw.stab,hw.nxm,hw.xm,hw.sub⟩
theorem z5S(h:Full c is g s' news l){r:Rec}(hr:r∈c.R)(hl:q23 g.late r=true){t:Nat}(hd:r.o.dst=some t){u:V}(hu:look s'.rho t=some u):ev c.K (q2g s'.mv (q2i c.K c.s g s'.mv) c.s1) r.x=some u:=by
 obtain⟨e,hk,hx,hel,hch0,hgn,hnp,hwr,hmk⟩:=q2p hl
 obtain⟨val,hv1,hv2,hvo⟩:=h.ended.late e hel _ _ h.ended.mks
 have same:∀ r2∈c.R,r2.o.dst=some t→r2=r:=by
  intro r2 hr2 hd2
  by_cases hri:r2.i=r.i
  ·exact h.ok.good.inj r2 hr2 r hr hri
  ·exact absurd hd (q4j h.ok hr2 hr hri hd2)
 have base:∀ u,look (l++q0g c.s1.rho g.keep) t=some u→u=val:=by
  intro u hu
  rw[q3u] at hu
  cases hl2:look l t with
  |some u2=>
   rw[hl2] at hu
   obtain rfl:=Option.some.inj hu
   obtain⟨e2,he2,hev⟩:=(q2q _ _ _ _ h.ended.lets).1 t u2 hl2
   obtain⟨r2,hr2,hd2,hk2,_⟩:=h.seg.lets _ he2
   obtain rfl:=same r2 hr2 hd2
   rw[hk] at hk2
   simp only[Kd.pure.injEq] at hk2
   subst hk2
   rw[hv2] at hev
   exact(Option.some.inj hev).symm
  |none=>
   rw[hl2] at hu
   obtain⟨hkp,_⟩:=q0Q _ _ _ _ hu
   rcases h.seg.keep t hkp with h1|h1
   ·obtain⟨r2,hr2,hd2,hm2⟩:=h.ok.covers t (by rw[h.mds];exact h1)
    obtain rfl:=same r2 hr2 hd2
    rw[hmk] at hm2;cases hm2
   ·exact absurd hd (h1 r hr)
 have fin:∀ u,u=val→ev c.K (q2g s'.mv (q2i c.K c.s g s'.mv) c.s1) r.x=some u:=fun u hu=>by rw[hu,hx];exact hv1
 have keepv:∀ p:Lost,(∀ b∈p.ids,b∈s'.mv)→q4T p val=val:=fun p hp=>q5r hp hvo
 rcases h.ended.wr with⟨_,he⟩|⟨d,wr,hw0,_,he⟩|⟨d,wr,H,v,p,nx,hw0,_,_,he⟩
 ·subst he;exact fin u (base u hu)
 ·subst he;exact fin u (base u hu)
 ·subst he
  have old:look (lose p (l++q0g c.s1.rho g.keep)) t=some u→ev c.K (q2g (p.ids++c.s.mv) (q2i c.K c.s g (p.ids++c.s.mv)) c.s1) r.x=some u:=by
   intro hu
   obtain⟨y,hy,rfl⟩:=q6F _ _ _ _ hu
   obtain rfl:=base y hy
   exact fin _ (keepv p fun b hb=>List.mem_append_left _ hb)
  cases d with
  |none=>exact old hu
  |some d=>
   simp only[look] at hu
   split at hu
   ·rename_i hdt
    subst hdt
    rcases h.seg.wr with⟨_,hn⟩|⟨r0,x0,hR0,hk0,hg0,_⟩
    ·rw[hn] at hw0;cases hw0
    ·rw[hg0] at hw0
     simp only[Option.some.injEq,Prod.mk.injEq] at hw0
     have h0:r0∈c.R:=hR0
     obtain rfl:=same r0 h0 hw0.1
     rw[hk0] at hk;cases hk
   ·exact old hu
theorem z56(h:Full c is g s' news l)(hw:Wrt c g s' D a w F σ){r:Rec}{later done:List Rec}(hR:c.R=later++r :: done)(hg:Good c.B c.P c.ops c.mds c.ef c.n (r :: done))(hD:¬ D r.i)(hl:q23 g.late r=true)(hdown:∀ q∈c.R,D q.i→∀ p∈c.R,c.B p.i q.i=true→D p.i)(hpre:∀ q∈c.R,c.B q.i r.i=true→D q.i)
  {x:Operand} (hx:(x,r.ch)∈q6C c.P (q0X done) r.o r.ch) (hxo:x∈r.o.op.operands.toList):Held c.P c.K (q2g s'.mv (q2i c.K c.s g s'.mv) c.s1) (q0X done) w F c.base σ a x:=by
 have hmem:r∈c.R:=by rw[hR];simp
 have hlN:=h.seg.lateN r hmem hl
 cases hg with
 |cons _ _ hgd hop hkd hch hn=>
  obtain⟨hneeds,hdst,_,_,hall⟩:=q0B hn
  have hdone:∀ q∈done,q∈c.R:=fun q hq=>by rw[hR];simp [hq]
  cases x with
  |const v=>exact q5y
  |global g=>exact q6O hw.glob
  |func f=>exact q6P
  |tmp t=>
   have hreads:t∈reads r.o:=by
    simp only[reads,List.mem_filterMap]
    exact⟨.tmp t,hxo,rfl⟩
   refine q8B fun v hv=>?_
   simp only[q8u,List.all_eq_true] at hneeds
   have hnt:=hneeds (.tmp t,r.ch) hx
   simp only at hnt
   rcases z1Q (done:=done) (t:=t) with⟨q,hq,hqd,hfind,hlook⟩|⟨hno,hfind,hlook⟩
   ·rw[hfind] at hnt
    simp only[Bool.and_eq_true] at hnt
    have hget:Env.get (q0X done) t=q.x:=by simp [Env.get,hlook]
    rw[hget] at hv
    have hqD:=hpre q (hdone q hq) hnt.1
    exact hw.ldone q (hdone q hq) hqD (hlN t hreads q (hdone q hq) hqd (hall q hq).1) t hqd v hv
   ·have hget:Env.get (q0X done) t=.sl t:=by simp [Env.get,hlook]
    rw[hget] at hv
    simp only[ev] at hv
    refine hw.lold t v hv fun q hq hqD hqd=>?_
    rw[hR] at hq
    rcases List.mem_append.1 hq with hq|hq
    ·obtain⟨l1,l2,rfl⟩:=List.append_of_mem hq
     have hg2:Good c.B c.P c.ops c.mds c.ef c.n (q :: (l2++r :: done)):=by
      have:=h.ok.good
      rw[hR] at this
      simp only[List.append_assoc,List.cons_append] at this
      exact this.suffix
     have hqR:q∈c.R:=by rw[hR];simp
     cases hg2 with
     |cons _ _ _ _ _ _ hn2=>
      have h2:=(q0B hn2).2.1
      simp only[z0G,hqd,Bool.and_eq_true,List.all_eq_true] at h2
      have h3:=(h2.1.2 r (by simp)).2
      simp only[Bool.or_eq_true,Bool.not_eq_true',Bool.and_eq_true] at h3
      rcases h3 with h3|h3
      ·rw[List.contains_eq_mem,decide_eq_false_iff_not] at h3
       exact absurd hreads h3
      ·exact hD (hdown q hqR hqD r hmem h3.1)
    ·rcases List.mem_cons.1 hq with rfl|hq
     ·exact hD hqD
     ·exact hno q hq hqd
theorem q31(h:Full c is g s' news l)(hs:Stage c g s' D a w){r:Rec}(hr:r∈c.R)(hD:¬ D r.i)(hdown:∀ q∈c.R,D q.i→∀ p∈c.R,c.B p.i q.i=true→D p.i)(hpre:∀ q∈c.R,c.B q.i r.i=true→D q.i)
  {Kn:Act→World→Prop} {Q:Exit→Act→World→Prop} (hK:∀ a w,Stage c g s' (plus D r.i) a w→Kn a w):wpOp c.P c.ops Q r.i Kn a w:=by
 -- a write comes last
 have lastwr:∀ q∈c.R,q.isWr=true→∀ p∈c.R,p≠q→p.isWr=false∧(c.B p.i q.i=true∨q23 g.late p=true):=by
  intro q hq hqw p hp hne
  rcases h.seg.wr with⟨hn,_⟩|⟨r0,x,hR,hk,_,_,hb⟩
  ·rw[hn q hq] at hqw;cases hqw
  ·have hq0:q=r0:=by
    rcases hb q hq with e|⟨e,_⟩
    ·exact h.ok.good.inj q hq r0 hR e
    ·rw[e] at hqw;cases hqw
   subst hq0
   rcases hb p hp with e|e
   ·exact absurd (h.ok.good.inj p hp q hq e) hne
   ·exact e
 rcases hs with⟨hno,F,σ,hi⟩|⟨⟨q,hq,hqD,hqw⟩,F,σ,hw⟩
 ·cases hw:r.isWr with
  |false=>
   refine j1n h.ok hi hno hr hw hD hdown hpre fun a w F σ hi'=>hK a w (.inl ⟨fun q hq hqD=>?_,F,σ,hi'⟩)
   rcases hqD with hqD|hqi
   ·exact hno q hq hqD
   ·obtain rfl:=h.ok.good.inj q hq r hr hqi
    exact hw
  |true=>
   have hall:∀ q∈c.R,q.isMk=true→D q.i:=by
    intro q hq hqm
    have hne:q≠r:=by
     rintro rfl
     unfold Rec.isMk at hqm
     unfold Rec.isWr at hw
     split at hqm
     ·rename_i hk;rw[hk] at hw;cases hw
     ·cases hqm
    rcases(lastwr r hr hw q hq hne).2 with hb|hb
    ·exact hpre q hq hb
    ·rw[(q2p hb).choose_spec.2.2.2.2.2.2.2] at hqm;cases hqm
   have hrest:∀ q∈c.R,¬ plus D r.i q.i→q23 g.late q=true:=by
    intro q hq hqn
    have hne:q≠r:=by rintro rfl;exact hqn (.inr rfl)
    rcases(lastwr r hr hw q hq hne).2 with hb|hb
    ·exact absurd (.inl (hpre q hq hb)) hqn
    ·exact hb
   have hnr:∀ t,(∀ q∈c.R,¬ plus D r.i q.i→q.o.dst≠some t)→∀ q∈c.R,¬ D q.i→q.isWr=false→q.o.dst≠some t:=by
    intro t ht q hq hqD hqw
    refine ht q hq ?_
    rintro(h1|h1)
    ·exact hqD h1
    ·obtain rfl:=h.ok.good.inj q hq r hr h1
     rw[hw] at hqw;cases hqw
   have ldI:∀ q∈c.R,plus D r.i q.i→q23 g.late q=true→∀ d,q.o.dst=some d→r.o.dst≠some d∧∀ v,ev c.K (q2g s'.mv (q2i c.K c.s g s'.mv) c.s1) q.x=some v→RepV w F c.base σ (a.tmps.getD d undef) v∧q5s s'.mv v:=by
    intro q hq hqD hl d hd
    obtain⟨e,hk,hx,hel,hch0,hgn,hnp,hwr,hmk⟩:=q2p hl
    have hne:q.i≠r.i:=fun he=>by
     obtain rfl:=h.ok.good.inj q hq r hr he
     rw[hw] at hwr;cases hwr
    refine⟨q4j h.ok hq hr hne hd,fun v hv=>?_⟩
    obtain⟨val,hv1,hv2,hvo⟩:=h.ended.late e hel _ _ h.ended.mks
    rw[hx,hv1] at hv
    obtain rfl:=Option.some.inj hv
    exact⟨(hi.done q hq (hqD.resolve_right hne) d hd hwr).1 (by rw[hch0];exact fun p hp=>by simp at hp) _ (by rw[hx];exact hv2),hvo⟩
   have loI:∀ t v,look (q2g s'.mv (q2i c.K c.s g s'.mv) c.s1).rho t=some v→(∀ q∈c.R,plus D r.i q.i→q.o.dst≠some t)→RepV w F c.base σ (a.tmps.getD t undef) v∧(q5s s'.mv v∨v=.junk):=by
    intro t v hv hno'
    obtain⟨u,hu,hvu⟩:=z1c hv
    rcases hvu with⟨rfl,huo⟩|rfl
    ·refine⟨hi.old t v ?_ (fun q hq hqD=>hno' q hq (.inl hqD)),.inl huo⟩
     rw[←h.ok.old t fun hm=>?_]
     ·exact hu
     ·obtain⟨q,hq,hqd,hqm⟩:=h.ok.covers t hm
      exact hno' q hq (.inl (hall q hq hqm)) hqd
    ·exact⟨.junk _,.inr rfl⟩
   have hput:∀(vv:Value) t,r.o.dst≠some t→(a.put r.o.dst vv).tmps.getD t undef=a.tmps.getD t undef:=by
    intro vv t hne
    cases hd:r.o.dst with
    |none=>rfl
    |some d=>rw[q3w (by rw[hi.size];exact q5U h.ok hr hd),if_neg (fun e=>hne (by rw[hd,e]))]
   have hheap:=z2f h hi hall
   have hrho:=z7y h hi hall hno
   have hdom:=z1i h
   obtain⟨later,done,hR,hg⟩:=h.ok.good.split hr
   have hheld:=fun x ch hx hxo hw=>z55 h.ok hi hno (x:=x) (ch:=ch) hR hg hD hdown hpre hx hxo hw
   have hwant:=q7x h.ok hi hno hr hpre
   cases hg with
   |cons _ _ hgd hop hkd hch hn=>
    obtain⟨_,hdst,hgu,_,_⟩:=q0B hn
    unfold wpOp
    rw[hop]
    simp only
    obtain⟨x,hk⟩:∃ x,r.kd=.wr x:=by
     unfold Rec.isWr at hw
     split at hw
     ·rename_i x hk;exact⟨x,hk⟩
     ·cases hw
    have hgw2:g.wr=some (r.o.dst,x)∧g.wg=r.ch:=by
     rcases h.seg.wr with⟨hn,_⟩|⟨r0,x0,hR0,hk0,hg0,hg1,_⟩
     ·rw[hn r hr] at hw;cases hw
     ·have h0:r0∈c.R:=hR0
      by_cases he:r0=r
      ·subst he
       rw[hk] at hk0
       simp only[Kd.wr.injEq] at hk0
       rw[hk0]
       exact⟨hg0,hg1⟩
      ·have:=(lastwr r hr hw r0 h0 he).1
       simp [Rec.isWr,hk0] at this
    obtain⟨hgw,hgc⟩:=hgw2
    rcases h.ended.wr with⟨hn,_⟩|⟨d,wr,hw0,hwb,he⟩|⟨d,wr,H,v,p,nx,hw0,hwb,hev,he⟩
    ·rw[hgw] at hn;cases hn
    ·-- the write is not asked for
     rw[hgc] at hwb
     rw[if_neg (fun hh=>q3Y hwb (hwant.1 hh))]
     refine hK _ _ (.inr ⟨⟨r,hr,.inr rfl,hw⟩,F,σ,?_⟩)
     subst he
     refine⟨hrest,hheap,hi.glob,hi.le,hi.frame,hi.frz,by rw[q4H];exact hi.size,by rw[q3f];exact hi.dfr,fun t u hu hnq=>?_,hdom,hi.stab,Nat.le_trans h.nxm h.nx,h.xm,hi.sub,fun q hq hqD hl d hd v hv=>?_,fun t v hv hno'=>?_⟩
     ·have hne:r.o.dst≠some t:=by
       intro hdt
       rw[q3u] at hu
       cases hl:look l t with
       |some u2=>
        obtain⟨e,he2,_⟩:=(q2q _ _ _ _ h.ended.lets).1 t u2 hl
        obtain⟨r2,hr2,hd2,hk2,_⟩:=h.seg.lets _ he2
        have:r2=r:=by
         by_cases hri:r2.i=r.i
         ·exact h.ok.good.inj r2 hr2 r hr hri
         ·exact absurd hdt (q4j h.ok hr2 hr hri hd2)
        rw[this,hk] at hk2
        cases hk2
       |none=>
        rw[hl] at hu
        obtain⟨hkp,_⟩:=q0Q _ _ _ _ hu
        rcases h.seg.keep t hkp with h1|h1
        ·obtain⟨r2,hr2,hd2,hm2⟩:=h.ok.covers t (by rw[h.mds];exact h1)
         have:r2=r:=by
          by_cases hri:r2.i=r.i
          ·exact h.ok.good.inj r2 hr2 r hr hri
          ·exact absurd hdt (q4j h.ok hr2 hr hri hd2)
         rw[this] at hm2
         simp [Rec.isMk,hk] at hm2
        ·exact h1 r hr hdt
      rw[hput _ t hne]
      exact hrho t u hu (hnr t hnq)
     ·obtain⟨h1,h2⟩:=ldI q hq hqD hl d hd
      rw[hput _ d h1]
      exact(h2 v hv).1
     ·rw[hput _ t (hno' r hr (.inr rfl))]
      exact(loI t v hv hno').1
    ·rw[hgw] at hw0
     have hwon:Won c.K c.s1 r.ch:=by rw[←hgc];exact q82 hwb
     rw[if_pos (hwant.2 hwon)]
     refine .inl ?_
     simp only[Option.some.injEq,Prod.mk.injEq] at hw0
     obtain⟨rfl,rfl⟩:=hw0
     have hops:∀ y∈r.o.op.operands.toList,Held c.P c.K c.s1 (q0X done) w F c.base σ a y:=by
      intro y hy
      refine hheld y r.ch ?_ hy hwon
      have hnp:∀ cc x y,r.o.op≠.pick cc x y:=by
       intro cc x y hp
       rw[hk] at hkd
       simp only[kdOf] at hkd
       split at hkd
       ·cases hm:mkK c.P (q0X done) r.o <;> simp [hm] at hkd
       ·split at hkd
        ·simp [effK,hp] at hkd
        ·split at hkd
         ·simp at hkd
         ·simp [wrK,q7E,appK,mapK,hp] at hkd
      unfold q6C
      split
      ·rename_i hp;exact absurd hp (hnp _ _ _)
      ·exact List.mem_map.2 ⟨y,hy,rfl⟩
     have hwk:(∃ f e,x=.calle f e∧effK c.P (q0X done) r.o=some (f,e))∨wrK c.P (q0X done) r.o=some x:=by
      rw[hk] at hkd
      simp only[kdOf] at hkd
      split at hkd
      ·cases hm:mkK c.P (q0X done) r.o <;> simp [hm] at hkd
      ·split at hkd
       ·cases hm:effK c.P (q0X done) r.o with
        |none=>simp [hm] at hkd
        |some y=>
         obtain⟨f,e⟩:=y
         simp only[hm,Option.map_some,Option.some.injEq,Kd.wr.injEq] at hkd
         exact .inl ⟨f,e,hkd.symm,rfl⟩
       ·split at hkd
        ·simp at hkd
        ·cases hm:wrK c.P (q0X done) r.o with
         |none=>simp [hm] at hkd
         |some y=>
          simp only[hm,Option.map_some,Option.some.injEq,Kd.wr.injEq] at hkd
          exact .inr (by rw[hkd])
     obtain⟨hdom',hnx'⟩:=z2a hev hdom
     have fin:∀ vv w' F' σ',Wrote w w' F F' c.X c.base σ σ' p nx H→(r.o.dst.isSome→RepV w' F' c.base σ' vv v)→Kn (a.put r.o.dst vv) w':=by
      intro vv w' F' σ' hwr hres
      refine hK _ _ (.inr ⟨⟨r,hr,.inr rfl,hw⟩,F',σ',?_⟩)
      subst he
      have hFw:∀ b,F b→F' b∧w'.heap[b]? = w.heap[b]?:=hwr.froz
      refine⟨hrest,hwr.heap,hi.glob.mono hFw,Nat.le_trans hi.le hwr.frame.size,hi.frame.trans hwr.frame,fun b hb=>(hwr.newf b hb).elim (hi.frz b) .inr,by rw[q4H];exact hi.size,by rw[q3f];exact hi.dfr,?_,?_,fun b l hb h0 hm=>?_,Nat.le_trans h.nxm (Nat.le_trans h.nx hnx'),h.xm,fun b hb=>(hwr.froz b (hi.sub b hb)).1,fun q hq hqD hl d hd v hv=>?_,fun t v hv hno'=>?_⟩
      ·intro t u hu hnq
       have old:∀ u,r.o.dst≠some t→look (lose p (l++q0g c.s1.rho g.keep)) t=some u→RepV w' F' c.base σ' ((a.put r.o.dst vv).tmps.getD t undef) u:=by
        intro u hne hu
        obtain⟨y,hy,rfl⟩:=q6F _ _ _ _ hu
        have hget:(a.put r.o.dst vv).tmps.getD t undef=a.tmps.getD t undef:=by
         cases hd:r.o.dst with
         |none=>rfl
         |some d=>rw[q3w (by rw[hi.size];exact q5U h.ok hr hd),if_neg (fun e=>hne (by rw[hd,e]))]
        rw[hget]
        exact hwr.val _ _ (hrho t y hy (hnr t hnq))
       cases hd:r.o.dst with
       |none=>
        simp only[hd] at hu
        rw[hd] at old
        exact old u (by simp) hu
       |some d=>
        simp only[hd,look] at hu
        split at hu
        ·rename_i hdt
         subst hdt
         obtain rfl:=Option.some.inj hu
         rw[q3w (by rw[hi.size];exact q5U h.ok hr hd),if_pos rfl]
         exact hres (by rw[hd];rfl)
        ·rename_i hdt
         rw[hd] at old
         exact old u (by simpa using hdt) hu
      ·intro b blk hb
       obtain⟨y,hy⟩:=q7W _ _ _ _ hb
       exact hdom' b y hy
      ·simp only[List.mem_append,not_or] at hm
       exact hwr.stab b l (hi.stab b l hb h0 hm.2) hm.1
      ·obtain⟨h1,h2⟩:=ldI q hq hqD hl d hd
       obtain⟨h3,h4⟩:=h2 v hv
       rw[hput _ d h1,←q5r (p:=p) (fun b hb=>List.mem_append_left _ hb) h4]
       exact hwr.val _ _ h3
      ·obtain⟨h3,h4⟩:=loI t v hv hno'
       rw[hput _ t (hno' r hr (.inr rfl))]
       rcases h4 with h4|rfl
       ·rw[←q5r (p:=p) (fun b hb=>List.mem_append_left _ hb) h4]
        exact hwr.val _ _ h3
       ·exact .junk _
     rcases hwk with⟨f,e,rfl,hek⟩|hwk
     ·exact z95 hek hev hops h.ok.sound hheap hi.glob hi.le hdom fun vv w' F' σ' hwr hv=>fin vv w' F' σ' hwr fun _=>hv
     unfold wrK at hwk
     cases hsk:q7E c.P (q0X done) r.o with
     |some q=>
      obtain⟨n,ea,ee⟩:=q
      simp only[hsk,Option.some.injEq] at hwk
      subst hwk
      obtain rfl:c.s1.nx=nx:=by
       have hev':=hev
       simp only[evWr] at hev'
       split at hev'
       ·split at hev'
        ·split at hev'
         ·split at hev'
          ·simp only[Option.some.injEq,Prod.mk.injEq] at hev'
           exact hev'.2.2.2
          ·cases hev'
         ·cases hev'
        ·cases hev'
       ·cases hev'
      refine z2M hsk hev hops hheap fun w' hwr=>fin undef w' F σ hwr fun hs=>?_
      -- a store has no result
      have:r.o.dst=none:=by
       unfold q7E at hsk
       split at hsk
       ·split at hsk
        ·split at hsk
         ·rename_i hd;exact hd
         ·cases hsk
        ·cases hsk
       ·cases hsk
      rw[this] at hs;cases hs
     |none=>
      simp only[hsk] at hwk
      cases hak:appK c.P (q0X done) r.o with
      |none=>
       simp only[hak] at hwk
       obtain⟨hp0,hnx0,hd0⟩:=q9t hwk hev
       subst hnx0
       exact z8R hwk hev hops hheap fun w' hwr=>fin undef w' F σ hwr fun hs=>by rw[hd0] at hs;cases hs
      |some q=>
       obtain⟨k,ea,eb⟩:=q
       simp only[hak,Option.some.injEq] at hwk
       subst hwk
       exact j0o hak hev hops hheap hi.le hdom fun vv w' σ' hwr hv=>fin vv w' F σ' hwr fun _=>hv
 ·-- the write has been: what is left looks into nothing that was written
  have hl:=hw.rest r hr hD
  obtain⟨e,hk,hx,hel,hch0,hgn,hnp,hwr,hmk⟩:=q2p hl
  obtain⟨val,hv1,hv2,hvo⟩:=h.ended.late e hel _ _ h.ended.mks
  obtain⟨later,done,hR,hg⟩:=h.ok.good.split hr
  have hheld:=fun x hx hxo=>z56 h hw (x:=x) hR hg hD hl hdown hpre hx hxo
  cases hg with
  |cons _ _ hgd hop hkd hch hn=>
   unfold wpOp
   rw[hop]
   simp only
   have hwant:Region.wanted r.o (yielded c.ops a.tmps)=true:=by unfold Region.wanted;rw[hgn]
   rw[if_pos hwant]
   refine .inl ?_
   have hpe:z0A c.P (q0X done) r.o=some e:=by
    rw[hk] at hkd
    simp only[kdOf] at hkd
    split at hkd
    ·cases hm:mkK c.P (q0X done) r.o <;> simp [hm] at hkd
    ·split at hkd
     ·cases hm:effK c.P (q0X done) r.o <;> simp [hm] at hkd
     ·split at hkd
      ·rename_i h1
       simp only[Option.some.injEq,Kd.pure.injEq] at hkd
       rw[←hkd]
       exact h1
      ·cases hm:wrK c.P (q0X done) r.o <;> simp [hm] at hkd
   have hH:HeapRel w F c.X c.base σ s'.nx (q2g s'.mv (q2i c.K c.s g s'.mv) c.s1).heap:=⟨fun b blk hb=>hw.heap.blk b blk (z3a h.ended h.nx h.ok.dom hb),hw.heap.inj,hw.heap.own,hw.heap.fro⟩
   refine q9o (s:=q2g s'.mv (q2i c.K c.s g s'.mv) c.s1) hnp hpe hv1 (fun x hx=>hheld x ?_ hx) hH hw.glob hw.le h.ok.sound fun v w' F' haf hRv=>?_
   ·unfold q6C
    split
    ·rename_i hp;exact absurd hp (hnp _ _ _)
    ·exact List.mem_map.2 ⟨x,hx,rfl⟩
   ·have hFw:∀ b,F b→F' b∧w'.heap[b]? = w.heap[b]?:=fun b hb=>⟨haf.sub b hb,haf.below.block b (hw.heap.fro b hb)⟩
    have hval:∀ v x,RepV w F c.base σ v x→RepV w' F' c.base σ v x:=fun v x hx=>hx.mono hFw (fun _ _ h=>h)
    have hput:∀ t,r.o.dst≠some t→(a.put r.o.dst v).tmps.getD t undef=a.tmps.getD t undef:=by
     intro t hne
     cases hd:r.o.dst with
     |none=>rfl
     |some d=>rw[q3w (by rw[hw.size];exact q5U h.ok hr hd),if_neg (fun e=>hne (by rw[hd,e]))]
    have hhas:∀ t,r.o.dst=some t→(a.put r.o.dst v).tmps.getD t undef=v:=by
     intro t hd
     rw[hd,q3w (by rw[hw.size];exact q5U h.ok hr hd),if_pos rfl]
    refine hK _ _ (.inr ⟨⟨q,hq,.inl hqD,hqw⟩,F',σ,⟨fun p hp hn=>hw.rest p hp (fun hd=>hn (.inl hd)),hw.heap.after haf,hw.glob.mono hFw,Nat.le_trans hw.le haf.below.size,hw.frame.trans (.of_after haf hw.le),fun b hb=>?_,by rw[q4H];exact hw.size,by rw[q3f];exact hw.dfr,fun t u hu hnq=>?_,hw.dom,hw.stab,hw.nxm,hw.xm,fun b hb=>(hFw b (hw.sub b hb)).1,fun p hp hpD hlp d hd u hu=>?_,fun t u hu hno'=>?_⟩⟩)
    ·rcases haf.old b hb with hb|hb
     ·exact hw.frz b hb
     ·exact .inr (Nat.le_trans hw.le hb)
    ·by_cases hd:r.o.dst=some t
     ·rw[hhas t hd]
      have:=z5S h hr hl hd hu
      rw[hx,hv1] at this
      obtain rfl:=Option.some.inj this
      exact hRv
     ·rw[hput t hd]
      refine hval _ _ (hw.rho t u hu fun p hp hpD=>?_)
      by_cases hpr:p.i=r.i
      ·obtain rfl:=h.ok.good.inj p hp r hr hpr
       exact hd
      ·exact hnq p hp (fun h2=>h2.elim hpD hpr)
    ·by_cases hpr:p.i=r.i
     ·obtain rfl:=h.ok.good.inj p hp r hr hpr
      rw[hhas d hd]
      rw[hx,hv1] at hu
      obtain rfl:=Option.some.inj hu
      exact hRv
     ·rw[hput d (q4j h.ok hp hr hpr hd)]
      exact hval _ _ (hw.ldone p hp (hpD.resolve_right hpr) hlp d hd u hu)
    ·rw[hput t (hno' r hr (.inr rfl))]
     exact hval _ _ (hw.lold t u hu fun p hp hpD=>hno' p hp (.inl hpD))
end Go.Vm
end

section
namespace Go.Vm
open Go.RowKit
def q4F(P:Program)(ops:Array Oper)(n:Nat):Nat→List Seg→Bool
 |k,[]=>k==ops.size
 |k,g :: r=>q8m (fun i j=>decide (i<j)) P ops n (List.range' k g.cnt) g&&q4F P ops n (k+g.cnt) r
def q4v(o:Oper):List Nat:=(o.after.toList.filter (Region.binds .any)).map (·.on)
def tabB(tab:List (List Nat))(i j:Nat):Bool:=(tab.getD j []).contains i
def z4M(ops:List Oper)(tab:List (List Nat)):Bool:=
 (ops.zipIdx).all fun(o,i)=>(q4v o).all (fun j=>decide (j<i))&&(tab.getD i []).all fun j=>(q4v o).any fun e=>e==j||(tab.getD e []).contains j
def q16(P:Program)(ops:Array Oper)(n:Nat)(tab:List (List Nat)):Nat→List Seg→Bool
 |k,[]=>k==ops.size
 |k,g :: r=>q8m (tabB tab) P ops n (List.range' k g.cnt) g&&((List.range' k (ops.size - k)).all fun i=>(List.range k).all fun j=>tabB tab j i)&&q16 P ops n tab (k+g.cnt) r
def z2L:List Seg→List (List Nat)
 |g :: _=>g.aux
 |[]=>[]
def q8L(P:Program)(ops:Array Oper)(n:Nat)(gs:List Seg):Bool:=q16 P ops n (z2L gs) 0 gs&&z4M ops.toList (z2L gs)
theorem q02{B:Nat→Nat→Bool}{P:Program}{ops:Array Oper}{n:Nat}{is:List Nat}{g:Seg}{R:List Rec}(h:SegOk B P ops n is g R)(i:Nat):(∃ r∈R,r.i=i)↔i∈is:=by
 have:=(q3J is [] R .nil h.recs).2
 simp only[List.map_nil,List.append_nil] at this
 constructor
 ·rintro⟨r,hr,rfl⟩
  have:r.i∈R.map (·.i):=List.mem_map.2 ⟨r,hr,rfl⟩
  rw[‹R.map (·.i)=_›] at this
  simpa using this
 ·intro hi
  have:i∈R.map (·.i):=by rw[this];simpa using hi
  obtain⟨r,hr,he⟩:=List.mem_map.1 this
  exact⟨r,hr,he⟩
variable {P:Program}{K:Cx}{ops:Array Oper}{n:Nat}{X:Nat→Nat→Prop}{base:Nat}{w0:World}{F0:Nat→Prop}{m0:Nat}{σ0:Nat→Option Loc}{Q:Exit→Act→World→Prop}
theorem q1a{B:Nat→Nat→Bool}{g:Seg}{R:List Rec}{s s' s1:S}{news:List Blk}{T:Tr}{a:Act}{w:World}{F:Nat→Prop}{σ:Nat→Option Loc}
  (hT:Traced K s s1 news g.mks T) (hst:StRel K X base w0 F0 m0 σ0 n s a w F σ) :
  Stage (q1N P K ops B n R g s s1 T X base w0 F0 m0 σ0) g s' (fun _=>False) a w:=by
 refine .inl ⟨fun _ _ h=>h.elim,F,σ,⟨⟨hst.heap.blk,hst.heap.inj,fun b l hb=>?_,hst.heap.fro⟩,hst.glob,hst.le,hst.frame,hst.frz,hst.size,hst.dfr,fun t v hv _=>hst.rho t v hv,fun _ _ h=>h.elim,fun _ _ _ _ _ _ h=>by obtain⟨_,_,h,_⟩:=h;exact h.elim,fun d m v n0 nw hm _ b h1 h2=>?_,hst.stab,hst.sub⟩⟩
 ·obtain⟨h1,h2⟩:=hst.heap.own b l hb
  have:=hT.nx
  exact⟨show b<s1.nx by omega,h2⟩
 ·have h0:=(hT.evm d m v n0 nw hm).2.1
  cases hb:σ b with
  |none=>rfl
  |some l=>
   have:=(hst.heap.own b l hb).1
   omega
theorem q3S{B:Nat→Nat→Bool}{is:List Nat}{g:Seg}{s s':S}(hok:q8m B P ops n is g=true)(hK:K.Sound P)(hev:q1g K s g=some s')(hdom:∀ b blk,look s.heap b=some blk→b<s.nx)(hnm:m0≤s.nx)(hxm:∀ b k,X b k→b<m0) :
  ∃ R s1 T news l,Full (q1N P K ops B n R g s s1 T X base w0 F0 m0 σ0) is g s' news l:=by
 obtain⟨R,hs⟩:=z0s hok
 obtain⟨s1,news,l,he⟩:=z08 hev
 obtain⟨T,hT⟩:=traced K g.mks s s1 news hs.mks he.mks
 exact⟨R,s1,T,news,l,⟨z8B hs he hT hK hdom,hs,he,hT,rfl,rfl,hnm,hxm⟩⟩
theorem j0b{ops:Array Oper}{g:Seg}{c:Piece}{k:Nat}{s':S}{news:List Blk}{l:List (Nat×V)}(hc:Full c (List.range' k g.cnt) g s' news l)(hB:c.B=fun i j=>decide (i<j)){ys:List Nat}
  (hop:∀ D a w i Kn,Stage c g s' D a w→wpOp c.P c.ops Q i Kn a w→wpOp c.P ops Q i Kn a w)
  (hys:∀ a w F σ,StRel c.K c.X c.base c.w0 c.F0 c.m c.σ0 c.n s' a w F σ→wpOps c.P ops Q ys a w):∀(m j:Nat) (a:Act) (w:World),j+m=g.cnt→Stage c g s' (fun i=>k≤i∧i<k+j) a w→wpOps c.P ops Q (List.range' (k+j) m++ys) a w
 |0,j,a,w,hj,hs=>by
  obtain⟨F,σ,hst⟩:=q4G hc hs (fun r hr=>by
   have:=(q02 hc.seg r.i).1 ⟨r,hr,rfl⟩
   rw[List.mem_range'_1] at this
   constructor
   ·exact this.1
   ·have:=this.2;omega)
  simpa using hys a w F σ hst
 |m+1,j,a,w,hj,hs=>by
  rw[List.range'_succ,List.cons_append,wpOps_cons]
  obtain⟨r,hr,hri⟩:=(q02 hc.seg (k+j)).2 (by rw[List.mem_range'_1];omega)
  have hmem:∀ q∈c.R,k≤q.i∧q.i<k+g.cnt:=fun q hq=>by
   have:=(q02 hc.seg q.i).1 ⟨q,hq,rfl⟩
   rwa [List.mem_range'_1] at this
  have:=q31 (Q:=Q) (Kn:=wpOps c.P ops Q (List.range' (k+j+1) m++ys)) hc hs hr (by rw[hri];omega) (fun q hq hqD p hp hpq=>by
    rw[hB] at hpq
    simp only[decide_eq_true_eq] at hpq
    have:=hmem p hp
    omega) (fun q hq hqr=>by
    rw[hB] at hqr
    simp only[decide_eq_true_eq] at hqr
    have:=hmem q hq
    omega) (fun a' w' hs'=>by
    refine j0b hc hB hop hys m (j+1) a' w' (by omega) ?_
    have:(fun i=>k≤i∧i<k+(j+1))=plus (fun i=>k≤i∧i<k+j) r.i:=by
     funext i
     simp only[plus,hri,eq_iff_iff]
     omega
    rw[this]
    exact hs')
  rw[hri] at this
  exact hop _ a w _ _ hs this
theorem q8i(hK:K.Sound P):∀(gs:List Seg)(k:Nat)(s s':S)(a:Act)(w:World)(F:Nat→Prop)(σ:Nat→Option Loc),q4F P ops n k gs=true→k≤ops.size→q2f K s gs=some s'→StRel K X base w0 F0 m0 σ0 n s a w F σ→
  (∀ a w F σ,StRel K X base w0 F0 m0 σ0 n s' a w F σ→Q .normal a w)→wpOps P ops Q (List.range' k (ops.size - k)) a w
 |[],k,s,s',a,w,F,σ,hok,hk,hev,hst,hQ=>by
  simp only[q4F,beq_iff_eq] at hok
  subst hok
  obtain rfl:=Option.some.inj hev
  simp only[Nat.sub_self,List.range'_zero,wpOps]
  exact hQ _ _ _ _ hst
 |g :: gs,k,s,s',a,w,F,σ,hok,hk,hev,hst,hQ=>by
  simp only[q4F,Bool.and_eq_true] at hok
  simp only[q2f] at hev
  cases hg:q1g K s g with
  |none=>simp [hg] at hev
  |some s2=>
   simp only[hg] at hev
   obtain⟨R,s1,T,news,l,hf⟩:=q3S (X:=X) (base:=base) (w0:=w0) (F0:=F0) (m0:=m0) (σ0:=σ0) hok.1 hK hg hst.dom hst.nxm hst.xm
   have hle:∀(gs:List Seg) (k:Nat),q4F P ops n k gs=true→k≤ops.size:=by
    intro gs
    induction gs with
    |nil=>intro k h;simp only[q4F,beq_iff_eq] at h;omega
    |cons g gs ih=>
     intro k h
     simp only[q4F,Bool.and_eq_true] at h
     have:=ih _ h.2
     omega
   have hk2:=hle gs _ hok.2
   have hsplit:List.range' k (ops.size - k)=List.range' (k+0) g.cnt++List.range' (k+g.cnt) (ops.size - (k+g.cnt)):=by
    have:ops.size - k=g.cnt+(ops.size - (k+g.cnt)):=by omega
    rw[this,←List.range'_append_1]
    simp
   rw[hsplit]
   refine j0b hf rfl (fun _ _ _ _ _ _ h=>h) (fun a w F σ hst2=>q8i hK gs (k+g.cnt) s2 s' a w F σ hok.2 hk2 hev hst2 hQ) g.cnt 0 a w (by omega) ?_
   have:(fun i=>k≤i∧i<k+0)=fun _=>False:=by
    funext i
    simp only[eq_iff_iff,iff_false]
    omega
   rw[this]
   exact q1a hf.traced hst
theorem z0m{id:Nat}{gs:List Seg}{s s':S}{a:Act}{w:World}{F:Nat→Prop}{σ:Nat→Option Loc}(hK:K.Sound P)(hok:q4F P ops n 0 gs=true)(hev:q2f K s gs=some s')(hst:StRel K X base w0 F0 m0 σ0 n s a w F σ)
  (hQ:∀ a w F σ,StRel K X base w0 F0 m0 σ0 n s' a w F σ→Q .normal a w):(Code.region id ops false).wp P Q a w:=by
 refine wp_region ?_
 have:=q8i (Q:=Q) hK gs 0 s s' a w F σ hok (Nat.zero_le _) hev hst hQ
 rw[List.range_eq_range']
 simpa using this
theorem RepV.world{w w':World}{F:Nat→Prop}{σ:Nat→Option Loc}(h:w'.heap=w.heap){v:Value}{x:V}(hR:RepV w F base σ v x):RepV w' F base σ v x:=
 hR.mono (fun _ hb=>⟨hb,by rw[h]⟩) (fun _ _ h=>h)
theorem StRel.drawn{s:S}{a:Act}{w:World}{F:Nat→Prop}{σ:Nat→Option Loc}(h:StRel K X base w0 F0 m0 σ0 n s a w F σ)(m:Nat):StRel K X base w0 F0 m0 σ0 n s a { w with drawn:=m } F σ:=by
 have hF:∀ b,F b→F b∧({ w with drawn:=m }:World).heap[b]? = w.heap[b]?:=fun b hb=>⟨hb,rfl⟩
 exact⟨⟨fun b blk hb=>(h.heap.blk b blk hb).mono hF (fun _ _ h=>h) (fun h=>h) (fun _ _=>rfl),h.heap.inj,h.heap.own,h.heap.fro⟩,h.glob.mono hF,h.le,⟨h.frame.os,h.frame.tape,h.frame.output,h.frame.size,h.frame.block⟩,h.frz,h.size,h.dfr,fun t v hv=>(h.rho t v hv).mono hF (fun _ _ h=>h),h.dom,h.stab,h.nxm,h.xm,h.sub⟩
theorem j3V{listed:Array Bool}{i:Nat}:i∈Region.ready .any ops listed↔i<ops.size∧listed.getD i true=false∧∃ o,ops[i]? = some o∧∀ j∈q4v o,listed.getD j false=true:=by
 unfold Region.ready
 simp only[List.mem_filter,List.mem_range,Bool.and_eq_true,Bool.not_eq_true']
 constructor
 ·rintro⟨h1,h2,h3⟩
  refine⟨h1,h2,ops[i],by simp [h1],fun j hj=>?_⟩
  simp only[q4v,List.mem_map,List.mem_filter] at hj
  obtain⟨e,⟨he,hb⟩,rfl⟩:=hj
  simp only[h1,getElem?_pos,Option.map_some,Option.getD_some] at h3
  rw[Array.all_eq_true'] at h3
  have:=h3 e (by simpa using he)
  simpa [hb] using this
 ·rintro⟨h1,h2,o,ho,h3⟩
  refine⟨h1,h2,?_⟩
  rw[ho]
  simp only[Option.map_some,Option.getD_some]
  rw[Array.all_eq_true']
  intro e he
  cases hb:Region.binds .any e with
  |false=>simp
  |true=>
   simp only[Bool.not_true,Bool.false_or]
   exact h3 e.on (by simp only[q4v,List.mem_map,List.mem_filter];exact⟨e,⟨by simpa using he,hb⟩,rfl⟩)
structure Tab(ops:Array Oper)(tab:List (List Nat)):Prop where
 lt:∀ i o,ops[i]? = some o→∀ j∈q4v o,j<i
 clo:∀ i o,ops[i]? = some o→∀ j∈tab.getD i [],∃ e∈q4v o,e=j∨j∈tab.getD e []
theorem q7D{tab:List (List Nat)}(h:z4M ops.toList tab=true):Tab ops tab:=by
 simp only[z4M,List.all_eq_true,Bool.and_eq_true,decide_eq_true_eq,List.any_eq_true,Bool.or_eq_true,beq_iff_eq,List.contains_eq_mem] at h
 have get:∀ i o,ops[i]? = some o→(o,i)∈ops.toList.zipIdx:=fun i o ho=>by
  rw[List.mem_iff_getElem?]
  refine⟨i,?_⟩
  rw[List.getElem?_zipIdx]
  simp [ho]
 exact⟨fun i o ho j hj=>(h (o,i) (get i o ho)).1 j hj,fun i o ho j hj=>(h (o,i) (get i o ho)).2 j hj⟩
def q0D(listed:Array Bool)(m:Nat):Nat:=((List.range m).filter fun i=>!listed.getD i true).length
theorem q2T(listed:Array Bool)(i j:Nat)(hi:i<listed.size)(d:Bool):(listed.setIfInBounds i true).getD j d=if j=i then true else listed.getD j d:=by
 simp only[Array.getD_eq_getD_getElem?]
 by_cases h:j=i
 ·subst h;simp [hi]
 ·rw[if_neg h,Array.getElem?_setIfInBounds_ne (fun e=>h e.symm)]
theorem q7t(listed:Array Bool)(i:Nat)(h1:listed.size=ops.size)(h2:i<ops.size):listed.getD i true=listed.getD i false:=by
 simp only[Array.getD_eq_getD_getElem?]
 have:i<listed.size:=by omega
 simp [this]
theorem z5A{tab:List (List Nat)}(ht:Tab ops tab)(listed:Array Bool)(hsz:listed.size=ops.size)(hr:Region.ready .any ops listed=[]):∀ i,i<ops.size→listed.getD i false=true:=by
 intro i
 induction i using Nat.strongRecOn with
 |_ i ih=>
  intro hi
  cases hl:listed.getD i false with
  |true=>rfl
  |false=>
   have hm:i∈Region.ready .any ops listed:=j3V.2 ⟨hi,by rw[q7t listed i hsz hi];exact hl,ops[i],by simp [hi],fun j hj=>by
    have:=ht.lt i ops[i] (by simp [hi]) j hj
    exact ih j this (by omega)⟩
   rw[hr] at hm
   simp at hm
theorem Stage.congr{c:Piece}{g:Seg}{s':S}{D D':Nat→Prop}{a:Act}{w:World}(h:∀ r∈c.R,D r.i↔D' r.i)(hs:Stage c g s' D a w):Stage c g s' D' a w:=by
 rcases hs with⟨hno,F,σ,hi⟩|⟨⟨r,hr,hD,hw⟩,hst⟩
 ·refine .inl ⟨fun r hr hD=>hno r hr ((h r hr).2 hD),F,σ,⟨hi.heap,hi.glob,hi.le,hi.frame,hi.frz,hi.size,hi.dfr,fun t v hv hn=>hi.old t v hv (fun r hr hD=>hn r hr ((h r hr).1 hD)),fun r hr hD=>hi.done r hr ((h r hr).2 hD),?_,?_,hi.stab,hi.sub⟩⟩
  ·rintro d m v n0 nw hT ⟨r,hr,hD,hd⟩
   exact hi.made d m v n0 nw hT ⟨r,hr,(h r hr).2 hD,hd⟩
  ·intro d m v n0 nw hT hn
   exact hi.unmade d m v n0 nw hT (fun r hr hD=>hn r hr ((h r hr).1 hD))
 ·obtain⟨F,σ,hi⟩:=hst
  exact .inr ⟨⟨r,hr,(h r hr).1 hD,hw⟩,F,σ,⟨fun r hr hD=>hi.rest r hr (fun hD'=>hD ((h r hr).1 hD')),hi.heap,hi.glob,hi.le,hi.frame,hi.frz,hi.size,hi.dfr,fun t v hv hn=>hi.rho t v hv (fun r hr hD=>hn r hr (fun hD'=>hD ((h r hr).2 hD'))),hi.dom,hi.stab,hi.nxm,hi.xm,hi.sub,fun q hq hD=>hi.ldone q hq ((h q hq).2 hD),fun t v hv hn=>hi.lold t v hv (fun r hr hD=>hn r hr ((h r hr).1 hD))⟩⟩
theorem q8c{tab:List (List Nat)}(ht:Tab ops tab){k cnt:Nat}(St:(Nat→Prop)→Act→World→Prop)
  (hstep:∀(D:Nat→Prop) (a:Act) (w:World) (i:Nat) (Kn:Act→World→Prop),k≤i→i<k+cnt→¬ D i→(∀ q,k≤q→q<k+cnt→D q→∀ p,tabB tab p q=true→D p)→(∀ q,tabB tab q i=true→D q)→St D a w→(∀ a' w',St (plus D i) a' w'→Kn a' w')→wpOp P ops Q i Kn a w)
  (hbar:∀ i,k+cnt≤i→i<ops.size→∀ j,j<k+cnt→tabB tab j i=true) (hkc:k+cnt≤ops.size)
  (hrest:∀(fuel:Nat) (listed:Array Bool) (a:Act) (w:World),listed.size=ops.size→q0D listed ops.size≤fuel→(∀ i,i<k+cnt→listed.getD i false=true)→(∀ i,k+cnt≤i→listed.getD i false=false)→
   (∃ D,(∀ i,k≤i→i<k+cnt→D i)∧St D a w)→wpAny P .any ops Q fuel listed a w) :
  ∀(fuel:Nat) (listed:Array Bool) (a:Act) (w:World),listed.size=ops.size→q0D listed ops.size≤fuel→(∀ i,i<k→listed.getD i false=true)→(∀ i,k+cnt≤i→listed.getD i false=false)→
   (∀ i,i<ops.size→listed.getD i false=true→∀ j,tabB tab j i=true→listed.getD j false=true)→St (fun i=>listed.getD i false=true) a w→wpAny P .any ops Q fuel listed a w:=by
 intro fuel
 induction fuel with
 |zero=>
  intro listed a w hsz hfuel hlo hhi hdown hs
  have hall:∀ i,i<ops.size→listed.getD i false=true:=by
   intro i hi
   cases hl:listed.getD i false with
   |true=>rfl
   |false=>
    have hm:i∈(List.range ops.size).filter fun i=>!listed.getD i true:=by
     simp only[List.mem_filter,List.mem_range,Bool.not_eq_true']
     exact⟨hi,by rw[q7t listed i hsz hi];exact hl⟩
    have:0<q0D listed ops.size:=List.length_pos_of_mem hm
    omega
  exact hrest 0 listed a w hsz hfuel (fun i hi=>hall i (by omega)) hhi ⟨_,fun i h1 h2=>hall i (by omega),hs⟩
 |succ fuel ih=>
  intro listed a w hsz hfuel hlo hhi hdown hs
  by_cases hall:∀ i,i<k+cnt→listed.getD i false=true
  ·exact hrest (fuel+1) listed a w hsz hfuel hall hhi ⟨_,fun i _ h=>hall i h,hs⟩
  ·refine⟨fun hr=>absurd (fun i hi=>z5A ht listed hsz hr i (by omega)) hall,fun i hi=>?_⟩
   obtain⟨h1,h2,o,ho,h3⟩:=j3V.1 hi
   rw[q7t listed i hsz h1] at h2
   have hpre:∀ j,tabB tab j i=true→listed.getD j false=true:=by
    intro j hj
    simp only[tabB,List.contains_eq_mem,decide_eq_true_eq] at hj
    obtain⟨e,he,h4⟩:=ht.clo i o ho j hj
    rcases h4 with rfl|h4
    ·exact h3 _ he
    ·exact hdown e (by have:=ht.lt i o ho e he;omega) (h3 e he) j (by simpa [tabB] using h4)
   have hki:k≤i:=by
    rcases Nat.lt_or_ge i k with h|h
    ·rw[hlo i h] at h2;cases h2
    ·exact h
   have hik:i<k+cnt:=by
    rcases Nat.lt_or_ge i (k+cnt) with h|h
    ·exact h
    ·exact absurd (fun j hj=>hpre j (hbar i h h1 j hj)) hall
   have hlt:i<listed.size:=by omega
   exact hstep _ a w i (wpAny P .any ops Q fuel (listed.setIfInBounds i true)) hki hik (by simp only[h2];simp) (fun q hq1 hq2 hqD p hpq=>hdown q (by omega) hqD p hpq) hpre hs (fun a' w' hs'=>by
     refine ih _ a' w' (by simpa using hsz) ?_ (fun x hx=>?_) (fun x hx=>?_) ?_ ?_
     ·have:q0D (listed.setIfInBounds i true) ops.size<q0D listed ops.size:=by
       unfold q0D
       have hsub:((List.range ops.size).filter fun x=>!(listed.setIfInBounds i true).getD x true)=((List.range ops.size).filter fun x=>!listed.getD x true).filter fun x=>decide (x≠i):=by
        rw[List.filter_filter]
        refine List.filter_congr fun x _=>?_
        rw[q2T listed i x hlt]
        by_cases hx:x=i
        ·simp [hx]
        ·simp [hx]
       rw[hsub]
       have hm:i∈(List.range ops.size).filter fun i=>!listed.getD i true:=by
        simp only[List.mem_filter,List.mem_range,Bool.not_eq_true']
        exact⟨h1,by rw[q7t listed i hsz h1];exact h2⟩
       exact List.length_filter_lt_length_iff_exists.2 ⟨i,hm,by simp⟩
      omega
     ·rw[q2T listed i x hlt]
      split
      ·rfl
      ·exact hlo x hx
     ·rw[q2T listed i x hlt,if_neg (by omega)]
      exact hhi x hx
     ·intro x hx hxl j hj
      rw[q2T listed i x hlt] at hxl
      rw[q2T listed i j hlt]
      split
      ·rfl
      ·split at hxl
       ·rename_i hxr
        subst hxr
        exact hpre j hj
       ·exact hdown x hx hxl j hj
     ·have:(fun x=>(listed.setIfInBounds i true).getD x false=true)=plus (fun x=>listed.getD x false=true) i:=by
       funext x
       rw[q2T listed i x hlt]
       simp only[plus,eq_iff_iff]
       by_cases hx:x=i <;> simp [hx]
      rw[this]
      exact hs')
theorem q7j{tab:List (List Nat)}(ht:Tab ops tab){g:Seg}{c:Piece}{k:Nat}{s':S}{news:List Blk}{l:List (Nat×V)}(hc:Full c (List.range' k g.cnt) g s' news l)(hop:∀ D a w i Kn,Stage c g s' D a w→wpOp c.P c.ops Q i Kn a w→wpOp c.P ops Q i Kn a w)(hB:c.B=tabB tab)
  (hbar:∀ i,k+g.cnt≤i→i<ops.size→∀ j,j<k+g.cnt→tabB tab j i=true) (hkc:k+g.cnt≤ops.size)
  (hrest:∀(fuel:Nat) (listed:Array Bool) (a:Act) (w:World) (F:Nat→Prop) (σ:Nat→Option Loc),listed.size=ops.size→q0D listed ops.size≤fuel→(∀ i,i<k+g.cnt→listed.getD i false=true)→(∀ i,k+g.cnt≤i→listed.getD i false=false)→
   StRel c.K c.X c.base c.w0 c.F0 c.m c.σ0 c.n s' a w F σ→wpAny c.P .any ops Q fuel listed a w)
  (fuel:Nat) (listed:Array Bool) (a:Act) (w:World) (h1:listed.size=ops.size) (h2:q0D listed ops.size≤fuel) (h3:∀ i,i<k→listed.getD i false=true) (h4:∀ i,k+g.cnt≤i→listed.getD i false=false)
  (h5:∀ i,i<ops.size→listed.getD i false=true→∀ j,tabB tab j i=true→listed.getD j false=true) (h6:Stage c g s' (fun i=>listed.getD i false=true) a w):wpAny c.P .any ops Q fuel listed a w:=by
 have hmem:∀ q∈c.R,k≤q.i∧q.i<k+g.cnt:=fun q hq=>by
  have:=(q02 hc.seg q.i).1 ⟨q,hq,rfl⟩
  rwa [List.mem_range'_1] at this
 refine q8c (cnt:=g.cnt) ht (Stage c g s') (fun D a w i Kn hi1 hi2 hD hdown hpre hs hK=>?_) hbar hkc (fun fuel listed a w q1 q2 q3 q4 ⟨D,hall,hs⟩=>?_) fuel listed a w h1 h2 h3 h4 h5 h6
 ·obtain⟨r,hr,hri⟩:=(q02 hc.seg i).2 (by rw[List.mem_range'_1];omega)
  subst hri
  exact hop D a w r.i Kn hs (q31 hc hs hr hD (fun q hq hqD p hp hpq=>by
   rw[hB] at hpq
   exact hdown q.i (hmem q hq).1 (hmem q hq).2 hqD p.i hpq) (fun q hq hqr=>by
   rw[hB] at hqr
   exact hpre q.i hqr) hK)
 ·obtain⟨F,σ,hst⟩:=q4G hc hs (fun r hr=>hall r.i (hmem r hr).1 (hmem r hr).2)
  exact hrest fuel listed a w F σ q1 q2 q3 q4 hst
theorem z1h(hK:K.Sound P){tab:List (List Nat)}(ht:Tab ops tab):∀(gs:List Seg)(k:Nat)(s s':S),q16 P ops n tab k gs=true→q2f K s gs=some s'→(∀ a w F σ,StRel K X base w0 F0 m0 σ0 n s' a w F σ→Q .normal a w)→
  ∀(fuel:Nat) (listed:Array Bool) (a:Act) (w:World) (F:Nat→Prop) (σ:Nat→Option Loc),listed.size=ops.size→q0D listed ops.size≤fuel→(∀ i,i<k→listed.getD i false=true)→(∀ i,k≤i→listed.getD i false=false)→StRel K X base w0 F0 m0 σ0 n s a w F σ→wpAny P .any ops Q fuel listed a w
 |[],k,s,s',hok,hev,hQ,fuel,listed,a,w,F,σ,hsz,hfuel,hlo,hhi,hst=>by
  simp only[q16,beq_iff_eq] at hok
  subst hok
  obtain rfl:=Option.some.inj hev
  have hr:Region.ready .any ops listed=[]:=by
   cases hr:Region.ready .any ops listed with
   |nil=>rfl
   |cons i t=>
    have:i∈Region.ready .any ops listed:=by rw[hr];simp
    obtain⟨h1,h2,_⟩:=j3V.1 this
    rw[q7t listed i hsz h1,hlo i h1] at h2
    cases h2
  cases fuel with
  |zero=>exact⟨hr,hQ _ _ _ _ hst⟩
  |succ fuel=>exact⟨fun _=>hQ _ _ _ _ hst,fun i hi=>by rw[hr] at hi;simp at hi⟩
 |g :: gs,k,s,s',hok,hev,hQ,fuel,listed,a,w,F,σ,hsz,hfuel,hlo,hhi,hst=>by
  simp only[q16,Bool.and_eq_true] at hok
  obtain⟨⟨hok1,hok2⟩,hok3⟩:=hok
  simp only[q2f] at hev
  cases hg:q1g K s g with
  |none=>simp [hg] at hev
  |some s2=>
   simp only[hg] at hev
   obtain⟨R,s1,T,news,l,hf⟩:=q3S (X:=X) (base:=base) (w0:=w0) (F0:=F0) (m0:=m0) (σ0:=σ0) hok1 hK hg hst.dom hst.nxm hst.xm
   have hle:∀(gs:List Seg) (k:Nat),q16 P ops n tab k gs=true→k≤ops.size:=by
    intro gs
    induction gs with
    |nil=>intro k h;simp only[q16,beq_iff_eq] at h;omega
    |cons g gs ih=>
     intro k h
     simp only[q16,Bool.and_eq_true] at h
     have:=ih _ h.2
     omega
   have hbar:∀ i,k+g.cnt≤i→i<ops.size→∀ j,j<k+g.cnt→tabB tab j i=true:=by
    intro i h1 h2 j hj
    cases gs with
    |nil=>
     simp only[q16,beq_iff_eq] at hok3
     omega
    |cons g2 gs2=>
     simp only[q16,Bool.and_eq_true,List.all_eq_true] at hok3
     exact hok3.1.2 i (by rw[List.mem_range'_1];omega) j (by simpa using hj)
   refine q7j ht hf (fun _ _ _ _ _ _ h=>h) rfl hbar (hle _ _ hok3) (fun fuel listed a w F σ h1 h2 h3 h4 hst2=>z1h hK ht gs (k+g.cnt) s2 s' hok3 hev hQ fuel listed a w F σ h1 h2 h3 h4 hst2) fuel listed a w hsz hfuel hlo (fun i hi=>hhi i (by omega)) (fun i hi hil j hj=>?_) ?_
   ·-- what is listed is of earlier chunks: so is all ahead of it
    have hik:i<k:=by
     rcases Nat.lt_or_ge i k with h|h
     ·exact h
     ·rw[hhi i h] at hil;cases hil
    have hclo:∀ i,i<ops.size→∀ j,tabB tab j i=true→j<i:=by
     intro i
     induction i using Nat.strongRecOn with
     |_ i ih=>
      intro hi j hj
      simp only[tabB,List.contains_eq_mem,decide_eq_true_eq] at hj
      obtain⟨e,he,h4⟩:=ht.clo i ops[i] (by simp [hi]) j hj
      have hei:=ht.lt i ops[i] (by simp [hi]) e he
      rcases h4 with rfl|h4
      ·exact hei
      ·have:=ih e hei (by omega) j (by simpa [tabB] using h4)
       omega
    exact hlo j (by have:=hclo i hi j hj;omega)
   ·refine(q1a (P:=P) (ops:=ops) (B:=tabB tab) (R:=R) (s':=s2) hf.traced hst).congr (fun r hr=>?_)
    have:=(q02 hf.seg r.i).1 ⟨r,hr,rfl⟩
    rw[List.mem_range'_1] at this
    rw[hhi r.i this.1]
    simp
theorem q9Y{id:Nat}{gs:List Seg}{s s':S}{a:Act}{w:World}{F:Nat→Prop}{σ:Nat→Option Loc}(hm:P.follows .mixedOrders=true)(hK:K.Sound P)(hok:q8L P ops n gs=true)(hev:q2f K s gs=some s')(hst:StRel K X base w0 F0 m0 σ0 n s a w F σ)
  (hQ:∀ a w F σ,StRel K X base w0 F0 m0 σ0 n s' a w F σ→Q .normal a w):(Code.region id ops true).wp P Q a w:=by
 simp only[q8L,Bool.and_eq_true] at hok
 refine wp_region_any hm ?_
 have hno:∀ i,(Array.replicate ops.size false).getD i false=false:=by
  intro i
  simp only[Array.getD_eq_getD_getElem?,Array.getElem?_replicate]
  split <;> rfl
 refine z1h hK (q7D hok.2) gs 0 s s' hok.1 hev hQ ops.size _ a _ F σ (by simp) ?_ (fun i hi=>by omega) (fun i _=>hno i) (hst.drawn _)
 unfold q0D
 refine Nat.le_trans (List.length_filter_le _ _) ?_
 simp
end Go.Vm
end

section
namespace Go.Vm
open Go.RowKit
variable {P:Program}{K:Cx}{ops:Array Oper}{n:Nat}{X:Nat→Nat→Prop}{base:Nat}{w0:World}{F0:Nat→Prop}{m0:Nat}{σ0:Nat→Option Loc}
theorem z6a{w:World}{F:Nat→Prop}{σ σ':Nat→Option Loc}{nx:Nat}{H:List (Nat×Blk)}(hH:HeapRel w F X base σ nx H){b n k:Nat}{c:Bool}{rows:List (List D)}{l:Loc}(hb:look H b=some (.dat c k rows))(hl:σ b=some l)(hn:n=rows.length)(h0:0<n)(hbase:base≤l.blk){v:Value}(hv:RepV w F base σ v (.bsl b 0 n)) :
  RepV w (fun x=>F x∨x=l.blk) base σ' v (.d c (.sl k rows)):=by
 have hin:col (fun x=>F x∨x=l.blk) base c l.blk:=by
  cases c
  ·exact .inr rfl
  ·exact⟨.inr rfl,hbase⟩
 refine .d _ _ _ ?_
 cases hv with
 |bsl0=>omega
 |bsl _ _ _ cap l' hl' h1 h2=>
  obtain rfl:l=l':=by rw[hl] at hl';exact Option.some.inj hl'
  have cells:∀ i r,rows[i]? = some r→l.k=k∧r.length=k∧∀(j:Nat) (d:D),r[j]? = some d→∃ u,w.cell? ⟨l.blk,i*l.k+j,none⟩=some u∧RepV w F base σ u (mkd c d):=by
   intro i r hr
   obtain⟨e1,e2,e3⟩:=q2x hH hb hl (i:=i) (row:=r.map (mkd c)) (by simp [Blk.row?,hr])
   simp only[Blk.k] at e1
   refine⟨e1,by simpa [e1] using e2,fun j d hd=>?_⟩
   obtain⟨u,hu,_,hR⟩:=e3 j (mkd c d) (by simp [hd])
   exact⟨u,hu,hR⟩
  refine .sl _ _ _ _ k _ (fun i j=>(w.cell? ⟨l.blk,i*l.k+j,none⟩).getD undef) hn.symm h1 hin (fun r hr=>?_) (fun i j r d hr hd=>?_) (fun i j r d hr hd=>?_)
  ·obtain⟨i,hi⟩:=List.getElem?_of_mem hr
   exact(cells i r hi).2.1
  ·obtain⟨e1,_,e3⟩:=cells i r hr
   obtain⟨u,hu,_⟩:=e3 j d hd
   rw[hu,←e1]
   simp only[Option.getD_some]
   rw[←hu]
   congr 2
   omega
  ·obtain⟨e1,_,e3⟩:=cells i r hr
   obtain⟨u,hu,hR⟩:=e3 j d hd
   rw[hu]
   simp only[Option.getD_some]
   unfold mkd at hR
   split at hR
   ·rename_i hf
    cases hR with
    |d _ _ _ h=>exact h.flat hf
   ·cases hR with
    |d _ _ _ h=>exact h.mono fun a ha=>⟨by
      cases c
      ·exact .inl ha
      ·exact⟨.inl ha.1,ha.2⟩,rfl⟩
theorem StRel.freeze{s:S}{a:Act}{w:World}{F:Nat→Prop}{σ:Nat→Option Loc}(t j:Nat)(h:StRel K X base w0 F0 m0 σ0 n s a w F σ):∃ F' σ',StRel K X base w0 F0 m0 σ0 n (frzS m0 t j s) a w F' σ':=by
 unfold frzS
 split
 case h_2=>exact⟨F,σ,h⟩
 rename_i b hb
 split
 case h_2=>exact⟨F,σ,h⟩
 rename_i k row hrow
 split
 case h_2=>exact⟨F,σ,h⟩
 rename_i b' nn hj
 split
 case h_2=>exact⟨F,σ,h⟩
 rename_i c k' rows hb'
 split
 case isFalse=>exact⟨F,σ,h⟩
 rename_i hc
 obtain⟨hn,h0,hm,hne⟩:=hc
 have hl:∃ l,σ b'=some l:=by
  rcases h.heap.blk b' _ hb' with⟨hz,_⟩|⟨l,_,_,_,_,hl,_⟩|⟨l,_,_,hl,_⟩
  ·simp [Blk.n] at hz;rw[hz] at hn;simp at hn;omega
  ·exact⟨l,hl⟩
  ·exact⟨l,hl⟩
 obtain⟨l,hl⟩:=hl
 obtain⟨o1,o2,o3,o4⟩:=h.heap.own b' l hl
 have hbase:base≤l.blk:=by
  rcases o3 with o3|o3
  ·exact o3
  ·have:=h.xm _ _ o3;omega
 have hF:∀ x,F x→(F x∨x=l.blk)∧w.heap[x]? = w.heap[x]?:=fun x hx=>⟨.inl hx,rfl⟩
 let σ':Nat→Option Loc:=fun i=>if i=b' then none else σ i
 have hσ:∀ i l,σ i=some l→(i==b')=false→σ' i=some l:=fun i l hi hp=>by
  show(if i=b' then none else σ i)=_
  rw[if_neg (by simpa using hp)];exact hi
 have hσ':∀ i l0,σ' i=some l0→i≠b'∧σ i=some l0:=fun i l0 hi=>by
  change (if i=b' then none else σ i)=_ at hi
  split at hi
  ·cases hi
  ·exact⟨‹_›,hi⟩
 have hσn:∀ i,i≠b'→σ' i=σ i:=fun i hi=>by
  show(if i=b' then none else σ i)=_
  rw[if_neg hi]
 refine⟨fun x=>F x∨x=l.blk,σ',⟨fun i blk hi=>?_,fun i i' l1 l2 h1 h2 he=>?_,fun i l1 h1=>?_,fun x hx=>?_⟩,h.glob.mono hF,h.le,h.frame,fun x hx=>?_,h.size,h.dfr,fun u v hv=>?_,fun i blk hi=>?_,fun i l1 h1 h2 h3=>?_,h.nxm,h.xm,fun x hx=>.inl (h.sub x hx)⟩
 ·rw[q0I] at hi
  split at hi
  ·rename_i he
   subst he
   obtain rfl:=Option.some.inj hi
   rcases h.heap.blk b _ hrow with⟨hz,_⟩|⟨_,_,_,_,hmap,_⟩|⟨lb,cs,T,q1,q2,q3,q4,q5,q6,q7⟩
   ·simp [Blk.n] at hz
   ·cases hmap
   ·refine .inr (.inr ⟨lb,cs,T,by rw[hσn b (fun e=>hne e.symm)];exact q1,q2,q3,q4,q5,fun i r hr=>?_,rfl⟩)
    cases i with
    |succ i=>simp [Blk.row?] at hr
    |zero=>
     simp only[Blk.row?,List.getElem?_cons_zero,Option.some.injEq] at hr
     subst hr
     obtain⟨g1,g2⟩:=q6 0 row rfl
     refine⟨by simpa [Blk.k] using g1,fun jj x hx=>?_⟩
     by_cases hjj:j=jj
     ·subst hjj
      have hlt:j<row.length:=(List.getElem?_eq_some_iff.1 hj).1
      rw[List.getElem?_set_self (by simpa using hlt)] at hx
      obtain rfl:=Option.some.inj hx
      obtain⟨v,g3,g4,g5⟩:=g2 j _ hj
      exact⟨v,g3,g4,z6a h.heap hb' hl hn h0 hbase g5⟩
     ·rw[List.getElem?_set_ne hjj,List.getElem?_map,Option.map_eq_some_iff] at hx
      obtain⟨y,hy,rfl⟩:=hx
      obtain⟨v,g3,g4,g5⟩:=g2 jj y hy
      exact⟨v,g3,g4,g5.drop1 hF hσ⟩
  ·rw[q0I] at hi
   split at hi
   ·rename_i he
    subst he
    obtain rfl:=Option.some.inj hi
    exact .inl ⟨rfl,if_pos rfl⟩
   ·rename_i he
    simp only[forgetH,q2d,Option.map_eq_some_iff] at hi
    obtain⟨blk0,hi,rfl⟩:=hi
    have hib:i≠b':=fun e=>he e.symm
    exact(h.heap.blk i blk0 hi).forget (·== b') hF hσ (fun l hl=>by rw[hσn i hib];exact hl) (fun hl=>by rw[hσn i hib];exact hl) (fun _ _=>rfl)
 ·exact h.heap.inj i i' l1 l2 (hσ' i l1 h1).2 (hσ' i' l2 h2).2 he
 ·obtain⟨hi,h1⟩:=hσ' i l1 h1
  obtain⟨p1,p2,p3,p4⟩:=h.heap.own i l1 h1
  refine⟨p1,fun hx=>?_,p3,p4⟩
  rcases hx with hx|hx
  ·exact p2 hx
  ·exact hi (h.heap.inj i b' l1 l h1 hl hx)
 ·rcases hx with hx|hx
  ·exact h.heap.fro x hx
  ·rw[hx];exact o4
 ·rcases hx with hx|hx
  ·exact h.frz x hx
  ·rw[hx];exact .inr hbase
 ·simp only[forgetR] at hv
  rw[q29,Option.map_eq_some_iff] at hv
  obtain⟨v0,h1,rfl⟩:=hv
  exact(h.rho u v0 h1).forget hF hσ
 ·rw[q0I] at hi
  split at hi
  ·rename_i he;subst he;exact h.dom _ _ hrow
  ·rw[q0I] at hi
   split at hi
   ·rename_i he;subst he;exact h.dom _ _ hb'
   ·simp only[forgetH,q2d,Option.map_eq_some_iff] at hi
    obtain⟨blk0,hi,rfl⟩:=hi
    exact h.dom i blk0 hi
 ·rw[hσn i (by omega)]
  exact h.stab i l1 h1 h2 h3
def less(σ:Nat→Option Loc)(b:Nat):Nat→Option Loc:=fun i=>if i=b then none else σ i
theorem StRel.gone{s:S}{a:Act}{w:World}{F:Nat→Prop}{σ:Nat→Option Loc}{t b k:Nat}{l:Loc}{x:V}{blk:Blk}(hl:σ b=some l)(hblk:look s.heap b=some blk)(hm:m0≤b)
  (hx:base≤l.blk→RepV w (fun y=>F y∨y=l.blk) base (less σ b) (a.tmps.getD t undef) x) (h:StRel K X base w0 F0 m0 σ0 n s a w F σ) :
  ∃ F' σ',StRel K X base w0 F0 m0 σ0 n ⟨put (forgetR (·== b) s.rho) t x,put (forgetH (·== b) s.heap) b (.dat true k []),s.nx,s.mv⟩ a w F' σ':=by
 obtain⟨o1,o2,o3,o4⟩:=h.heap.own b l hl
 have hbase:base≤l.blk:=by
  rcases o3 with o3|o3
  ·exact o3
  ·have:=h.xm _ _ o3;omega
 have hF:∀ y,F y→(F y∨y=l.blk)∧w.heap[y]? = w.heap[y]?:=fun y hy=>⟨.inl hy,rfl⟩
 have hσ:∀ i l,σ i=some l→(i==b)=false→less σ b i=some l:=fun i l hi hp=>by
  show(if i=b then none else σ i)=_
  rw[if_neg (by simpa using hp)];exact hi
 have hσ':∀ i l0,less σ b i=some l0→i≠b∧σ i=some l0:=fun i l0 hi=>by
  change (if i=b then none else σ i)=_ at hi
  split at hi
  ·cases hi
  ·exact⟨‹_›,hi⟩
 have hσn:∀ i,i≠b→less σ b i=σ i:=fun i hi=>by
  show(if i=b then none else σ i)=_
  rw[if_neg hi]
 refine⟨fun y=>F y∨y=l.blk,less σ b,⟨fun i bk hi=>?_,fun i i' l1 l2 h1 h2 he=>?_,fun i l1 h1=>?_,fun y hy=>?_⟩,h.glob.mono hF,h.le,h.frame,fun y hy=>?_,h.size,h.dfr,fun u v hv=>?_,fun i bk hi=>?_,fun i l1 h1 h2 h3=>?_,h.nxm,h.xm,fun y hy=>.inl (h.sub y hy)⟩
 ·rw[q0I] at hi
  split at hi
  ·rename_i he
   subst he
   obtain rfl:=Option.some.inj hi
   exact .inl ⟨rfl,if_pos rfl⟩
  ·rename_i he
   simp only[forgetH,q2d,Option.map_eq_some_iff] at hi
   obtain⟨blk0,hi,rfl⟩:=hi
   have hib:i≠b:=fun e=>he e.symm
   exact(h.heap.blk i blk0 hi).forget (·== b) hF hσ (fun l hl=>by rw[hσn i hib];exact hl) (fun hl=>by rw[hσn i hib];exact hl) (fun _ _=>rfl)
 ·exact h.heap.inj i i' l1 l2 (hσ' i l1 h1).2 (hσ' i' l2 h2).2 he
 ·obtain⟨hi,h1⟩:=hσ' i l1 h1
  obtain⟨p1,p2,p3,p4⟩:=h.heap.own i l1 h1
  refine⟨p1,fun hy=>?_,p3,p4⟩
  rcases hy with hy|hy
  ·exact p2 hy
  ·exact hi (h.heap.inj i b l1 l h1 hl hy)
 ·rcases hy with hy|hy
  ·exact h.heap.fro y hy
  ·rw[hy];exact o4
 ·rcases hy with hy|hy
  ·exact h.frz y hy
  ·rw[hy];exact .inr hbase
 ·rw[q0I] at hv
  split at hv
  ·rename_i he
   subst he
   obtain rfl:=Option.some.inj hv
   exact hx hbase
  ·simp only[forgetR] at hv
   rw[q29,Option.map_eq_some_iff] at hv
   obtain⟨v0,h1,rfl⟩:=hv
   exact(h.rho u v0 h1).forget hF hσ
 ·rw[q0I] at hi
  split at hi
  ·rename_i he;subst he;exact h.dom _ _ hblk
  ·simp only[forgetH,q2d,Option.map_eq_some_iff] at hi
   obtain⟨blk0,hi,rfl⟩:=hi
   exact h.dom i blk0 hi
 ·rw[hσn i (by omega)]
  exact h.stab i l1 h1 h2 h3
theorem StRel.freezeV{s:S}{a:Act}{w:World}{F:Nat→Prop}{σ:Nat→Option Loc}(t:Nat)(h:StRel K X base w0 F0 m0 σ0 n s a w F σ):∃ F' σ',StRel K X base w0 F0 m0 σ0 n (frzV m0 t s) a w F' σ':=by
 unfold frzV
 split
 ·rename_i b nn hb
  split
  case h_2=>exact⟨F,σ,h⟩
  rename_i c k rows hb'
  split
  case isFalse=>exact⟨F,σ,h⟩
  rename_i hc
  obtain⟨hn,h0,hm⟩:=hc
  have hl:∃ l,σ b=some l:=by
   rcases h.heap.blk b _ hb' with⟨hz,_⟩|⟨l,_,_,_,_,hl,_⟩|⟨l,_,_,hl,_⟩
   ·simp [Blk.n] at hz;rw[hz] at hn;simp at hn;omega
   ·exact⟨l,hl⟩
   ·exact⟨l,hl⟩
  obtain⟨l,hl⟩:=hl
  exact h.gone hl hb' hm fun hbase=>z6a h.heap hb' hl hn h0 hbase (h.rho t _ hb)
 ·rename_i b hb
  split
  case h_2=>exact⟨F,σ,h⟩
  rename_i k row hb'
  split
  case h_2=>exact⟨F,σ,h⟩
  rename_i ds hds
  split
  case isFalse=>exact⟨F,σ,h⟩
  rename_i hc
  obtain⟨hm,h0⟩:=hc
  have hr:=h.rho t _ hb
  generalize hvv:a.tmps.getD t undef=vv at hr
  cases hr with
  |ptr _ _ _ l hl=>
   refine h.gone hl hb' hm fun hbase=>?_
   rw[hvv]
   obtain⟨e1,e2,e3⟩:=q2x h.heap hb' hl (i:=0) (row:=row) (by simp [Blk.row?])
   obtain⟨d1,d2⟩:=q0l hds
   refine .d _ _ _ ?_
   have hin:col (fun x=>F x∨x=l.blk) base (row.all V.new1) l.blk:=by
    cases row.all V.new1
    ·exact .inr rfl
    ·exact⟨.inr rfl,hbase⟩
   have cells:∀ j d,ds[j]? = some d→∃ x u,row[j]? = some x∧w.cell? ⟨l.blk,j,none⟩=some u∧RepV w F base σ u x∧asD x=some d:=by
    intro j d hd
    obtain⟨x,hx,hxd⟩:=q4R hds hd
    obtain⟨u,hu,_,hR⟩:=e3 j x hx
    exact⟨x,u,hx,by simpa using hu,hR,hxd⟩
   have:=RepD.ptr (w:=w) (F:=col (fun x=>F x∨x=l.blk) base (row.all V.new1)) l.blk (0*l.k+0) ds (fun j=>(w.cell? ⟨l.blk,j,none⟩).getD undef) hin (fun j d hd=>?_) (fun j d hd=>?_)
   ·exact this
   ·obtain⟨x,u,_,hu,_,_⟩:=cells j d hd
    simp only[Nat.zero_mul,Nat.zero_add]
    rw[hu];rfl
   ·obtain⟨x,u,hx,hu,hR,hxd⟩:=cells j d hd
    rw[hu]
    simp only[Option.getD_some]
    obtain⟨r1,r2⟩:=q5f hxd hR
    cases hnew:row.all V.new1 with
    |false=>exact r1.mono fun y hy=>⟨.inl hy,rfl⟩
    |true=>
     rw[List.all_eq_true] at hnew
     exact(r2 (hnew x (List.mem_of_getElem? hx))).mono fun y hy=>⟨⟨.inl hy.1,hy.2⟩,rfl⟩
 ·exact⟨F,σ,h⟩
theorem StRel.freezeL{a:Act}{w:World}:∀(l:List Nat){s:S}{F:Nat→Prop}{σ:Nat→Option Loc},StRel K X base w0 F0 m0 σ0 n s a w F σ→∃ F' σ',StRel K X base w0 F0 m0 σ0 n (frzL m0 l s) a w F' σ'
 |[],s,F,σ,h=>⟨F,σ,h⟩
 |t :: l,s,F,σ,h=>by
  obtain⟨F',σ',h'⟩:=h.freezeV t
  exact StRel.freezeL l h'
end Go.Vm
end

section
namespace Go.Vm
open Go.RowKit
def q3R(ops:Array Oper)(t:Nat)(b:Bool)(o:Oper):Bool:=match o.guard with
 |some (j,b')=>b'==b&&(match ops[j]? with
  |some q=>q.dst==some t
  |none=>false)
 |none=>false
def inR(lo n i:Nat):Bool:=decide (lo≤i)&&decide (i<lo+n)
def q88(ops:Array Oper)(t:Nat)(b:Bool)(lo n:Nat):Array Oper:=ops.mapIdx fun i o=>if inR lo n i&&q3R ops t b o then { o with guard:=none } else o
def q9e(ops:Array Oper)(t:Nat)(b:Bool)(k:Nat)(g:Seg):Bool:=(List.range' k g.cnt).all fun i=>match ops[i]? with
 |some o=>q3R ops t b o&&o.dst != some t&&(match o.dst with|some d=>!(q3O g).contains d|none=>true)
 |none=>true
def q55(B:Nat→Nat→Bool)(P:Program)(ops:Array Oper)(n k:Nat)(p:Pre)(g:Seg):Bool:=match p.sg with
 |none=>q8m B P ops n (List.range' k g.cnt) g
 |some (t,b)=>q8m B P (q88 ops t b k g.cnt) n (List.range' k g.cnt) g&&q9e ops t b k g
def q3l(P:Program)(ops:Array Oper)(n:Nat):Nat→List (Pre×Seg)→Bool
 |k,[]=>k==ops.size
 |k,(p,g) :: r=>q55 (fun i j=>decide (i<j)) P ops n k p g&&q3l P ops n (k+g.cnt) r
def q1B(P:Program)(ops:Array Oper)(n:Nat)(tab:List (List Nat)):Nat→List (Pre×Seg)→Bool
 |k,[]=>k==ops.size
 |k,(p,g) :: r=>q55 (tabB tab) P ops n k p g&&((List.range' k (ops.size - k)).all fun i=>(List.range k).all fun j=>tabB tab j i)&&q1B P ops n tab (k+g.cnt) r
def j0v:List (Pre×Seg)→List (List Nat)
 |(_,g) :: _=>g.aux
 |[]=>[]
def q6c(P:Program)(ops:Array Oper)(n:Nat)(gs:List (Pre×Seg)):Bool:=q1B P ops n (j0v gs) 0 gs&&z4M ops.toList (j0v gs)
variable {P:Program}{K:Cx}{ops:Array Oper}{n:Nat}{X:Nat→Nat→Prop}{base:Nat}{w0:World}{F0:Nat→Prop}{m0:Nat}{σ0:Nat→Option Loc}{Q:Exit→Act→World→Prop}
theorem q6l(t:Nat)(b:Bool)(lo n i:Nat):(q88 ops t b lo n)[i]? = (ops[i]?).map fun o=>if inR lo n i&&q3R ops t b o then { o with guard:=none } else o:=by
 unfold q88
 rw[Array.getElem?_mapIdx]
theorem z4N(t:Nat)(b:Bool)(lo n i:Nat):((q88 ops t b lo n)[i]?).bind (·.dst)=(ops[i]?).bind (·.dst):=by
 rw[q6l]
 cases ops[i]? with
 |none=>rfl
 |some o=>simp only[Option.map_some,Option.bind_some];split <;> rfl
theorem q87(t:Nat)(b:Bool)(lo n:Nat)(tmps:Array Value):yielded (q88 ops t b lo n) tmps=yielded ops tmps:=by
 funext j
 unfold yielded
 rw[z4N]
def q7v(t:Nat)(x:Bool)(a:Act):Prop:=a.tmps[t]? = some (.bool x)
theorem q5Q{t:Nat}{b x:Bool}{a:Act}{o:Oper}(hg:q3R ops t b o=true)(ht:q7v t x a):Region.wanted o (yielded ops a.tmps)=(x==b):=by
 unfold q3R at hg
 split at hg
 ·rename_i j b' hgd
  simp only[Bool.and_eq_true,beq_iff_eq] at hg
  obtain⟨rfl,hg⟩:=hg
  split at hg
  ·rename_i q hq
   have hd:q.dst=some t:=by simpa using hg
   have hy:yielded ops a.tmps j=some x:=by
    unfold yielded
    rw[hq]
    simp only[Option.bind_some,hd]
    rw[ht]
   unfold Region.wanted
   rw[hgd]
   simp only[hy]
   cases x <;> cases b' <;> rfl
  ·cases hg
 ·cases hg
theorem z1p{t:Nat}{b:Bool}{lo n' i:Nat}{a:Act}{w:World}{Kn:Act→World→Prop}(ht:q7v t b a)(h:wpOp P (q88 ops t b lo n') Q i Kn a w):wpOp P ops Q i Kn a w:=by
 unfold wpOp at h ⊢
 rw[q6l,q87] at h
 cases ho:ops[i]? with
 |none=>rw[ho] at h;exact h
 |some o=>
  rw[ho] at h
  simp only[Option.map_some] at h ⊢
  by_cases hc:(inR lo n' i&&q3R ops t b o)=true
  ·rw[if_pos hc] at h
   simp only[Bool.and_eq_true] at hc
   rw[if_pos (by rw[q5Q hc.2 ht];simp)]
   rw[if_pos (by rfl)] at h
   exact h
  ·rw[if_neg hc] at h
   exact h
theorem z4P{t:Nat}{b x:Bool}{i:Nat}{a:Act}{w:World}{Kn:Act→World→Prop}{o:Oper}(ho:ops[i]? = some o)(hg:q3R ops t b o=true)(ht:q7v t x a)(hx:x≠b)(h:Kn (a.put o.dst undef) w):wpOp P ops Q i Kn a w:=by
 unfold wpOp
 rw[ho]
 simp only
 rw[if_neg (by rw[q5Q hg ht];simpa using hx)]
 exact h
theorem q6m{c:Piece}{g:Seg}{s':S}{D:Nat→Prop}{a:Act}{w:World}{is:List Nat}{news:List Blk}{l:List (Nat×V)}(hf:Full c is g s' news l)(hs:Stage c g s' D a w){t:Nat}{x cc:Bool}(hl:look c.s.rho t=some (.d cc (.bool x)))(hno:∀ r∈c.R,r.o.dst≠some t):q7v t x a:=by
 have key:∀ {F:Nat→Prop} {σ:Nat→Option Loc},RepV w F c.base σ (a.tmps.getD t undef) (.d cc (.bool x))→q7v t x a:=by
  intro F σ h
  have hv:=h.bool_inv
  unfold q7v
  rw[Array.getD_eq_getD_getElem?] at hv
  cases ht:a.tmps[t]? with
  |none=>rw[ht] at hv;simp [undef] at hv
  |some u=>rw[ht] at hv;simp only[Option.getD_some] at hv;rw[hv]
 rcases hs with⟨_,F,σ,hi⟩|⟨_,F,σ,hw⟩
 ·exact key (hi.old t _ hl fun r hr _=>hno r hr)
 ·refine key (hw.lold t _ ?_ fun r hr _=>hno r hr)
  have hnm:t∉c.mds:=fun hm=>by
   obtain⟨r,hr,hd,_⟩:=hf.ok.covers t hm
   exact hno r hr hd
  simp only[q2g]
  rw[q29,hf.ok.old t hnm,hl]
  rfl
theorem StRel.truth{s:S}{a:Act}{w:World}{F:Nat→Prop}{σ:Nat→Option Loc}(h:StRel K X base w0 F0 m0 σ0 n s a w F σ){t:Nat}{x cc:Bool}(hl:look s.rho t=some (.d cc (.bool x))):q7v t x a:=by
 have hv:=(h.rho t _ hl).bool_inv
 unfold q7v
 rw[Array.getD_eq_getD_getElem?] at hv
 cases ht:a.tmps[t]? with
 |none=>rw[ht] at hv;simp [undef] at hv
 |some u=>rw[ht] at hv;simp only[Option.getD_some] at hv;rw[hv]
def Skip(K:Cx)(X:Nat→Nat→Prop)(base:Nat)(w0:World)(F0:Nat→Prop)(m0:Nat)(σ0:Nat→Option Loc)(n:Nat)(t:Nat)(x:Bool)(s:S)(a:Act)(w:World):Prop:=q7v t x a∧∃ F σ,StRel K X base w0 F0 m0 σ0 n s a w F σ
theorem z5o{a:Act}{d:Option Nat}{v:Value}{u:Nat}(h:d≠some u):(a.put d v).tmps[u]? = a.tmps[u]?:=by
 cases d with
 |none=>rfl
 |some d=>
  simp only[Act.put]
  exact Array.getElem?_setIfInBounds_ne (fun e=>h (by rw[e]))
theorem Skip.step{t:Nat}{x:Bool}{s:S}{keep:List Nat}{a:Act}{w:World}(h:Skip K X base w0 F0 m0 σ0 n t x (q21 s keep) a w){d:Option Nat}(h1:d≠some t)(h2:∀ u,d=some u→u∉keep):Skip K X base w0 F0 m0 σ0 n t x (q21 s keep) (a.put d undef) w:=by
 obtain⟨ht,F,σ,hs⟩:=h
 refine⟨?_,F,σ,⟨hs.heap,hs.glob,hs.le,hs.frame,hs.frz,by rw[q4H];exact hs.size,by rw[q3f];exact hs.dfr,fun u v hv=>?_,hs.dom,hs.stab,hs.nxm,hs.xm,hs.sub⟩⟩
 ·unfold q7v
  rw[z5o h1]
  exact ht
 ·have hu:u∈keep:=(q0Q _ _ _ _ hv).1
  have hd:d≠some u:=fun e=>h2 u e hu
  have:=hs.rho u v hv
  rw[Array.getD_eq_getD_getElem?] at this ⊢
  rw[z5o hd]
  exact this
theorem StRel.skip{s:S}{a:Act}{w:World}{F:Nat→Prop}{σ:Nat→Option Loc}(h:StRel K X base w0 F0 m0 σ0 n s a w F σ)(keep:List Nat):StRel K X base w0 F0 m0 σ0 n (q21 s keep) a w F σ:=
 ⟨h.heap,h.glob,h.le,h.frame,h.frz,h.size,h.dfr,fun t v hv=>h.rho t v (q0Q _ _ _ _ hv).2,h.dom,h.stab,h.nxm,h.xm,h.sub⟩
theorem q8l{t:Nat}{b:Bool}{k:Nat}{g:Seg}(h:q9e ops t b k g=true){i:Nat}(h1:k≤i)(h2:i<k+g.cnt){o:Oper}(ho:ops[i]? = some o):q3R ops t b o=true∧o.dst≠some t∧∀ u,o.dst=some u→u∉q3O g:=by
 unfold q9e at h
 rw[List.all_eq_true] at h
 have:=h i (by rw[List.mem_range'_1];omega)
 rw[ho] at this
 simp only[Bool.and_eq_true,bne_iff_ne,ne_eq] at this
 refine⟨this.1.1,this.1.2,fun u hu=>?_⟩
 have h3:=this.2
 rw[hu] at h3
 simpa using h3
theorem q9d{B:Nat→Nat→Bool}{t:Nat}{b:Bool}{k:Nat}{g:Seg}{R:List Rec}(hs:SegOk B P (q88 ops t b k g.cnt) n (List.range' k g.cnt) g R)(h:q9e ops t b k g=true):∀ r∈R,r.o.dst≠some t:=by
 intro r hr
 have hi:=(q02 hs r.i).1 ⟨r,hr,rfl⟩
 rw[List.mem_range'_1] at hi
 obtain⟨later,done,_,hg⟩:=((q3J _ [] R .nil hs.recs).1).split hr
 cases hg with
 |cons _ _ _ hop _ _ _=>
  rw[q6l] at hop
  cases ho:ops[r.i]? with
  |none=>rw[ho] at hop;cases hop
  |some o=>
   rw[ho] at hop
   simp only[Option.map_some,Option.some.injEq] at hop
   have:=(q8l h hi.1 hi.2 ho).2.1
   rw[←hop]
   split <;> exact this
theorem z1S:∀(gs:List (Pre×Seg))(k:Nat),q3l P ops n k gs=true→k≤ops.size
 |[],k,h=>by simp only[q3l,beq_iff_eq] at h;omega
 |(p,g) :: gs,k,h=>by
  simp only[q3l,Bool.and_eq_true] at h
  have:=z1S gs _ h.2
  omega
theorem q7H{t:Nat}{b x:Bool}{k:Nat}{g:Seg}{s:S}(hk:q9e ops t b k g=true)(hx:x≠b)(hsz:k+g.cnt≤ops.size){ys:List Nat}(hys:∀ a w F σ,StRel K X base w0 F0 m0 σ0 n (q21 s (q3O g)) a w F σ→wpOps P ops Q ys a w) :
  ∀(m j:Nat) (a:Act) (w:World),j+m=g.cnt→Skip K X base w0 F0 m0 σ0 n t x (q21 s (q3O g)) a w→wpOps P ops Q (List.range' (k+j) m++ys) a w
 |0,j,a,w,hj,⟨_,F,σ,hs⟩=>by simpa using hys a w F σ hs
 |m+1,j,a,w,hj,hs=>by
  rw[List.range'_succ,List.cons_append,wpOps_cons]
  have hlt:k+j<ops.size:=by omega
  obtain⟨h1,h2,h3⟩:=q8l hk (i:=k+j) (by omega) (by omega) (Array.getElem?_eq_getElem hlt)
  exact z4P (Array.getElem?_eq_getElem hlt) h1 hs.1 hx (q7H hk hx hsz hys m (j+1) _ w (by omega) (hs.step h2 h3))
theorem q6k(hK:K.Sound P):∀(gs:List (Pre×Seg))(k:Nat)(s s':S)(a:Act)(w:World)(F:Nat→Prop)(σ:Nat→Option Loc),q3l P ops n k gs=true→q06 m0 K s gs=some s'→StRel K X base w0 F0 m0 σ0 n s a w F σ→
  (∀ a w F σ,StRel K X base w0 F0 m0 σ0 n s' a w F σ→Q .normal a w)→wpOps P ops Q (List.range' k (ops.size - k)) a w
 |[],k,s,s',a,w,F,σ,hok,hev,hst,hQ=>by
  simp only[q3l,beq_iff_eq] at hok
  subst hok
  obtain rfl:=Option.some.inj hev
  simp only[Nat.sub_self,List.range'_zero,wpOps]
  exact hQ _ _ _ _ hst
 |(p,g) :: gs,k,s,s',a,w,F,σ,hok,hev,hst,hQ=>by
  simp only[q3l,Bool.and_eq_true] at hok
  obtain⟨hok1,hok2⟩:=hok
  have hk2:=z1S gs _ hok2
  have hsplit:List.range' k (ops.size - k)=List.range' (k+0) g.cnt++List.range' (k+g.cnt) (ops.size - (k+g.cnt)):=by
   have:ops.size - k=g.cnt+(ops.size - (k+g.cnt)):=by omega
   rw[this,←List.range'_append_1]
   simp
  obtain⟨F,σ,hst⟩:=hst.freezeL p.fz
  simp only[q06] at hev
  generalize frzL m0 p.fz s=s0 at hst hev
  cases hg:q3e K s0 p g with
  |none=>simp [hg] at hev
  |some s2=>
   simp only[hg] at hev
   have rest:∀ a w F σ,StRel K X base w0 F0 m0 σ0 n s2 a w F σ→wpOps P ops Q (List.range' (k+g.cnt) (ops.size - (k+g.cnt))) a w:=fun a w F σ hst2=>q6k hK gs (k+g.cnt) s2 s' a w F σ hok2 hev hst2 hQ
   have start:(fun i=>k≤i∧i<k+0)=fun _=>False:=by
    funext i
    simp only[eq_iff_iff,iff_false]
    omega
   rw[hsplit]
   unfold q55 at hok1
   unfold q3e at hg
   cases hsg:p.sg with
   |none=>
    simp only[hsg] at hok1 hg
    obtain⟨R,s1,T,news,l,hf⟩:=q3S (X:=X) (base:=base) (w0:=w0) (F0:=F0) (m0:=m0) (σ0:=σ0) hok1 hK hg hst.dom hst.nxm hst.xm
    refine j0b hf rfl (fun _ _ _ _ _ _ h=>h) rest g.cnt 0 a w (by omega) ?_
    rw[start]
    exact q1a hf.traced hst
   |some q=>
    obtain⟨t,b⟩:=q
    simp only[hsg,Bool.and_eq_true] at hok1 hg
    obtain⟨hk1,hk3⟩:=hok1
    split at hg
    case h_2=>cases hg
    rename_i cc x hl
    split at hg
    ·rename_i hxb
     subst hxb
     obtain⟨R,s1,T,news,l,hf⟩:=q3S (X:=X) (base:=base) (w0:=w0) (F0:=F0) (m0:=m0) (σ0:=σ0) hk1 hK hg hst.dom hst.nxm hst.xm
     refine j0b hf rfl (fun D a w i Kn hs h=>z1p (q6m hf hs hl (q9d hf.seg hk3)) h) rest g.cnt 0 a w (by omega) ?_
     rw[start]
     exact q1a hf.traced hst
    ·rename_i hxb
     obtain rfl:=Option.some.inj hg
     exact q7H hk3 hxb hk2 rest g.cnt 0 a w (by omega) ⟨hst.truth hl,F,σ,hst.skip _⟩
theorem q84{id:Nat}{gs:List (Pre×Seg)}{s s':S}{a:Act}{w:World}{F:Nat→Prop}{σ:Nat→Option Loc}(hK:K.Sound P)(hok:q3l P ops n 0 gs=true)(hev:q06 m0 K s gs=some s')(hst:StRel K X base w0 F0 m0 σ0 n s a w F σ)
  (hQ:∀ a w F σ,StRel K X base w0 F0 m0 σ0 n s' a w F σ→Q .normal a w):(Code.region id ops false).wp P Q a w:=by
 refine wp_region ?_
 have:=q6k (Q:=Q) hK gs 0 s s' a w F σ hok hev hst hQ
 rw[List.range_eq_range']
 simpa using this
theorem q9u{tab:List (List Nat)}:∀(gs:List (Pre×Seg))(k:Nat),q1B P ops n tab k gs=true→k≤ops.size
 |[],k,h=>by simp only[q1B,beq_iff_eq] at h;omega
 |(p,g) :: gs,k,h=>by
  simp only[q1B,Bool.and_eq_true] at h
  have:=q9u gs _ h.2
  omega
theorem q8V(hK:K.Sound P){tab:List (List Nat)}(ht:Tab ops tab):∀(gs:List (Pre×Seg))(k:Nat)(s s':S),q1B P ops n tab k gs=true→q06 m0 K s gs=some s'→(∀ a w F σ,StRel K X base w0 F0 m0 σ0 n s' a w F σ→Q .normal a w)→
  ∀(fuel:Nat) (listed:Array Bool) (a:Act) (w:World) (F:Nat→Prop) (σ:Nat→Option Loc),listed.size=ops.size→q0D listed ops.size≤fuel→(∀ i,i<k→listed.getD i false=true)→(∀ i,k≤i→listed.getD i false=false)→StRel K X base w0 F0 m0 σ0 n s a w F σ→wpAny P .any ops Q fuel listed a w
 |[],k,s,s',hok,hev,hQ,fuel,listed,a,w,F,σ,hsz,hfuel,hlo,hhi,hst=>by
  simp only[q1B,beq_iff_eq] at hok
  subst hok
  obtain rfl:=Option.some.inj hev
  have hr:Region.ready .any ops listed=[]:=by
   cases hr:Region.ready .any ops listed with
   |nil=>rfl
   |cons i t=>
    have:i∈Region.ready .any ops listed:=by rw[hr];simp
    obtain⟨h1,h2,_⟩:=j3V.1 this
    rw[q7t listed i hsz h1,hlo i h1] at h2
    cases h2
  cases fuel with
  |zero=>exact⟨hr,hQ _ _ _ _ hst⟩
  |succ fuel=>exact⟨fun _=>hQ _ _ _ _ hst,fun i hi=>by rw[hr] at hi;simp at hi⟩
 |(p,g) :: gs,k,s,s',hok,hev,hQ,fuel,listed,a,w,F,σ,hsz,hfuel,hlo,hhi,hst=>by
  simp only[q1B,Bool.and_eq_true] at hok
  obtain⟨⟨hok1,hok2⟩,hok3⟩:=hok
  have hkc:=q9u gs _ hok3
  obtain⟨F,σ,hst⟩:=hst.freezeL p.fz
  simp only[q06] at hev
  generalize frzL m0 p.fz s=s0 at hst hev
  cases hg:q3e K s0 p g with
  |none=>simp [hg] at hev
  |some s2=>
   simp only[hg] at hev
   have rest:∀ fuel listed a w F σ,listed.size=ops.size→q0D listed ops.size≤fuel→(∀ i,i<k+g.cnt→listed.getD i false=true)→(∀ i,k+g.cnt≤i→listed.getD i false=false)→StRel K X base w0 F0 m0 σ0 n s2 a w F σ→wpAny P .any ops Q fuel listed a w:=
    fun fuel listed a w F σ h1 h2 h3 h4 hst2=>q8V hK ht gs (k+g.cnt) s2 s' hok3 hev hQ fuel listed a w F σ h1 h2 h3 h4 hst2
   have hbar:∀ i,k+g.cnt≤i→i<ops.size→∀ j,j<k+g.cnt→tabB tab j i=true:=by
    intro i h1 h2 j hj
    cases gs with
    |nil=>
     simp only[q1B,beq_iff_eq] at hok3
     omega
    |cons g2 gs2=>
     obtain⟨p2,g2⟩:=g2
     simp only[q1B,Bool.and_eq_true,List.all_eq_true] at hok3
     exact hok3.1.2 i (by rw[List.mem_range'_1];omega) j (by simpa using hj)
   have hdn:∀ i,i<ops.size→listed.getD i false=true→∀ j,tabB tab j i=true→listed.getD j false=true:=by
    intro i hi hil j hj
    have hik:i<k:=by
     rcases Nat.lt_or_ge i k with h|h
     ·exact h
     ·rw[hhi i h] at hil;cases hil
    have hclo:∀ i,i<ops.size→∀ j,tabB tab j i=true→j<i:=by
     intro i
     induction i using Nat.strongRecOn with
     |_ i ih=>
      intro hi j hj
      simp only[tabB,List.contains_eq_mem,decide_eq_true_eq] at hj
      obtain⟨e,he,h4⟩:=ht.clo i ops[i] (by simp [hi]) j hj
      have hei:=ht.lt i ops[i] (by simp [hi]) e he
      rcases h4 with rfl|h4
      ·exact hei
      ·have:=ih e hei (by omega) j (by simpa [tabB] using h4)
       omega
    exact hlo j (by have:=hclo i hi j hj;omega)
   have hh:∀ i,k+g.cnt≤i→listed.getD i false=false:=fun i hi=>hhi i (by omega)
   unfold q55 at hok1
   unfold q3e at hg
   cases hsg:p.sg with
   |none=>
    simp only[hsg] at hok1 hg
    obtain⟨R,s1,T,news,l,hf⟩:=q3S (X:=X) (base:=base) (w0:=w0) (F0:=F0) (m0:=m0) (σ0:=σ0) hok1 hK hg hst.dom hst.nxm hst.xm
    refine q7j ht hf (fun _ _ _ _ _ _ h=>h) rfl hbar hkc rest fuel listed a w hsz hfuel hlo hh hdn ?_
    refine(q1a (P:=P) (ops:=ops) (B:=tabB tab) (R:=R) (s':=s2) hf.traced hst).congr (fun r hr=>?_)
    have:=(q02 hf.seg r.i).1 ⟨r,hr,rfl⟩
    rw[List.mem_range'_1] at this
    rw[hhi r.i this.1]
    simp
   |some q=>
    obtain⟨t,b⟩:=q
    simp only[hsg,Bool.and_eq_true] at hok1 hg
    obtain⟨hk1,hk3⟩:=hok1
    split at hg
    case h_2=>cases hg
    rename_i cc x hl
    split at hg
    ·rename_i hxb
     subst hxb
     obtain⟨R,s1,T,news,l,hf⟩:=q3S (X:=X) (base:=base) (w0:=w0) (F0:=F0) (m0:=m0) (σ0:=σ0) hk1 hK hg hst.dom hst.nxm hst.xm
     refine q7j ht hf (fun D a w i Kn hs h=>z1p (q6m hf hs hl (q9d hf.seg hk3)) h) rfl hbar hkc rest fuel listed a w hsz hfuel hlo hh hdn ?_
     refine(q1a (P:=P) (ops:=q88 ops t x k g.cnt) (B:=tabB tab) (R:=R) (s':=s2) hf.traced hst).congr (fun r hr=>?_)
     have:=(q02 hf.seg r.i).1 ⟨r,hr,rfl⟩
     rw[List.mem_range'_1] at this
     rw[hhi r.i this.1]
     simp
    ·rename_i hxb
     obtain rfl:=Option.some.inj hg
     refine q8c (cnt:=g.cnt) ht (fun _=>Skip K X base w0 F0 m0 σ0 n t x (q21 s0 (q3O g))) (fun D a w i Kn hi1 hi2 _ _ _ hs hKn=>?_) hbar hkc (fun fuel listed a w q1 q2 q3 q4 ⟨_,_,_,F,σ,hs⟩=>rest fuel listed a w F σ q1 q2 q3 q4 hs) fuel listed a w hsz hfuel hlo hh hdn ⟨hst.truth hl,F,σ,hst.skip _⟩
     have hlt:i<ops.size:=by omega
     obtain⟨h1,h2,h3⟩:=q8l hk3 hi1 hi2 (Array.getElem?_eq_getElem hlt)
     exact z4P (Array.getElem?_eq_getElem hlt) h1 hs.1 hxb (hKn _ w (hs.step h2 h3))
theorem q8K{id:Nat}{gs:List (Pre×Seg)}{s s':S}{a:Act}{w:World}{F:Nat→Prop}{σ:Nat→Option Loc}(hm:P.follows .mixedOrders=true)(hK:K.Sound P)(hok:q6c P ops n gs=true)(hev:q06 m0 K s gs=some s')(hst:StRel K X base w0 F0 m0 σ0 n s a w F σ)
  (hQ:∀ a w F σ,StRel K X base w0 F0 m0 σ0 n s' a w F σ→Q .normal a w):(Code.region id ops true).wp P Q a w:=by
 simp only[q6c,Bool.and_eq_true] at hok
 refine wp_region_any hm ?_
 have hno:∀ i,(Array.replicate ops.size false).getD i false=false:=by
  intro i
  simp only[Array.getD_eq_getD_getElem?,Array.getElem?_replicate]
  split <;> rfl
 refine q8V hK (q7D hok.2) gs 0 s s' hok.1 hev hQ ops.size _ a _ F σ (by simp) ?_ (fun i hi=>by omega) (fun i _=>hno i) (hst.drawn _)
 unfold q0D
 refine Nat.le_trans (List.length_filter_le _ _) ?_
 simp
end Go.Vm
end

section
namespace Go.Vm
open Go.RowKit
variable {P:Program}{K:Cx}{n:Nat}{X:Nat→Nat→Prop}{base:Nat}{w0:World}{F0:Nat→Prop}{m0:Nat}{σ0:Nat→Option Loc}{ops:Array Oper}{Q:Exit→Act→World→Prop}
def q7X(g:Seg)(R:List Rec)(is:List Nat):List Nat:=is.filter fun i=>R.any fun r=>r.i==i&&q23 g.late r
def wrIx(R:List Rec):Option Nat:=(R.find? (·.isWr)).map (·.i)
def j0A(g:Seg)(R:List Rec)(pend:List Nat)(mds:List Nat)(R':List Rec):Bool:=
 R'.all (fun r=>!pend.contains r.i||R.any fun q=>decide (q.i=r.i)&&q23 g.late q&&decide (r.x=q.x)&&r.ch.isEmpty&&!r.isWr&&!r.isMk)&&g.late.all (E.free mds) &&
 R.all fun q=>!q23 g.late q||match q.o.dst with
  |some d=>!(g.lets.map (·.1)).contains d&&!g.keep.contains d
  |none=>true
def j0m(tab:List (List Nat))(size k j:Nat):Bool:=(List.range' k (size - k)).all fun x=>(tab.getD x []).contains j
def q1s(P:Program)(ops:Array Oper)(n:Nat)(tab:List (List Nat)):List Nat→Nat→List Seg→Bool
 |_,_,[]=>false
 |L,k,[g]=>q8m (tabB tab) P ops n (L++List.range' k g.cnt) g&&(k+g.cnt==ops.size)
 |L,k,g :: g' :: gs=>q8m (tabB tab) P ops n (L++List.range' k g.cnt) g&&match recs (tabB tab) P ops (g.mks.map (·.1)) g.ef n (L++List.range' k g.cnt) [] with
  |none=>false
  |some R=>match wrIx R with
   |none=>(L++List.range' k g.cnt).all (j0m tab ops.size (k+g.cnt))&&q1s P ops n tab [] (k+g.cnt) (g' :: gs)
   |some wi=>j0m tab ops.size (k+g.cnt) wi&&(match recs (tabB tab) P ops (g'.mks.map (·.1)) g'.ef n (q7X g R (L++List.range' k g.cnt)++List.range' (k+g.cnt) g'.cnt) [] with
    |some R'=>j0A g R (q7X g R (L++List.range' k g.cnt)) (g'.mks.map (·.1)) R'
    |none=>false)&&q1s P ops n tab (q7X g R (L++List.range' k g.cnt)) (k+g.cnt) (g' :: gs)
def q6b(P:Program)(ops:Array Oper)(n:Nat)(gs:List Seg):Bool:=q1s P ops n (z2L gs) [] 0 gs&&z4M ops.toList (z2L gs)
theorem j5N{B:Nat→Nat→Bool}{is is':List Nat}{g g':Seg}{R R':List Rec}{s s1 s' s1' s'':S}{T T':Tr}{news news':List Blk}{l l':List (Nat×V)}{D:Nat→Prop}{a:Act}{w:World}{F:Nat→Prop}{σ:Nat→Option Loc}
  (h:Full (q1N P K ops B n R g s s1 T X base w0 F0 m0 σ0) is g s' news l) (h':Full (q1N P K ops B n R' g' s' s1' T' X base w0 F0 m0 σ0) is' g' s'' news' l')
  (hsame:∀ e∈g.late,ev K s' e=ev K s1 e)
  (hlink:∀ r∈R',D r.i→∃ q∈R,q.i=r.i∧q23 g.late q=true∧r.x=q.x∧r.ch=[]∧r.isWr=false∧r.isMk=false)
  (hfree:∀ e∈g.late,e.free (g'.mks.map (·.1))=true)
  (hsl:∀ q∈R,q23 g.late q=true→∀ d,q.o.dst=some d→look s'.rho d=none)
  (hW:Wrt (q1N P K ops B n R g s s1 T X base w0 F0 m0 σ0) g s' D a w F σ):Inv (q1N P K ops B n R' g' s' s1' T' X base w0 F0 m0 σ0) D a w F σ:=by
 have hnx:s'.nx≤s1'.nx:=h'.nx
 have oper:∀ r∈R',∀ q∈R,q.i=r.i→q.o=r.o:=by
  intro r hr q hq he
  have h1:=(h'.ok.good.split hr)
  have h2:=(h.ok.good.split hq)
  obtain⟨_,_,_,g1⟩:=h1
  obtain⟨_,_,_,g2⟩:=h2
  cases g1 with
  |cons _ _ _ e1 _ _ _=>
   cases g2 with
   |cons _ _ _ e2 _ _ _=>
    have e1':ops[r.i]? = some r.o:=e1
    have e2':ops[q.i]? = some q.o:=e2
    rw[he,e1'] at e2'
    exact(Option.some.inj e2').symm
 have nomk:∀ r∈R',D r.i→∀ d,r.o.dst=some d→d∉g'.mks.map (·.1):=by
  intro r hr hD d hd hm
  obtain⟨r2,hr2,hd2,hm2⟩:=h'.ok.covers d hm
  obtain⟨_,_,_,_,_,_,_,hmk⟩:=hlink r hr hD
  by_cases hri:r2.i=r.i
  ·obtain rfl:=h'.ok.good.inj r2 hr2 r hr hri
   rw[hmk] at hm2;cases hm2
  ·exact absurd hd (q4j h'.ok hr2 hr hri hd2)
 refine⟨⟨hW.heap.blk,hW.heap.inj,fun b l hb=>?_,hW.heap.fro⟩,hW.glob,hW.le,hW.frame,hW.frz,hW.size,hW.dfr,fun t v hv hn=>?_,fun r hr hD d hd hwr=>?_,fun d m v n0 nw hT ⟨r,hr,hD,hd⟩=>?_,fun d m v n0 nw hT hn b h1 h2=>?_,hW.stab,hW.sub⟩
 ·obtain⟨o1,o2⟩:=hW.heap.own b l hb
  exact⟨show b<s1'.nx by omega,o2⟩
 ·refine hW.rho t v hv fun q hq hD hd=>?_
  have:=hsl q hq (hW.rest q hq hD) t hd
  have hv':look s'.rho t=some v:=hv
  rw[this] at hv';cases hv'
 ·obtain⟨q,hq,hqi,hql,hx,hch,_,_⟩:=hlink r hr hD
  have ho:=oper r hr q hq hqi
  refine⟨fun _ v hv=>?_,fun hnw=>absurd (by rw[hch];exact fun p hp=>by simp at hp) hnw⟩
  obtain⟨e,hk,hqx,hel,_⟩:=q2p hql
  obtain⟨val,hv1,hv2,_⟩:=h.ended.late e hel _ _ h.ended.mks
  have e1:ev K s1' e=ev K s' e:=by
   have hh:s1'.heap=s'.heap:=h'.ok.s1
   obtain⟨ρ1,H1,n1,u1⟩:=s1'
   obtain⟨ρ2,H2,n2,u2⟩:=s'
   simp only at hh
   subst hh
   exact q4u K ρ2 ρ1 H1 n2 n1 u2 u1 (fun t ht=>h'.ok.old t ht) e (hfree e hel)
  have hv':ev K s1' r.x=some v:=hv
  rw[hx,hqx,e1,hsame e hel] at hv'
  have hv2':ev K s1 e=some val:=hv2
  rw[hv2'] at hv'
  obtain rfl:=Option.some.inj hv'
  exact hW.ldone q hq (by rw[hqi];exact hD) hql d (by rw[ho];exact hd) val (by rw[hqx];exact hv1)
 ·exact absurd ((h'.ok.mds d).2 ⟨m,v,n0,nw,hT⟩) (nomk r hr hD d hd)
 ·have h0:s'.nx≤n0:=(h'.ok.evm d m v n0 nw hT).2.1
  cases hb:σ b with
  |none=>rfl
  |some l=>
   have:=(hW.heap.own b l hb).1
   omega
abbrev Li(listed:Array Bool):Nat→Prop:=fun i=>listed.getD i false=true
theorem q5G{tab:List (List Nat)}(ht:Tab ops tab)(is es:List Nat)(St:(Nat→Prop)→Act→World→Prop)(dom:(Nat→Prop)→Prop)
  (his:∀ i∈is,i<ops.size) (hdom:∀ D i,dom D→i∈is→dom (plus D i))
  (hin:∀ D i,dom D→¬(∀ j∈es,D j)→i<ops.size→¬ D i→(∀ j,tabB tab j i=true→D j)→i∈is) (hes:∀ j∈es,j<ops.size)
  (hstep:∀(D:Nat→Prop) (a:Act) (w:World) (i:Nat) (Kn:Act→World→Prop),i∈is→¬ D i→(∀ q,q<ops.size→D q→∀ p,tabB tab p q=true→D p)→(∀ q,tabB tab q i=true→D q)→St D a w→(∀ a' w',St (plus D i) a' w'→Kn a' w')→wpOp P ops Q i Kn a w)
  (hrest:∀(fuel:Nat) (listed:Array Bool) (a:Act) (w:World),listed.size=ops.size→q0D listed ops.size≤fuel→dom (Li listed)→(∀ i,i<ops.size→Li listed i→∀ j,tabB tab j i=true→Li listed j)→(∀ j∈es,Li listed j)→St (Li listed) a w→wpAny P .any ops Q fuel listed a w) :
  ∀(fuel:Nat) (listed:Array Bool) (a:Act) (w:World),listed.size=ops.size→q0D listed ops.size≤fuel→dom (Li listed)→(∀ i,i<ops.size→Li listed i→∀ j,tabB tab j i=true→Li listed j)→St (Li listed) a w→wpAny P .any ops Q fuel listed a w:=by
 intro fuel
 induction fuel with
 |zero=>
  intro listed a w hsz hfuel hd hdown hs
  have hall:∀ i,i<ops.size→Li listed i:=by
   intro i hi
   cases hl:listed.getD i false with
   |true=>exact hl
   |false=>
    have hm:i∈(List.range ops.size).filter fun i=>!listed.getD i true:=by
     simp only[List.mem_filter,List.mem_range,Bool.not_eq_true']
     exact⟨hi,by rw[q7t listed i hsz hi];exact hl⟩
    have:0<q0D listed ops.size:=List.length_pos_of_mem hm
    omega
  exact hrest 0 listed a w hsz hfuel hd hdown (fun j hj=>hall j (hes j hj)) hs
 |succ fuel ih=>
  intro listed a w hsz hfuel hd hdown hs
  by_cases hall:∀ j∈es,Li listed j
  ·exact hrest (fuel+1) listed a w hsz hfuel hd hdown hall hs
  ·refine⟨fun hr=>absurd (fun j hj=>z5A ht listed hsz hr j (hes j hj)) hall,fun i hi=>?_⟩
   obtain⟨h1,h2,o,ho,h3⟩:=j3V.1 hi
   rw[q7t listed i hsz h1] at h2
   have hpre:∀ j,tabB tab j i=true→Li listed j:=by
    intro j hj
    simp only[tabB,List.contains_eq_mem,decide_eq_true_eq] at hj
    obtain⟨e,he,h4⟩:=ht.clo i o ho j hj
    rcases h4 with rfl|h4
    ·exact h3 _ he
    ·exact hdown e (by have:=ht.lt i o ho e he;omega) (h3 e he) j (by simpa [tabB] using h4)
   have hnl:¬ Li listed i:=by show ¬(listed.getD i false=true);rw[h2];simp
   have hmi:i∈is:=hin _ i hd hall h1 hnl hpre
   have hlt:i<listed.size:=by omega
   have hset:Li (listed.setIfInBounds i true)=plus (Li listed) i:=by
    funext x
    show((listed.setIfInBounds i true).getD x false=true)=_
    rw[q2T listed i x hlt]
    simp only[plus,Li,eq_iff_iff]
    by_cases hx:x=i <;> simp [hx]
   exact hstep _ a w i (wpAny P .any ops Q fuel (listed.setIfInBounds i true)) hmi hnl (fun q hq hqD p hpq=>hdown q hq hqD p hpq) hpre hs (fun a' w' hs'=>by
     refine ih _ a' w' (by simpa using hsz) ?_ (by rw[hset];exact hdom _ i hd hmi) ?_ (by rw[hset];exact hs')
     ·have:q0D (listed.setIfInBounds i true) ops.size<q0D listed ops.size:=by
       unfold q0D
       have hsub:((List.range ops.size).filter fun x=>!(listed.setIfInBounds i true).getD x true)=((List.range ops.size).filter fun x=>!listed.getD x true).filter fun x=>decide (x≠i):=by
        rw[List.filter_filter]
        refine List.filter_congr fun x _=>?_
        rw[q2T listed i x hlt]
        by_cases hx:x=i
        ·simp [hx]
        ·simp [hx]
       rw[hsub]
       have hm:i∈(List.range ops.size).filter fun i=>!listed.getD i true:=by
        simp only[List.mem_filter,List.mem_range,Bool.not_eq_true']
        exact⟨h1,by rw[q7t listed i hsz h1];exact h2⟩
       exact List.length_filter_lt_length_iff_exists.2 ⟨i,hm,by simp⟩
      omega
     ·intro x hx hxl j hj
      rw[hset] at hxl ⊢
      rcases hxl with hxl|rfl
      ·exact .inl (hdown x hx hxl j hj)
      ·exact .inl (hpre j hj))
theorem j0p{listed:Array Bool}(hsz:listed.size=ops.size)(hall:∀ i,i<ops.size→Li listed i){fuel:Nat}{a:Act}{w:World}(hQ:Q .normal a w):wpAny P .any ops Q fuel listed a w:=by
 have hr:Region.ready .any ops listed=[]:=by
  cases hr:Region.ready .any ops listed with
  |nil=>rfl
  |cons i t=>
   have:i∈Region.ready .any ops listed:=by rw[hr];simp
   obtain⟨h1,h2,_⟩:=j3V.1 this
   rw[q7t listed i hsz h1] at h2
   have:=hall i h1
   simp only[Li] at this
   rw[this] at h2
   cases h2
 cases fuel with
 |zero=>exact⟨hr,hQ⟩
 |succ fuel=>exact⟨fun _=>hQ,fun i hi=>by rw[hr] at hi;simp at hi⟩
theorem q4X{tab:List (List Nat)}:∀(gs:List Seg)(L:List Nat)(k:Nat),q1s P ops n tab L k gs=true→k≤ops.size
 |[],_,_,h=>by simp [q1s] at h
 |[g],L,k,h=>by
  simp only[q1s,Bool.and_eq_true,beq_iff_eq] at h
  omega
 |g :: g' :: gs,L,k,h=>by
  simp only[q1s,Bool.and_eq_true] at h
  obtain⟨_,h⟩:=h
  split at h
  ·cases h
  ·split at h
   ·simp only[Bool.and_eq_true] at h
    have:=q4X (g' :: gs) _ _ h.2
    omega
   ·simp only[Bool.and_eq_true] at h
    have:=q4X (g' :: gs) _ _ h.2
    omega
theorem j0U{tab:List (List Nat)}{size k j i:Nat}(h:j0m tab size k j=true)(h1:k≤i)(h2:i<size):tabB tab j i=true:=by
 simp only[j0m,List.all_eq_true] at h
 exact h i (by rw[List.mem_range'_1];omega)
theorem z4y{R:List Rec}{wi:Nat}(h:wrIx R=some wi):∃ r∈R,r.isWr=true∧r.i=wi:=by
 simp only[wrIx,Option.map_eq_some_iff] at h
 obtain⟨r,hr,rfl⟩:=h
 exact⟨r,List.mem_of_find?_eq_some hr,List.find?_some hr,rfl⟩
theorem q6g(hK:K.Sound P){tab:List (List Nat)}(ht:Tab ops tab)(s':S)(hQ:∀ a w F σ,StRel K X base w0 F0 m0 σ0 n s' a w F σ→Q .normal a w):∀(gs:List Seg)(L:List Nat)(k:Nat)(s:S),q1s P ops n tab L k gs=true→q1f K s gs=some s'→
  (∀ j∈L,j<k)→(∀ b blk,look s.heap b=some blk→b<s.nx)→m0≤s.nx→(∀ b k,X b k→b<m0)→
  ∀(fuel:Nat) (listed:Array Bool) (a:Act) (w:World),listed.size=ops.size→q0D listed ops.size≤fuel→(∀ i,i<k→i∉L→Li listed i)→(∀ i,k≤i→¬ Li listed i)→(∀ i,i<ops.size→Li listed i→∀ j,tabB tab j i=true→Li listed j)→
   (∀ g gs',gs=g :: gs'→∀ R s1 T s2 news l,Full (q1N P K ops (tabB tab) n R g s s1 T X base w0 F0 m0 σ0) (L++List.range' k g.cnt) g s2 news l→Stage (q1N P K ops (tabB tab) n R g s s1 T X base w0 F0 m0 σ0) g s2 (Li listed) a w)→
   wpAny P .any ops Q fuel listed a w
 |[],_,_,_,hok,_,_,_,_,_=>by simp [q1s] at hok
 |[g],L,k,s,hok,hev,hL,hdm,hnm,hxm=>by
  intro fuel listed a w hsz hfuel hlo hhi hdown hst
  simp only[q1s,Bool.and_eq_true,beq_iff_eq] at hok
  obtain⟨hok1,hsize⟩:=hok
  simp only[q1f] at hev
  cases hg:q1g K s g with
  |none=>simp [hg] at hev
  |some s2=>
   simp only[hg,true_or,if_true,Option.some.injEq] at hev
   subst hev
   obtain⟨R,s1,T,news,l,hf⟩:=q3S (X:=X) (base:=base) (w0:=w0) (F0:=F0) (m0:=m0) (σ0:=σ0) hok1 hK hg hdm hnm hxm
   have hmem:∀ q∈R,q.i∈L++List.range' k g.cnt:=fun q hq=>(q02 hf.seg q.i).1 ⟨q,hq,rfl⟩
   have hlt:∀ i∈L++List.range' k g.cnt,i<ops.size:=fun i hi=>by
    rcases List.mem_append.1 hi with h|h
    ·have:=hL i h;omega
    ·rw[List.mem_range'_1] at h;omega
   refine q5G ht (L++List.range' k g.cnt) (L++List.range' k g.cnt) (Stage (q1N P K ops (tabB tab) n R g s s1 T X base w0 F0 m0 σ0) g s2) (fun D=>∀ i,i<k→i∉L→D i) hlt (fun D i hd _ j hj hjL=>.inl (hd j hj hjL))
    (fun D i hd _ hi hD _=>?_) hlt (fun D a w i Kn hi hD hdn hpre hs hKn=>?_) (fun fuel listed a w q1 q2 q3 q4 q5 hs=>?_) fuel listed a w hsz hfuel hlo hdown (hst g [] rfl R s1 T s2 news l hf)
   ·rcases Nat.lt_or_ge i k with h|h
    ·by_cases hiL:i∈L
     ·exact List.mem_append_left _ hiL
     ·exact absurd (hd i h hiL) hD
    ·exact List.mem_append_right _ (by rw[List.mem_range'_1];omega)
   ·obtain⟨r,hr,rfl⟩:=(q02 hf.seg i).2 hi
    exact q31 hf hs hr hD (fun q hq hqD p hp hpq=>hdn q.i (hlt _ (hmem q hq)) hqD p.i hpq) (fun q hq hqr=>hpre q.i hqr) hKn
   ·obtain⟨F,σ,hst2⟩:=q4G hf hs (fun r hr=>q5 r.i (hmem r hr))
    refine j0p q1 (fun i hi=>?_) (hQ a w F σ hst2)
    by_cases h:i∈L++List.range' k g.cnt
    ·exact q5 i h
    ·refine q3 i ?_ (fun hiL=>h (List.mem_append_left _ hiL))
     rcases Nat.lt_or_ge i k with h2|h2
     ·exact h2
     ·exact absurd (List.mem_append_right _ (by rw[List.mem_range'_1];omega)) h
 |g :: g' :: gs,L,k,s,hok,hev,hL,hdm,hnm,hxm=>by
  intro fuel listed a w hsz hfuel hlo hhi hdown hst
  simp only[q1s,Bool.and_eq_true] at hok
  obtain⟨hok1,hok⟩:=hok
  simp only[q1f] at hev
  cases hg:q1g K s g with
  |none=>simp [hg] at hev
  |some s2=>
   simp only[hg,reduceCtorEq,false_or] at hev
   split at hev
   case isFalse=>cases hev
   rename_i hsame
   obtain⟨R,s1,T,news,l,hf⟩:=q3S (X:=X) (base:=base) (w0:=w0) (F0:=F0) (m0:=m0) (σ0:=σ0) hok1 hK hg hdm hnm hxm
   have hrec:recs (tabB tab) P ops (g.mks.map (·.1)) g.ef n (L++List.range' k g.cnt) []=some R:=hf.seg.recs
   rw[hrec] at hok
   simp only at hok
   have hmem:∀ q∈R,q.i∈L++List.range' k g.cnt:=fun q hq=>(q02 hf.seg q.i).1 ⟨q,hq,rfl⟩
   have hkc:k+g.cnt≤ops.size:=by
    split at hok
    ·simp only[Bool.and_eq_true] at hok
     exact q4X _ _ _ hok.2
    ·simp only[Bool.and_eq_true] at hok
     exact q4X _ _ _ hok.2
   have hlt0:∀ i∈L++List.range' k g.cnt,i<k+g.cnt:=fun i hi=>by
    rcases List.mem_append.1 hi with h|h
    ·have:=hL i h;omega
    ·rw[List.mem_range'_1] at h;omega
   have hlt:∀ i∈L++List.range' k g.cnt,i<ops.size:=fun i hi=>Nat.lt_of_lt_of_le (hlt0 i hi) hkc
   obtain⟨hdm2,hnm2⟩:(∀ b blk,look s2.heap b=some blk→b<s2.nx)∧s.nx≤s2.nx:=by
    have hd1:=z1i hf
    have hn1:=hf.nx
    rcases hf.ended.wr with⟨_,he⟩|⟨d,wr,hw,_,he⟩|⟨d,wr,H,v,p,nx,hw,_,hev',he⟩
    ·subst he;exact⟨hd1,hn1⟩
    ·subst he;exact⟨hd1,hn1⟩
    ·subst he
     obtain⟨h1,h2⟩:=z2a hev' hd1
     exact⟨fun b blk hb=>by obtain⟨y,hy⟩:=q7W _ _ _ _ hb;exact h1 b y hy,Nat.le_trans hn1 h2⟩
   have hstep:∀(D:Nat→Prop) (a:Act) (w:World) (i:Nat) (Kn:Act→World→Prop),i∈L++List.range' k g.cnt→¬ D i→(∀ q,q<ops.size→D q→∀ p,tabB tab p q=true→D p)→(∀ q,tabB tab q i=true→D q)→
     Stage (q1N P K ops (tabB tab) n R g s s1 T X base w0 F0 m0 σ0) g s2 D a w→(∀ a' w',Stage (q1N P K ops (tabB tab) n R g s s1 T X base w0 F0 m0 σ0) g s2 (plus D i) a' w'→Kn a' w')→wpOp P ops Q i Kn a w:=fun D a w i Kn hi hD hdn hpre hs hKn=>by
    obtain⟨r,hr,rfl⟩:=(q02 hf.seg i).2 hi
    exact q31 hf hs hr hD (fun q hq hqD p hp hpq=>hdn q.i (hlt _ (hmem q hq)) hqD p.i hpq) (fun q hq hqr=>hpre q.i hqr) hKn
   have hdom:∀(D:Nat→Prop) i,((∀ i,i<k→i∉L→D i)∧∀ i,k+g.cnt≤i→¬ D i)→i∈L++List.range' k g.cnt→(∀ j,j<k→j∉L→plus D i j)∧∀ j,k+g.cnt≤j→¬ plus D i j:=fun D i hd hi=>⟨fun j hj hjL=>.inl (hd.1 j hj hjL),fun j hj=>by
    rintro(h|rfl)
    ·exact hd.2 j hj h
    ·have:=hlt0 _ hi;omega⟩
   have hinn:∀(D:Nat→Prop) i,((∀ i,i<k→i∉L→D i)∧∀ i,k+g.cnt≤i→¬ D i)→¬ D i→i<k+g.cnt→i∈L++List.range' k g.cnt:=fun D i hd hD hi=>by
    rcases Nat.lt_or_ge i k with h|h
    ·by_cases hiL:i∈L
     ·exact List.mem_append_left _ hiL
     ·exact absurd (hd.1 i h hiL) hD
    ·exact List.mem_append_right _ (by rw[List.mem_range'_1];omega)
   have h0:(∀ i,i<k→i∉L→Li listed i)∧∀ i,k+g.cnt≤i→¬ Li listed i:=⟨hlo,fun i hi=>hhi i (by omega)⟩
   cases hwi:wrIx R with
   |none=>
    simp only[hwi,Bool.and_eq_true,List.all_eq_true] at hok
    obtain⟨hbar,hok2⟩:=hok
    refine q5G ht (L++List.range' k g.cnt) (L++List.range' k g.cnt) (Stage (q1N P K ops (tabB tab) n R g s s1 T X base w0 F0 m0 σ0) g s2) (fun D=>(∀ i,i<k→i∉L→D i)∧∀ i,k+g.cnt≤i→¬ D i) hlt hdom
     (fun D i hd hne hi hD hpre=>?_) hlt hstep (fun fuel listed a w q1 q2 q3 q4 q5 hs=>?_) fuel listed a w hsz hfuel h0 hdown (hst g _ rfl R s1 T s2 news l hf)
    ·rcases Nat.lt_or_ge i (k+g.cnt) with h|h
     ·exact hinn D i hd hD h
     ·exact absurd (fun j hj=>hpre j (j0U (hbar j hj) h hi)) hne
    ·obtain⟨F,σ,hst2⟩:=q4G hf hs (fun r hr=>q5 r.i (hmem r hr))
     refine q6g hK ht s' hQ (g' :: gs) [] (k+g.cnt) s2 hok2 hev (fun j hj=>by simp at hj) hdm2 (Nat.le_trans hnm hnm2) hxm fuel listed a w q1 q2 (fun i hi _=>?_) q3.2 q4 (fun g1 gs1 he R' s1' T' s3 news' l' hf'=>?_)
     ·by_cases h:i∈L++List.range' k g.cnt
      ·exact q5 i h
      ·exact Classical.byContradiction fun hD=>h (hinn _ i q3 hD hi)
     ·refine(q1a (P:=P) (ops:=ops) (B:=tabB tab) (R:=R') (s':=s3) hf'.traced hst2).congr (fun r hr=>?_)
      have hri:=(q02 hf'.seg r.i).1 ⟨r,hr,rfl⟩
      rw[List.nil_append,List.mem_range'_1] at hri
      exact⟨fun h=>h.elim,fun h=>q3.2 r.i hri.1 h⟩
   |some wi=>
    simp only[hwi,Bool.and_eq_true] at hok
    obtain⟨⟨hbar,hlk⟩,hok2⟩:=hok
    obtain⟨rw0,hrw,hrww,hrwi⟩:=z4y hwi
    refine q5G ht (L++List.range' k g.cnt) [wi] (Stage (q1N P K ops (tabB tab) n R g s s1 T X base w0 F0 m0 σ0) g s2) (fun D=>(∀ i,i<k→i∉L→D i)∧∀ i,k+g.cnt≤i→¬ D i) hlt hdom
     (fun D i hd hne hi hD hpre=>?_) (fun j hj=>?_) hstep (fun fuel listed a w q1 q2 q3 q4 q5 hs=>?_) fuel listed a w hsz hfuel h0 hdown (hst g _ rfl R s1 T s2 news l hf)
    ·rcases Nat.lt_or_ge i (k+g.cnt) with h|h
     ·exact hinn D i hd hD h
     ·refine absurd (fun j hj=>?_) hne
      obtain rfl:j=wi:=by simpa using hj
      exact hpre j (j0U hbar h hi)
    ·obtain rfl:j=wi:=by simpa using hj
     rw[←hrwi]
     exact hlt _ (hmem rw0 hrw)
    ·have hwD:Li listed wi:=q5 wi (by simp)
     rcases hs with⟨hno,_⟩|⟨_,F,σ,hW⟩
     ·have:=hno rw0 hrw (by rw[hrwi];exact hwD)
      rw[hrww] at this;cases this
     ·refine q6g hK ht s' hQ (g' :: gs) (q7X g R (L++List.range' k g.cnt)) (k+g.cnt) s2 hok2 hev (fun j hj=>hlt0 j (List.mem_filter.1 hj).1) hdm2 (Nat.le_trans hnm hnm2) hxm fuel listed a w q1 q2 (fun i hi hnp=>?_) q3.2 q4 (fun g1 gs1 he R' s1' T' s3 news' l' hf'=>?_)
      ·refine Classical.byContradiction fun hD=>?_
       have hmi:=hinn _ i q3 hD hi
       obtain⟨r,hr,rfl⟩:=(q02 hf.seg i).2 hmi
       have hl:=hW.rest r hr hD
       refine hnp (List.mem_filter.2 ⟨hmi,?_⟩)
       simp only[List.any_eq_true]
       exact⟨r,hr,by simp [hl]⟩
      ·obtain⟨rfl,rfl⟩:=List.cons.inj he
       have hrec':recs (tabB tab) P ops (g'.mks.map (·.1)) g'.ef n (q7X g R (L++List.range' k g.cnt)++List.range' (k+g.cnt) g'.cnt) []=some R':=hf'.seg.recs
       rw[hrec'] at hlk
       simp only[j0A,Bool.and_eq_true,List.all_eq_true] at hlk
       obtain⟨⟨hl1,hl2⟩,hl3⟩:=hlk
       have hpend:∀ r∈R',Li listed r.i→r.i∈q7X g R (L++List.range' k g.cnt):=fun r hr hD=>by
        rcases List.mem_append.1 ((q02 hf'.seg r.i).1 ⟨r,hr,rfl⟩) with h|h
        ·exact h
        ·rw[List.mem_range'_1] at h
         exact absurd hD (q3.2 r.i h.1)
       have hlink:∀ r∈R',Li listed r.i→∃ q∈R,q.i=r.i∧q23 g.late q=true∧r.x=q.x∧r.ch=[]∧r.isWr=false∧r.isMk=false:=fun r hr hD=>by
        have:=hl1 r hr
        simp only[Bool.or_eq_true,Bool.not_eq_true',List.any_eq_true,Bool.and_eq_true,decide_eq_true_eq,List.isEmpty_iff] at this
        rcases this with h|⟨q,hq,⟨⟨⟨⟨h1,h2⟩,h3⟩,h4⟩,h5⟩,h6⟩
        ·have h':=hpend r hr hD
         rw[List.contains_eq_mem,decide_eq_false_iff_not] at h
         exact absurd h' h
        ·exact⟨q,hq,h1,h2,h3,h4,h5,h6⟩
       refine .inl ⟨fun r hr hD=>(hlink r hr hD).choose_spec.2.2.2.2.2.1,F,σ,j5N hf hf' (fun e he'=>(hsame.resolve_left (by simp)) e he' _ _ hf.ended.mks) hlink hl2 (fun q hq hql d hd=>?_) hW⟩
       -- the slot of a late one is not known behind the piece
       have h3:=hl3 q hq
       simp only[hql,Bool.not_true,Bool.false_or,hd,Bool.and_eq_true,Bool.not_eq_true',List.contains_eq_mem,decide_eq_false_iff_not] at h3
       obtain⟨h4,h5⟩:=h3
       have hnone:look (l++q0g s1.rho g.keep) d=none:=by
        cases hh:look (l++q0g s1.rho g.keep) d with
        |none=>rfl
        |some u=>
         rw[q3u] at hh
         cases hll:look l d with
         |some u2=>
          obtain⟨e2,he2,_⟩:=(q2q _ _ _ _ hf.ended.lets).1 d u2 hll
          exact absurd (List.mem_map.2 ⟨_,he2,rfl⟩) h4
         |none=>
          rw[hll] at hh
          exact absurd (q0Q _ _ _ _ hh).1 h5
       have hlose:∀ p:Lost,look (lose p (l++q0g s1.rho g.keep)) d=none:=fun p=>by
        cases hh:look (lose p (l++q0g s1.rho g.keep)) d with
        |none=>rfl
        |some u=>
         obtain⟨y,hy,_⟩:=q6F _ _ _ _ hh
         rw[hnone] at hy;cases hy
       rcases hf.ended.wr with⟨_,he2⟩|⟨d0,wr,hw0,_,he2⟩|⟨d0,wr,H,v,p,nx,hw0,_,_,he2⟩
       ·subst he2;exact hnone
       ·subst he2;exact hnone
       ·subst he2
        cases d0 with
        |none=>exact hlose p
        |some d0=>
         simp only[look]
         split
         ·rename_i hdd
          subst hdd
          rcases hf.seg.wr with⟨_,hn0⟩|⟨r0,x0,hr0,hk0,hg0,_⟩
          ·rw[hn0] at hw0;cases hw0
          ·rw[hg0] at hw0
           simp only[Option.some.injEq,Prod.mk.injEq] at hw0
           have hqr:q.i≠r0.i:=fun e=>by
            obtain rfl:=hf.ok.good.inj q hq r0 hr0 e
            obtain⟨_,hkk,_⟩:=q2p hql
            rw[hk0] at hkk;cases hkk
           exact absurd hw0.1 (q4j hf.ok hq hr0 hqr hd)
         ·exact hlose p
theorem q8J{id:Nat}{gs:List Seg}{s s':S}{a:Act}{w:World}{F:Nat→Prop}{σ:Nat→Option Loc}(hm:P.follows .mixedOrders=true)(hK:K.Sound P)(hok:q6b P ops n gs=true)(hev:q1f K s gs=some s')(hst:StRel K X base w0 F0 m0 σ0 n s a w F σ)
  (hQ:∀ a w F σ,StRel K X base w0 F0 m0 σ0 n s' a w F σ→Q .normal a w):(Code.region id ops true).wp P Q a w:=by
 simp only[q6b,Bool.and_eq_true] at hok
 refine wp_region_any hm ?_
 have hno:∀ i,(Array.replicate ops.size false).getD i false=false:=by
  intro i
  simp only[Array.getD_eq_getD_getElem?,Array.getElem?_replicate]
  split <;> rfl
 refine q6g hK (q7D hok.2) s' hQ gs [] 0 s hok.1 hev (fun j hj=>by simp at hj) hst.dom hst.nxm hst.xm ops.size _ a _ (by simp) ?_ (fun i hi=>by omega) (fun i _ h=>by simp only[Li] at h;rw[hno] at h;cases h) (fun i _ h=>by simp only[Li] at h;rw[hno] at h;cases h) (fun g gs' he R s1 T s2 news l hf=>?_)
 ·unfold q0D
  refine Nat.le_trans (List.length_filter_le _ _) ?_
  simp
 ·refine(q1a (P:=P) (ops:=ops) (B:=tabB (z2L gs)) (R:=R) (s':=s2) hf.traced (hst.drawn _)).congr (fun r hr=>?_)
  exact⟨fun h=>h.elim,fun h=>by simp only[Li] at h;rw[hno] at h;cases h⟩
end Go.Vm
end

section
namespace Go.Vm
open Go.RowKit
variable {P:Program}{K:Cx}{n:Nat}{X:Nat→Nat→Prop}{base:Nat}{w0:World}{F0:Nat→Prop}{m0:Nat}{σ0:Nat→Option Loc}{Q:Exit→Act→World→Prop}
def one:List Seg→Option Seg
 |[g]=>some g
 |_=>none
def chk(P:Program)(m n:Nat):C→Code→Bool
 |.stuck,_=>true
 |.skip,.skip=>true
 |.reg l,.region _ ops draw=>if draw then q8L P ops n l else q4F P ops n 0 l
 |.seq (.tidy m' _) b,c=>m'==m&&chk P m n b c
 |.seq (.own t _) b,c=>decide (t<n)&&chk P m n b c
 |.seq (.keep _) b,c=>chk P m n b c
 |.seq (.frz m' _ _) b,c=>(m'==m)&&chk P m n b c
 |.seq (.ownc _ _ _) b,c=>chk P m n b c
 |.regl l,.region _ ops draw=>draw&&q6b P ops n l
 |.regg m' l,.region _ ops draw=>(m'==m)&&if draw then q6c P ops n l else q3l P ops n 0 l
 |.seq a b,.seq x y=>chk P m n a x&&chk P m n b y
 |.cond e a b,.cond c x y=>decide (q0j P [] 0 c=some e)&&chk P m n a x&&chk P m n b y
 |.block id c,.block id' x=>id==id'&&chk P m n c x
 |.loop c,.loop x=>chk P m n c x
 |.exit id,.exit id'=>id==id'
 |.scope c ls,.scope x=>chk P m n c x&&chk P m n ls x
 |.lnil,_=>true
 |.lcons l c ls,x=>(match findLabel x l with|some rest=>chk P m n c rest|none=>false)&&chk P m n ls x
 |.label l,.label l'=>l==l'
 |.goto l,.goto l'=>l==l'
 |.ret,.ret=>true
 |_,_=>false
def Ex.to:Ex→Exit
 |.nrm=>.normal
 |.exit id=>.exit id
 |.goto l=>.goto l
 |.ret=>.ret
def Post(K:Cx)(X:Nat→Nat→Prop)(base:Nat)(w0:World)(F0:Nat→Prop)(m0:Nat)(σ0:Nat→Option Loc)(n:Nat)(r:Ex×S)(e:Exit)(a:Act)(w:World):Prop:=
 e=r.1.to∧∃ F σ,StRel K X base w0 F0 m0 σ0 n r.2 a w F σ
theorem q6E(H:List (Nat×Blk))(bs0:List Nat):∀(bs:List Nat)(k i:Nat)(x:Blk),look ((bs.zipIdx k).filterMap fun p=>(look H p.1).map fun blk=>(p.2,blk.ren bs0.idxOf)) i=some x→k≤i∧∃ b x0,bs[i - k]? = some b∧look H b=some x0∧x=x0.ren bs0.idxOf
 |[],k,i,x,h=>by simp [look] at h
 |b :: bs,k,i,x,h=>by
  simp only[List.zipIdx_cons,List.filterMap_cons] at h
  have rest:look ((bs.zipIdx (k+1)).filterMap fun p=>(look H p.1).map fun blk=>(p.2,blk.ren bs0.idxOf)) i=some x→k≤i∧∃ b' x0,(b :: bs)[i - k]? = some b'∧look H b'=some x0∧x=x0.ren bs0.idxOf:=by
   intro h
   obtain⟨h1,b',x0,h2,h3,h4⟩:=q6E H bs0 bs (k+1) i x h
   refine⟨by omega,b',x0,?_,h3,h4⟩
   have:i - k=(i - (k+1))+1:=by omega
   rw[this,List.getElem?_cons_succ]
   exact h2
  cases hb:look H b with
  |none=>
   simp only[hb,Option.map_none] at h
   exact rest h
  |some x0=>
   simp only[hb,Option.map_some,look] at h
   split at h
   ·rename_i he
    subst he
    exact⟨Nat.le_refl _,b,x0,by simp,hb,(Option.some.inj h).symm⟩
   ·exact rest h
theorem StRel.tidy{s s':S}{a:Act}{w:World}{F:Nat→Prop}{σ:Nat→Option Loc}{slots:List Nat}(ht:q5l m0 slots s=some s')(h:StRel K X base w0 F0 m0 σ0 n s a w F σ):∃ σ',StRel K X base w0 F0 m0 σ0 n s' a w F σ':=by
 unfold q5l at ht
 simp only at ht
 split at ht
 case isFalse=>cases ht
 rename_i hc
 obtain rfl:=Option.some.inj ht
 generalize hbs:q1l s.heap (refN s.heap+64) [] (List.range m0++refsL ((q0g s.rho slots).map (·.2)))=bs at hc
 simp only[Bool.and_eq_true,decide_eq_true_eq,List.all_eq_true] at hc
 obtain⟨⟨⟨hnd,hpre⟩,hwi⟩,hcl⟩:=hc
 simp only[closedB,List.all_eq_true] at hcl
 have hF:∀ b,F b→F b∧w.heap[b]? = w.heap[b]?:=fun b hb=>⟨hb,rfl⟩
 have hσ:∀ b l,bs.contains b=true→σ b=some l→inn bs σ (bs.idxOf b)=some l:=fun b l h1 h2=>by rw[z0R (by simpa using h1)];exact h2
 refine⟨inn bs σ,⟨fun i x hx=>?_,fun i j l l' h1 h2 he=>?_,fun i l hi=>?_,h.heap.fro⟩,h.glob,h.le,h.frame,h.frz,h.size,h.dfr,fun t v hv=>?_,fun i x hx=>?_,fun b l hb h0 hm=>?_,?_,h.xm,h.sub⟩
 ·obtain⟨_,b,x0,h1,h2,rfl⟩:=q6E s.heap bs bs 0 i x hx
  rw[Nat.sub_zero] at h1
  have hσi:inn bs σ i=σ b:=by unfold inn;rw[h1]
  have hb:=hcl b (List.mem_of_getElem? h1)
  rw[h2] at hb
  exact(h.heap.blk b x0 h2).ren (w':=w) (F':=F) (p:=bs.contains) hF (fun _ _ h=>h) hσ hb (fun l hl=>by rw[hσi];exact hl) (fun hl=>by rw[hσi];exact hl) (fun _ _=>rfl)
 ·obtain⟨b,hb1,h3⟩:=q1D h1
  obtain⟨b',hb2,h4⟩:=q1D h2
  obtain rfl:=h.heap.inj b b' l l' h3 h4 he
  exact(List.getElem?_inj (List.getElem?_eq_some_iff.1 hb1).1 hnd).1 (hb1.trans hb2.symm)
 ·obtain⟨b,hb1,h3⟩:=q1D hi
  obtain⟨_,o2,o3,o4⟩:=h.heap.own b l h3
  refine⟨(List.getElem?_eq_some_iff.1 hb1).1,o2,o3.imp id (fun hx=>?_),o4⟩
  have hbm:=h.xm b _ hx
  have:bs[b]? = some b:=by
   have:(bs.take m0)[b]? = some b:=by rw[hpre];simp [hbm]
   simpa [List.getElem?_take,hbm] using this
  have:=(List.getElem?_inj (List.getElem?_eq_some_iff.1 hb1).1 hnd).1 (hb1.trans this.symm)
  rw[this]
  exact hx
 ·simp only at hv
  rw[show((q0g s.rho slots).map fun p=>(p.1,p.2.ren bs.idxOf))=(q0g s.rho slots).map fun(t,v)=>(t,(V.ren bs.idxOf) v) from rfl,q29] at hv
  simp only[Option.map_eq_some_iff] at hv
  obtain⟨v0,h1,rfl⟩:=hv
  have hm:=z1P _ _ _ h1
  exact((h.rho t v0 (q0Q _ _ _ _ h1).2).ren (base':=base) (fun _ _ h=>h) hσ (hwi _ hm))
 ·obtain⟨_,b,x0,h1,_⟩:=q6E s.heap bs bs 0 i x hx
  rw[Nat.sub_zero] at h1
  exact(List.getElem?_eq_some_iff.1 h1).1
 ·have hb2:bs[b]? = some b:=by
   have:(bs.take m0)[b]? = some b:=by rw[hpre];simp [hb]
   simpa [List.getElem?_take,hb] using this
  unfold inn
  rw[hb2]
  refine h.stab b l hb h0 fun hm'=>hm ?_
  simp only[List.mem_filter,List.mem_range]
  exact⟨hb,by simpa using hm'⟩
 ·have:=congrArg List.length hpre
  simp only[List.length_take,List.length_range] at this
  show m0≤bs.length
  omega
theorem StRel.own{s:S}{a:Act}{w:World}{F:Nat→Prop}{σ:Nat→Option Loc}{t k k':Nat}{c:Bool}(hl:look s.rho t=some (.fs c k' []))(h:StRel K X base w0 F0 m0 σ0 n s a w F σ) :
  StRel K X base w0 F0 m0 σ0 n ⟨put s.rho t (.bsl s.nx 0 0),(s.nx,.dat true k []) :: s.heap,s.nx+1,s.mv⟩ a w F σ:=by
 have hnone:σ s.nx=none:=by
  cases hs:σ s.nx with
  |none=>rfl
  |some l=>have:=(h.heap.own _ l hs).1;omega
 refine⟨⟨fun b blk hb=>?_,h.heap.inj,fun b l hb=>⟨by have:=(h.heap.own b l hb).1;show b<s.nx+1;omega,(h.heap.own b l hb).2⟩,h.heap.fro⟩,h.glob,h.le,h.frame,h.frz,h.size,h.dfr,fun u v hv=>?_,fun b blk hb=>?_,h.stab,by have:=h.nxm;show m0≤s.nx+1;omega,h.xm,h.sub⟩
 ·simp only[look] at hb
  split at hb
  ·rename_i he
   subst he
   obtain rfl:=Option.some.inj hb
   exact .inl ⟨rfl,hnone⟩
  ·exact h.heap.blk b blk hb
 ·simp only at hv
  rw[q0I] at hv
  split at hv
  ·rename_i he
   subst he
   obtain rfl:=Option.some.inj hv
   have:=h.rho t _ hl
   generalize a.tmps.getD t undef=u at this ⊢
   cases this with
   |fs _ ad len _ _ hd=>
    cases hd with
    |sl0=>exact .bsl0 _ _ _
    |sl b o l cap k rows g h1=>simp at h1;subst h1;exact .bsl0 _ _ _
  ·exact h.rho u v hv
 ·simp only[look] at hb
  split at hb
  ·rename_i he;show b<s.nx+1;omega
  ·have:=h.dom b blk hb;show b<s.nx+1;omega
theorem StRel.ownc{s:S}{a:Act}{w:World}{F:Nat→Prop}{σ:Nat→Option Loc}(t j k:Nat)(h:StRel K X base w0 F0 m0 σ0 n s a w F σ):StRel K X base w0 F0 m0 σ0 n (z2W t j k s) a w F σ:=by
 unfold z2W
 split
 case h_2=>exact h
 rename_i b hb
 split
 case h_2=>exact h
 rename_i k0 row hrow
 split
 case h_2=>exact h
 rename_i c k' hj
 split
 case isFalse=>exact h
 have hnone:σ s.nx=none:=by
  cases hs:σ s.nx with
  |none=>rfl
  |some l=>have:=(h.heap.own _ l hs).1;omega
 refine⟨⟨fun i blk hi=>?_,h.heap.inj,fun b l hb=>⟨by have:=(h.heap.own b l hb).1;show b<s.nx+1;omega,(h.heap.own b l hb).2⟩,h.heap.fro⟩,h.glob,h.le,h.frame,h.frz,h.size,h.dfr,h.rho,fun i blk hi=>?_,h.stab,by have:=h.nxm;show m0≤s.nx+1;omega,h.xm,h.sub⟩
 ·simp only[look] at hi
  split at hi
  ·rename_i he
   subst he
   obtain rfl:=Option.some.inj hi
   exact .inl ⟨rfl,hnone⟩
  ·rw[q0I] at hi
   split at hi
   ·rename_i he
    subst he
    obtain rfl:=Option.some.inj hi
    rcases h.heap.blk b _ hrow with⟨hz,_⟩|⟨_,_,_,_,hmap,_⟩|⟨lb,cs,T,q1,q2,q3,q4,q5,q6,q7⟩
    ·simp [Blk.n] at hz
    ·cases hmap
    ·refine .inr (.inr ⟨lb,cs,T,q1,q2,q3,q4,q5,fun i r hr=>?_,rfl⟩)
     cases i with
     |succ i=>simp [Blk.row?] at hr
     |zero=>
      simp only[Blk.row?,List.getElem?_cons_zero,Option.some.injEq] at hr
      subst hr
      obtain⟨g1,g2⟩:=q6 0 row rfl
      refine⟨by simpa [Blk.k] using g1,fun jj x hx=>?_⟩
      by_cases hjj:j=jj
      ·subst hjj
       have hlt:j<row.length:=(List.getElem?_eq_some_iff.1 hj).1
       rw[List.getElem?_set_self (by simpa using hlt)] at hx
       obtain rfl:=Option.some.inj hx
       obtain⟨v,g3,g4,g5⟩:=g2 j _ hj
       refine⟨v,g3,g4,?_⟩
       cases g5 with
       |fs _ ad len _ _ hd=>
        cases hd with
        |sl0=>exact .bsl0 _ _ _
        |sl b o l cap k rows g h1=>simp at h1;subst h1;exact .bsl0 _ _ _
      ·rw[List.getElem?_set_ne hjj] at hx
       exact g2 jj x hx
   ·exact h.heap.blk i blk hi
 ·simp only[look] at hi
  split at hi
  ·rename_i he;show i<s.nx+1;omega
  ·rw[q0I] at hi
   split at hi
   ·rename_i he;subst he;have:=h.dom _ _ hrow;show b<s.nx+1;omega
   ·have:=h.dom i blk hi;show i<s.nx+1;omega
theorem q7k{c:Code}(J:Nat→Act→World→Prop)(h0:∀ a w,¬ J 0 a w)(round:∀ m a w,J (m+1) a w→c.wp P (Exit.then (J m) Q) a w){m:Nat}{a:Act}{w:World}(h:J m a w):(Code.loop c).wp P Q a w:=by
 intro b k cs
 have key:∀ m a w,J m a w→∃ e a' w',Q e a' w'∧Arrives P (lone (b.at a (.code c :: .inLoop c :: k)) cs w) b k cs e a' w':=by
  intro m
  induction m with
  |zero=>intro a w h;exact absurd h (h0 a w)
  |succ m ih=>
   intro a w hI
   obtain⟨e,a₁,w₁,hq,harr⟩:=round m a w hI b (.inLoop c :: k) cs
   cases e with
   |normal=>
    obtain⟨e₂,a₂,w₂,hq₂,harr₂⟩:=ih a₁ w₁ hq
    exact⟨e₂,a₂,w₂,hq₂,.of_steps (Steps.trans harr (.one step_inLoop)) harr₂⟩
   |exit id=>exact⟨_,a₁,w₁,hq,.pass (x:=.inLoop c) rfl (fun _ _=>.inl (by simp)) harr⟩
   |goto l=>exact⟨_,a₁,w₁,hq,.pass (x:=.inLoop c) rfl (fun _ _=>.inl (by simp)) harr⟩
   |ret=>exact⟨_,a₁,w₁,hq,.pass (x:=.inLoop c) rfl (fun _ _=>.inl (by simp)) harr⟩
   |panic ch=>exact⟨_,a₁,w₁,hq,.pass (x:=.inLoop c) rfl (fun _ _=>.inl (by simp)) harr⟩
   |outgrown=>exact⟨_,a₁,w₁,hq,.pass (x:=.inLoop c) rfl (fun _ _=>.inl (by simp)) harr⟩
 obtain⟨e,a',w',hq,harr⟩:=key m a w h
 exact⟨e,a',w',hq,.of_steps (.one step_loop) harr⟩
theorem q9F{a:Act}{w:World}{F:Nat→Prop}{σ:Nat→Option Loc}{s:S}(h:StRel K X base w0 F0 m0 σ0 n s a w F σ){x:Operand}{t:TypeId}{e:E}{r:V}(he:q0j P [] t x=some e)(hr:ev K s e=some r):RepV w F base σ (a.eval x) r:=by
 have:Held P K s [] w F base σ a x:=by
  cases x with
  |const v=>exact q5y
  |global g=>exact q6O h.glob
  |func f=>exact q6P
  |tmp t=>
   refine q8B fun r hr=>?_
   simp only[Env.get,look,ev] at hr
   exact h.rho t r hr
 exact this t e r he hr
def Exit.jumpR(J:Nat→Act→World→Prop)(Q:Exit→Act→World→Prop):Exit→Act→World→Prop
 |.goto l,a,w=>J l a w
 |e,a,w=>Q e a w
theorem q6h{c:Code}(J:Nat→Nat→Act→World→Prop)(h0:∀ l a w,¬ J 0 l a w)(round:∀ m l a w,J (m+1) l a w→∃ rest,findLabel c l=some rest∧rest.wp P (Exit.jumpR (J m) Q) a w){m:Nat}{a:Act}{w:World}(first:c.wp P (Exit.jumpR (J m) Q) a w):(Code.scope c).wp P Q a w:=by
 intro b k cs
 have key:∀ m l rest a w,findLabel c l=some rest→J m l a w→∃ e a' w',Q e a' w'∧Arrives P (lone (b.at a (.code rest :: .inScope c :: k)) cs w) b k cs e a' w':=by
  intro m
  induction m with
  |zero=>intro l rest a w _ h;exact absurd h (h0 l a w)
  |succ m ih=>
   intro l rest a w hf hJ
   obtain⟨rest',hf',hwp⟩:=round m l a w hJ
   rw[hf] at hf'
   obtain rfl:=Option.some.inj hf'
   obtain⟨e,a₁,w₁,hq,harr⟩:=hwp b (.inScope c :: k) cs
   cases e with
   |normal=>exact⟨.normal,a₁,w₁,hq,Steps.trans harr (.one step_inScope)⟩
   |exit id=>exact⟨.exit id,a₁,w₁,hq,fun k' hk=>harr k' (by simp [exitTo,hk])⟩
   |goto l'=>
    have hq':J m l' a₁ w₁:=hq
    cases m with
    |zero=>exact absurd hq' (h0 l' a₁ w₁)
    |succ m=>
     obtain⟨rest2,hf2,_⟩:=round m l' a₁ w₁ hq'
     obtain⟨e₂,a₂,w₂,hq₂,harr₂⟩:=ih l' rest2 a₁ w₁ hf2 hq'
     have hg:gotoIn l' (.inScope c :: k)=some (.code rest2 :: .inScope c :: k):=by simp [gotoIn,hf2]
     exact⟨e₂,a₂,w₂,hq₂,.of_steps (harr _ hg) harr₂⟩
   |ret=>exact⟨_,a₁,w₁,hq,harr⟩
   |panic ch=>exact⟨_,a₁,w₁,hq,harr⟩
   |outgrown=>exact⟨_,a₁,w₁,hq,harr⟩
 obtain⟨e,a₁,w₁,hq,harr⟩:=first b (.inScope c :: k) cs
 cases e with
 |normal=>exact⟨.normal,a₁,w₁,hq,.head step_scope (Steps.trans harr (.one step_inScope))⟩
 |exit id=>exact⟨.exit id,a₁,w₁,hq,fun k' hk=>.head step_scope (harr k' (by simp [exitTo,hk]))⟩
 |goto l'=>
  have hq':J m l' a₁ w₁:=hq
  cases m with
  |zero=>exact absurd hq' (h0 l' a₁ w₁)
  |succ m=>
   obtain⟨rest2,hf2,_⟩:=round m l' a₁ w₁ hq'
   obtain⟨e₂,a₂,w₂,hq₂,harr₂⟩:=key _ l' rest2 a₁ w₁ hf2 hq'
   have hg:gotoIn l' (.inScope c :: k)=some (.code rest2 :: .inScope c :: k):=by simp [gotoIn,hf2]
   exact⟨e₂,a₂,w₂,hq₂,.of_steps (.head step_scope (harr _ hg)) harr₂⟩
 |ret=>exact⟨_,a₁,w₁,hq,.of_steps (.one step_scope) harr⟩
 |panic ch=>exact⟨_,a₁,w₁,hq,.of_steps (.one step_scope) harr⟩
 |outgrown=>exact⟨_,a₁,w₁,hq,.of_steps (.one step_scope) harr⟩
theorem z6q(hm:P.follows .mixedOrders=true)(hK:K.Sound P):∀(c:C),(∀(code:Code)(s:S)(r:Ex×S)(a:Act)(w:World)(F:Nat→Prop)(σ:Nat→Option Loc),chk P m0 n c code=true→exec K c s=some r→StRel K X base w0 F0 m0 σ0 n s a w F σ→
  code.wp P (Post K X base w0 F0 m0 σ0 n r) a w)∧
  ∀(code:Code) (l:Nat) (g:S→Option (Ex×S)),chk P m0 n c code=true→exec.labelled K c l=some g→∃ rest,findLabel code l=some rest∧∀(s:S) (r:Ex×S) (a:Act) (w:World) (F:Nat→Prop) (σ:Nat→Option Loc),g s=some r→StRel K X base w0 F0 m0 σ0 n s a w F σ→rest.wp P (Post K X base w0 F0 m0 σ0 n r) a w:=by
 intro c
 induction c with
 |skip=>
  refine⟨?_,fun code l g _ h=>by simp [exec.labelled] at h⟩
  intro code s r a w F σ hc he hs
  cases code <;> simp only[chk] at hc <;> (try(cases hc;done))
  simp only[exec,Option.some.injEq] at he
  subst he
  exact wp_skip ⟨rfl,F,σ,hs⟩
 |ownc t j k=>
  refine⟨?_,fun code l g _ h=>by simp [exec.labelled] at h⟩
  intro code s r a w F σ hc he hs
  cases code <;> simp [chk] at hc
 |regl l=>
  refine⟨?_,fun code l g _ h=>by simp [exec.labelled] at h⟩
  intro code s r a w F σ hc he hs
  cases code <;> simp only[chk] at hc <;> (try(cases hc;done))
  rename_i id ops draw
  simp only[Bool.and_eq_true] at hc
  obtain⟨rfl,hc⟩:=hc
  simp only[exec] at he
  cases hev:q1f K s l with
  |none=>simp [hev] at he
  |some s'=>
   simp only[hev,Option.some.injEq] at he
   subst he
   exact q8J hm hK hc hev hs fun a w F σ h=>⟨rfl,F,σ,h⟩
 |regg m' l=>
  refine⟨?_,fun code l g _ h=>by simp [exec.labelled] at h⟩
  intro code s r a w F σ hc he hs
  cases code <;> simp only[chk] at hc <;> (try(cases hc;done))
  rename_i id ops draw
  simp only[Bool.and_eq_true] at hc
  obtain⟨hm',hc⟩:=hc
  obtain rfl:m'=m0:=by simpa using hm'
  simp only[exec] at he
  cases hev:q06 m' K s l with
  |none=>simp [hev] at he
  |some s'=>
   simp only[hev,Option.some.injEq] at he
   subst he
   cases draw with
   |false=>
    simp only[Bool.false_eq_true,if_false] at hc
    exact q84 hK hc hev hs fun a w F σ h=>⟨rfl,F,σ,h⟩
   |true=>
    simp only[if_true] at hc
    exact q8K hm hK hc hev hs fun a w F σ h=>⟨rfl,F,σ,h⟩
 |reg l=>
  refine⟨?_,fun code l g _ h=>by simp [exec.labelled] at h⟩
  intro code s r a w F σ hc he hs
  cases code <;> simp only[chk] at hc <;> (try(cases hc;done))
  rename_i id ops draw
  simp only[exec] at he
  cases hev:q2f K s l with
  |none=>simp [hev] at he
  |some s'=>
   simp only[hev,Option.some.injEq] at he
   subst he
   cases draw with
   |false=>
    simp only[Bool.false_eq_true,if_false] at hc
    exact z0m hK hc hev hs fun a w F σ h=>⟨rfl,F,σ,h⟩
   |true=>
    simp only[if_true] at hc
    exact q9Y hm hK hc hev hs fun a w F σ h=>⟨rfl,F,σ,h⟩
 |seq x y ihx ihy=>
  refine⟨?_,fun code l g _ h=>by simp [exec.labelled] at h⟩
  intro code s r a w F σ hc he hs
  simp only[exec] at he
  have plain:∀ cx cy,code=.seq cx cy→chk P m0 n x cx=true→chk P m0 n y cy=true→code.wp P (Post K X base w0 F0 m0 σ0 n r) a w:=by
   rintro cx cy rfl h1 h2
   cases hx:exec K x s with
   |none=>simp [hx] at he
   |some p=>
    obtain⟨ex,s'⟩:=p
    refine wp_seq (wp_mono (ihx.1 cx s _ a w F σ h1 hx hs) fun e a' w' hp=>?_)
    obtain⟨rfl,F',σ',hs'⟩:=hp
    cases ex with
    |nrm=>
     simp only[hx] at he
     exact ihy.1 cy s' r a' w' F' σ' h2 he hs'
    |exit id=>simp only[hx,Option.some.injEq] at he;subst he;exact⟨rfl,F',σ',hs'⟩
    |goto l=>simp only[hx,Option.some.injEq] at he;subst he;exact⟨rfl,F',σ',hs'⟩
    |ret=>simp only[hx,Option.some.injEq] at he;subst he;exact⟨rfl,F',σ',hs'⟩
  by_cases hkp:∃ sl,x=.keep sl
  ·obtain⟨sl,rfl⟩:=hkp
   have hc':chk P m0 n y code=true:=by cases code <;> simpa only[chk] using hc
   simp only[exec] at he
   exact ihy.1 code _ r a w F σ hc' he (hs.skip sl)
  by_cases hgc:∃ m' sl,x=.tidy m' sl
  ·obtain⟨m',sl,rfl⟩:=hgc
   have hc':(m'==m0)=true∧chk P m0 n y code=true:=by cases code <;> simpa only[chk,Bool.and_eq_true] using hc
   obtain⟨hm',hc'⟩:=hc'
   obtain rfl:m'=m0:=by simpa using hm'
   simp only[exec] at he
   cases hts:q5l m' sl s with
   |none=>simp [hts] at he
   |some s'=>
    simp only[hts] at he
    obtain⟨σ',hs'⟩:=hs.tidy hts
    exact ihy.1 code _ r a w F σ' hc' he hs'
  ·by_cases hown:∃ t k,x=.own t k
   ·obtain⟨t,k,rfl⟩:=hown
    have hc':decide (t<n)=true∧chk P m0 n y code=true:=by cases code <;> simpa only[chk,Bool.and_eq_true] using hc
    simp only[exec] at he
    cases hl:look s.rho t with
    |none=>simp only[hl] at he;exact ihy.1 code s r a w F σ hc'.2 he hs
    |some v=>
     cases v with
     |fs c k' rows=>
      cases rows with
      |nil=>
       simp only[hl] at he
       by_cases hk:k'=k
       ·simp only[hk,if_true] at he
        exact ihy.1 code _ r a w F σ hc'.2 he (hs.own hl)
       ·simp only[hk,if_false] at he;exact ihy.1 code s r a w F σ hc'.2 he hs
      |cons _ _=>simp only[hl] at he;exact ihy.1 code s r a w F σ hc'.2 he hs
     |_=>simp only[hl] at he;exact ihy.1 code s r a w F σ hc'.2 he hs
   ·by_cases hfrz:∃ m' t j,x=.frz m' t j
    ·obtain⟨m',t,j,rfl⟩:=hfrz
     have hc':(m'==m0)=true∧chk P m0 n y code=true:=by cases code <;> simpa only[chk,Bool.and_eq_true] using hc
     obtain⟨hm',hc'⟩:=hc'
     obtain rfl:m'=m0:=by simpa using hm'
     simp only[exec] at he
     obtain⟨F',σ',hs'⟩:=hs.freeze t j
     exact ihy.1 code _ r a w F' σ' hc' he hs'
    ·by_cases hoc:∃ t j k,x=.ownc t j k
     ·obtain⟨t,j,k,rfl⟩:=hoc
      have hc':chk P m0 n y code=true:=by cases code <;> simpa only[chk] using hc
      simp only[exec] at he
      exact ihy.1 code _ r a w F σ hc' he (hs.ownc t j k)
     ·cases code with
      |seq cx cy=>
       have:chk P m0 n x cx=true∧chk P m0 n y cy=true:=by
        cases x <;> first|(exact absurd ⟨_,rfl⟩ hkp)|(exact absurd ⟨_,_,rfl⟩ hgc)|(exact absurd ⟨_,_,rfl⟩ hown)|(exact absurd ⟨_,_,_,rfl⟩ hfrz)|(exact absurd ⟨_,_,_,rfl⟩ hoc)|(simpa only[chk,Bool.and_eq_true] using hc)
       exact plain cx cy rfl this.1 this.2
      |_=>cases x <;> first|(exact absurd ⟨_,rfl⟩ hkp)|(exact absurd ⟨_,_,rfl⟩ hgc)|(exact absurd ⟨_,_,rfl⟩ hown)|(exact absurd ⟨_,_,_,rfl⟩ hfrz)|(exact absurd ⟨_,_,_,rfl⟩ hoc)|(simp [chk] at hc)
 |cond e x y ihx ihy=>
  refine⟨?_,fun code l g _ h=>by simp [exec.labelled] at h⟩
  intro code s r a w F σ hc he hs
  cases code <;> simp only[chk] at hc <;> (try(cases hc;done))
  rename_i oc cx cy
  simp only[Bool.and_eq_true,decide_eq_true_eq] at hc
  simp only[exec] at he
  cases hv:ev K s e with
  |none=>simp [hv] at he
  |some v=>
   cases v with
   |d k x=>
    cases x with
    |bool b=>
     simp only[hv] at he
     have hb:=(q9F hs hc.1.1 hv).bool_inv
     refine wp_cond hb ?_
     cases b with
     |true=>exact ihx.1 cx s r a w F σ hc.1.2 (by simpa using he) hs
     |false=>exact ihy.1 cy s r a w F σ hc.2 (by simpa using he) hs
    |_=>simp [hv] at he
   |_=>simp [hv] at he
 |block id x ih=>
  refine⟨?_,fun code l g _ h=>by simp [exec.labelled] at h⟩
  intro code s r a w F σ hc he hs
  cases code <;> simp only[chk] at hc <;> (try(cases hc;done))
  rename_i id' cx
  simp only[Bool.and_eq_true,beq_iff_eq] at hc
  obtain⟨rfl,hc⟩:=hc
  simp only[exec] at he
  cases hx:exec K x s with
  |none=>simp [hx] at he
  |some p=>
   obtain⟨ex,s'⟩:=p
   refine wp_block (wp_mono (ih.1 cx s _ a w F σ hc hx hs) fun e a' w' hp=>?_)
   obtain⟨rfl,F',σ',hs'⟩:=hp
   cases ex with
   |exit i=>
    simp only[hx] at he
    simp only[Ex.to,Exit.inBlock]
    split at he
    ·rename_i hi
     rw[if_pos hi]
     simp only[Option.some.injEq] at he
     subst he
     exact⟨rfl,F',σ',hs'⟩
    ·rename_i hi
     rw[if_neg hi]
     simp only[Option.some.injEq] at he
     subst he
     exact⟨rfl,F',σ',hs'⟩
   |nrm=>simp only[hx,Option.some.injEq] at he;subst he;exact⟨rfl,F',σ',hs'⟩
   |goto l=>simp only[hx,Option.some.injEq] at he;subst he;exact⟨rfl,F',σ',hs'⟩
   |ret=>simp only[hx,Option.some.injEq] at he;subst he;exact⟨rfl,F',σ',hs'⟩
 |loop x ih=>
  refine⟨?_,fun code l g _ h=>by simp [exec.labelled] at h⟩
  intro code s r a w F σ hc he hs
  cases code <;> simp only[chk] at hc <;> (try(cases hc;done))
  rename_i cx
  simp only[exec,q4f] at he
  split at he
  case isFalse=>cases he
  rename_i hex
  refine q7k (J:=fun m a w=>∃ s F σ,iter (exec K x) m s=some r∧StRel K X base w0 F0 m0 σ0 n s a w F σ) (fun a w h=>?_) (fun m a w h=>?_) (m:=hex.choose) ⟨s,F,σ,he,hs⟩
  ·obtain⟨s,F,σ,h,_⟩:=h
   simp [iter] at h
  ·obtain⟨s,F,σ,h,hs⟩:=h
   simp only[iter] at h
   cases hx:exec K x s with
   |none=>simp [hx] at h
   |some p=>
    obtain⟨ex,s'⟩:=p
    refine wp_mono (ih.1 cx s _ a w F σ hc hx hs) fun e a' w' hp=>?_
    obtain⟨rfl,F',σ',hs'⟩:=hp
    cases ex with
    |nrm=>simp only[hx] at h;exact⟨s',F',σ',h,hs'⟩
    |exit id=>simp only[hx,Option.some.injEq] at h;subst h;exact⟨rfl,F',σ',hs'⟩
    |goto l=>simp only[hx,Option.some.injEq] at h;subst h;exact⟨rfl,F',σ',hs'⟩
    |ret=>simp only[hx,Option.some.injEq] at h;subst h;exact⟨rfl,F',σ',hs'⟩
 |exit id=>
  refine⟨?_,fun code l g _ h=>by simp [exec.labelled] at h⟩
  intro code s r a w F σ hc he hs
  cases code <;> simp only[chk] at hc <;> (try(cases hc;done))
  simp only[beq_iff_eq] at hc
  subst hc
  simp only[exec,Option.some.injEq] at he
  subst he
  exact wp_exit ⟨rfl,F,σ,hs⟩
 |scope x ls ihx ihl=>
  refine⟨?_,fun code l g _ h=>by simp [exec.labelled] at h⟩
  intro code s r a w F σ hc he hs
  cases code <;> simp only[chk] at hc <;> (try(cases hc;done))
  rename_i cx
  simp only[Bool.and_eq_true] at hc
  simp only[exec,z1v] at he
  split at he
  case isFalse=>cases he
  rename_i hex
  generalize hex.choose=m at he
  cases m with
  |zero=>simp [q2I] at he
  |succ m=>
   have post:∀(m:Nat) (p:Ex×S) (e:Exit) (a:Act) (w:World),q2I (fun l=>exec.labelled K ls l) (m+1) (some p)=some r→Post K X base w0 F0 m0 σ0 n p e a w→
     Exit.jumpR (fun l a w=>∃ g s F σ,exec.labelled K ls l=some g∧q2I (fun l=>exec.labelled K ls l) m (g s)=some r∧StRel K X base w0 F0 m0 σ0 n s a w F σ) (Post K X base w0 F0 m0 σ0 n r) e a w:=by
    intro m p e a w hj hp
    obtain⟨ex,s'⟩:=p
    obtain⟨rfl,F',σ',hs'⟩:=hp
    simp only[q2I] at hj
    cases ex with
    |nrm=>simp only[Option.some.injEq] at hj;subst hj;exact⟨rfl,F',σ',hs'⟩
    |exit id=>simp only[Option.some.injEq] at hj;subst hj;exact⟨rfl,F',σ',hs'⟩
    |ret=>simp only[Option.some.injEq] at hj;subst hj;exact⟨rfl,F',σ',hs'⟩
    |goto l=>
     simp only at hj
     cases hl:exec.labelled K ls l with
     |none=>simp [hl] at hj
     |some g=>
      simp only[hl] at hj
      exact⟨g,s',F',σ',hl,hj,hs'⟩
   cases hx:exec K x s with
   |none=>simp [hx,q2I] at he
   |some p=>
    rw[hx] at he
    refine q6h (m:=m) (J:=fun m l a w=>∃ g s F σ,exec.labelled K ls l=some g∧q2I (fun l=>exec.labelled K ls l) m (g s)=some r∧StRel K X base w0 F0 m0 σ0 n s a w F σ) (fun l a w h=>?_) (fun m l a w h=>?_) (wp_mono (ihx.1 cx s _ a w F σ hc.1 hx hs) fun e a' w' hp=>post m p e a' w' he hp)
    ·obtain⟨g,s,F,σ,_,h,_⟩:=h
     simp [q2I] at h
    ·obtain⟨g,s,F,σ,hl,hj,hs⟩:=h
     obtain⟨rest,hf,hrest⟩:=ihl.2 cx l g hc.2 hl
     refine⟨rest,hf,?_⟩
     cases hg:g s with
     |none=>rw[hg] at hj;simp [q2I] at hj
     |some p=>
      rw[hg] at hj
      exact wp_mono (hrest s p a w F σ hg hs) fun e a' w' hp=>post m p e a' w' hj hp
 |lnil=>exact⟨fun code s r a w F σ hc he=>by simp [exec] at he,fun code l g _ h=>by simp [exec.labelled] at h⟩
 |lcons l0 c ls ihc ihl=>
  refine⟨fun code s r a w F σ hc he=>by simp [exec] at he,fun code l g hc h=>?_⟩
  have hc':((match findLabel code l0 with|some rest=>chk P m0 n c rest|none=>false)&&chk P m0 n ls code)=true:=by cases code <;> simpa only[chk] using hc
  simp only[Bool.and_eq_true] at hc'
  simp only[exec.labelled] at h
  split at h
  ·rename_i he
   subst he
   obtain rfl:=Option.some.inj h
   cases hf:findLabel code l0 with
   |none=>simp [hf] at hc'
   |some rest=>
    simp only[hf] at hc'
    exact⟨rest,rfl,fun s r a w F σ he hs=>ihc.1 rest s r a w F σ hc'.1 he hs⟩
  ·exact ihl.2 code l g hc'.2 h
 |label l=>
  refine⟨?_,fun code l g _ h=>by simp [exec.labelled] at h⟩
  intro code s r a w F σ hc he hs
  cases code <;> simp only[chk] at hc <;> (try(cases hc;done))
  simp only[exec,Option.some.injEq] at he
  subst he
  exact wp_label ⟨rfl,F,σ,hs⟩
 |goto l=>
  refine⟨?_,fun code l g _ h=>by simp [exec.labelled] at h⟩
  intro code s r a w F σ hc he hs
  cases code <;> simp only[chk] at hc <;> (try(cases hc;done))
  simp only[beq_iff_eq] at hc
  subst hc
  simp only[exec,Option.some.injEq] at he
  subst he
  exact wp_goto ⟨rfl,F,σ,hs⟩
 |ret=>
  refine⟨?_,fun code l g _ h=>by simp [exec.labelled] at h⟩
  intro code s r a w F σ hc he hs
  cases code <;> simp only[chk] at hc <;> (try(cases hc;done))
  simp only[exec,Option.some.injEq] at he
  subst he
  exact wp_ret ⟨rfl,F,σ,hs⟩
 |keep=>exact⟨fun code s r a w F σ hc he=>by cases code <;> simp [chk] at hc,fun code l g _ h=>by simp [exec.labelled] at h⟩
 |tidy=>exact⟨fun code s r a w F σ hc he=>by cases code <;> simp [chk] at hc,fun code l g _ h=>by simp [exec.labelled] at h⟩
 |own=>exact⟨fun code s r a w F σ hc he=>by cases code <;> simp [chk] at hc,fun code l g _ h=>by simp [exec.labelled] at h⟩
 |stuck=>exact⟨fun code s r a w F σ hc he=>by simp [exec] at he,fun code l g _ h=>by simp [exec.labelled] at h⟩
 |frz=>exact⟨fun code s r a w F σ hc he=>by cases code <;> simp [chk] at hc,fun code l g _ h=>by simp [exec.labelled] at h⟩
theorem z3i(hm:P.follows .mixedOrders=true)(hK:K.Sound P)(c:C)(code:Code)(s:S)(r:Ex×S)(a:Act)(w:World)(F:Nat→Prop)(σ:Nat→Option Loc)(hc:chk P m0 n c code=true)(he:exec K c s=some r)(hs:StRel K X base w0 F0 m0 σ0 n s a w F σ) :
  code.wp P (Post K X base w0 F0 m0 σ0 n r) a w:=(z6q hm hK c).1 code s r a w F σ hc he hs
end Go.Vm
end
