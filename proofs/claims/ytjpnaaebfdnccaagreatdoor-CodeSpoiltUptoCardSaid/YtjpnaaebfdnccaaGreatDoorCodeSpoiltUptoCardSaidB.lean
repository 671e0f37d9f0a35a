/-
  Parts of the proof: Stores and appends do what the abstract machine says. Appends do what the abstract machine says. An append does what the abstract machine says. An append does what the abstract machine says: the operation itself. A call that writes does what the machine says. A call that writes, as an operation of a region. Which parts of an expression are worked out, and under which conditions. The operations of a piece of a region, one by one; what is checked of them. What holds while a piece of a region is carried out. One operation of a piece is carried out. A piece of a region: what is checked of it, and the trace of the memory that it makes. A piece of a region that passed the check does what the machine says. A piece of a region, in any order that its edges allow. Regions: in the order of the text, or in any order that the edges allow. A block that only one cell leads to, becomes data (frzS of VmJ). Pieces whose operations have one guard, and memory that becomes data ahead of a piece. Conditions: none.
-/
import Derived.Test.YtjpnaaebfdnccaaGreatDoorCodeSpoiltUptoCardSaidA
import Derived.Lib.AppendStr
import Derived.Orders
set_option linter.unusedVariables false
set_option linter.unusedSimpArgs false

section
namespace Go.Vm
theorem z2Z{blk blk':Blk}{i j:Nat}{cs:List V}(h:blk.set i j cs=some blk'):blk'.entries=none:=by
 cases blk with
 |map es=>simp [Blk.set] at h
 |dat c k rows=>
  simp only[Blk.set] at h
  split at h <;> (try cases h)
  split at h <;> (try cases h)
  split at h <;> (injection h with h;subst h;rfl)
 |mix k rows=>
  simp only[Blk.set] at h
  split at h <;> (try cases h)
  split at h <;> (try cases h)
  rfl
open Go.RowKit
variable {P:Program}{w w':World}{F F':Nat→Prop}{X:Nat→Nat→Prop}{base nx:Nat}{σ σ':Nat→Option Loc}{K:Cx}{s:S}{a:Act}{o:Oper}{env:Env}{H:List (Nat×Blk)}
def q6a(P:Program)(env:Env)(o:Oper):Option (Nat×E×E):=
 match o.op with
 |.store t x y=>match P.info? t,q0j P env 0 x,q0j P env t y with
  |some i,some ex,some ey=>if o.dst=none then some (i.size,ex,ey) else none
  |_,_,_=>none
 |_=>none
def appK(P:Program)(env:Env)(o:Oper):Option (Nat×E×E):=
 match o.op with
 |.call { callee:=.builtin .append,args,argTypes }=>match args.toList,argTypes.toList with
  |[x,y],[t,t']=>if t'=t then match P.underlying t,q0j P env t x,q0j P env t y with
   |some (.slice e),some ex,some ey=>match P.info? e with
    |some i=>match i.zero with
     |some z=>if i.bytes≤64∧0<i.size∧z.cells.size=i.size∧o.dst.isSome then some (i.size,ex,ey) else none
     |none=>none
    |none=>none
   |_,_,_=>none
   else match P.underlying t,P.underlying t',q0j P env t x,q0j P env t' y with
   |some (.slice e),some .string,some ex,some ey=>match P.underlying e,P.info? e with
    |some (.int .u8),some i=>match i.zero with
     |some (.int .u8 0)=>if i.size=1∧i.bytes=1∧o.dst.isSome then some (1,ex,.s2r ey) else none
     |_=>none
    |_,_=>none
   |_,_,_,_=>none
  |_,_=>none
 |_=>none
def effK(P:Program)(env:Env)(o:Oper):Option (FuncId×E):=
 match o.op with
 |.call { callee:=.value (.func f),args,argTypes }=>if q0p P f&&f != dynF then(mapO (fun(x,i)=>q0j P env (argTypes.getD i 0) x) args.toList.zipIdx).map fun es=>(f,q3z es) else none
 |.call { callee:=.value (.tmp t),args,argTypes }=>(mapO (fun(x,i)=>q0j P env (argTypes.getD i 0) x) args.toList.zipIdx).map fun es=>(dynF,.cons (env.get t) (q3z es))
 |_=>none
def mapK(P:Program)(env:Env)(o:Oper):Option Wr:=
 match o.op with
 |.mapUpdate t m k x|.insert t m k x=>match P.underlying t with
  |some (.map kt et)=>match P.underlying kt with
   |some dk=>match q27 dk,q0j P env t m,q0j P env kt k,q0j P env et x with
    |some kk,some em,some ek,some ex=>if o.dst=none then some (.mset kk em ek ex) else none
    |_,_,_,_=>none
   |none=>none
  |_=>none
 |.call { callee:=.builtin .clear,args,argTypes }=>match args.toList,argTypes.toList with
  |[x],[t]=>match P.underlying t,q0j P env t x with
   |some (.map _ _),some e=>if o.dst=none then some (.mclr e) else none
   |_,_=>none
  |_,_=>none
 |_=>none
def z1M(P:Program)(env:Env)(o:Oper):Option E:=
 match o.op with
 |.convert src dst x=>if src=dst∧o.dst.isSome then match P.underlying src,q0j P env src x with
  |some (.slice e),some ex=>match P.underlying e with
   |some (.int .u8)=>some ex
   |_=>none
  |_,_=>none
  else none
 |_=>none
def panK(P:Program)(env:Env)(o:Oper):Option E:=
 match o.op with
 |.panic x=>q0j P env 0 x
 |_=>none
def wrK(P:Program)(env:Env)(o:Oper):Option Wr:=
 match q6a P env o with
 |some (n,x,v)=>some (.store n x v)
 |none=>match appK P env o with
  |some (k,x,y)=>some (.app k x y)
  |none=>match z1M P env o with
   |some e=>some (.mark e)
   |none=>match panK P env o with
    |some e=>some (.panic e)
    |none=>mapK P env o
def q5S(p:Lost)(x:V):V:=match p with
 |.some b=>x.forget (·== b)
 |.none=>x
 |.many []=>x
 |.many l=>x.forget l.contains
structure Wrote(w w':World)(F F':Nat→Prop)(X:Nat→Nat→Prop)(base:Nat)(σ σ':Nat→Option Loc)(p:Lost)(nx:Nat)(H':List (Nat×Blk)):Prop where
 frame:Frame X base w w'
 froz:∀ b,F b→F' b∧w'.heap[b]? = w.heap[b]?
 newf:∀ b,F' b→F b∨base≤b
 val:∀ v x,RepV w F base σ v x→RepV w' F' base σ' v (q5S p x)
 heap:HeapRel w' F' X base σ' nx (loseH p H')
 stab:∀ b l,σ b=some l→b∉p.ids→σ' b=some l
theorem q9x{g of:Nat}{T:TypeId}{cur vs:Array Value}(hg:RowAt w g cur T)(hl:of+vs.size≤cur.size)(h1:∀ v∈vs,v.oneCell'=true) :
  (storeCells ⟨g,of,none⟩ vs.toList).run P w=.ok () (w.setRow g (cur.toList.take of++vs.toList++cur.toList.drop (of+vs.size)).toArray):=by
 obtain⟨fz,hg,hfz⟩:=hg
 have:=q16 P g of T fz vs.toList 0 cur w hg hfz (by simpa using hl) (fun v hv=>h1 v (by simpa using hv))
 simpa using this
theorem RepV.setRow{g:Nat}{cs:Array Value}(hg:¬ F g){v:Value}{x:V}(h:RepV w F base σ v x):RepV (w.setRow g cs) F base σ v x:=
 h.mono (fun b hb=>⟨hb,setRow_other w g b cs (by rintro rfl;exact hg hb)⟩) (fun _ _ h=>h)
theorem z5f{n:Nat}{ea ev':E}{H':List (Nat×Blk)}{r:V}{p:Lost}{nx':Nat}(hw:q6a P env o=some (n,ea,ev'))(hev:evWr K s H (.store n ea ev')=some (H',r,p,nx'))
  (hops:∀ x∈o.op.operands.toList,Held P K s env w F base σ a x) (hH:HeapRel w F X base σ nx H) {next:Act→World→Prop} {Q:Exit→Act→World→Prop}
  (hn:∀ w',Wrote w w' F F X base σ σ p nx H'→next (a.put o.dst undef) w'):o.wp P a w next Q:=by
 have held:∀ x,x∈o.op.operands.toList→∀ t e r,q0j P env t x=some e→ev K s e=some r→RepV w F base σ (a.eval x) r:=hops
 unfold q6a at hw
 cases hop:o.op with
 |store t x y=>
  simp only[hop] at hw held
  cases hi:P.info? t with
  |none=>simp [hi] at hw
  |some i=>
   cases hx:q0j P env 0 x with
   |none=>simp [hi,hx] at hw
   |some ex=>
    cases hy:q0j P env t y with
    |none=>simp [hi,hx,hy] at hw
    |some ey=>
     simp only[hi,hx,hy] at hw
     split at hw
     case isFalse=>cases hw
     simp only[Option.some.injEq,Prod.mk.injEq] at hw
     obtain⟨rfl,rfl,rfl⟩:=hw
     simp only[evWr] at hev
     cases hva:ev K s ex with
     |none=>simp [hva] at hev
     |some va=>
      cases hvv:ev K s ey with
      |none=>cases va <;> simp [hva,hvv] at hev
      |some vv=>
       have hA:=held x (by simp [Op.operands]) _ _ _ hx hva
       have hV:=held y (by simp [Op.operands]) _ _ _ hy hvv
       cases va with
       |ptr b i0 j=>
        simp only[hva,hvv] at hev
        split at hev
        case isFalse=>cases hev
        rename_i hl
        simp only[Bool.and_eq_true,beq_iff_eq] at hl
        cases hb:look H b with
        |none=>simp [hb] at hev
        |some blk=>
         cases hs:blk.set i0 j vv.cells with
         |none=>simp [hb,hs] at hev
         |some blk'=>
          simp only[hb,hs,Option.some.injEq,Prod.mk.injEq] at hev
          obtain⟨rfl,rfl,rfl,rfl⟩:=hev
          generalize hae:a.eval x=va at hA
          cases hA with
          |ptr _ _ _ l hl'=>
           rcases hH.blk b blk hb with⟨_,hn'⟩|⟨l',es,ck,ds,rfl,_⟩|⟨l',cs,T,h1,h2,h3,h4,h5,h6,h7⟩
           ·rw[hn'] at hl';cases hl'
           ·simp [Blk.set] at hs
           ·obtain rfl:l=l':=by rw[hl'] at h1;exact Option.some.inj h1
            obtain⟨c1,c2,c3⟩:=hV.cells hl.1
            rw[h3] at h5 h6
            obtain⟨g1,g2,g3,g4⟩:=z0U (w:=w) (F:=F) (base:=base) (σ:=σ) hs h4 h5 h6 c1 c2 c3
            obtain⟨o1,o2,o3,o4⟩:=hH.own b l hl'
            have hrun:(execOp a.eval o).run P w=.ok .skip (w.setRow l.blk (cs.toList.take (i0*blk.k+j)++(a.eval y).cells.toList++cs.toList.drop (i0*blk.k+j+(a.eval y).cells.size)).toArray):=by
             have hst:=q9x (P:=P) (of:=i0*blk.k+j) (vs:=(a.eval y).cells) h2 g3 c3
             have hsz:(a.eval y).cells.size=i.size:=by rw[c1];exact hl.2
             rw[h3] at hae
             simp [execOp,hop,Instr.storeAt,hae,Instr.sureAddr,storeVar,q1t hi,hsz,hst]
            unfold Oper.wp
            rw[hrun]
            refine hn _ ⟨.setRow o3,fun b hb=>⟨hb,setRow_other w _ b _ (by rintro rfl;exact o2 hb)⟩,fun _ h=>.inl h,fun v x h=>h.setRow o2,⟨fun b' blk0 hb'=>?_,hH.inj,fun b' l' h=>by simpa using hH.own b' l' h,fun b h=>by simpa using hH.fro b h⟩,fun _ _ h _=>h⟩
            simp only[loseH] at hb'
            rw[q0u] at hb'
            split at hb'
            ·rename_i hbb
             subst hbb
             obtain rfl:=Option.some.inj hb'
             refine .inr <| .inr ⟨l,_,T,hl',h2.set (by simp;omega),by rw[g1];exact h3,by rw[g2];exact h4,by simp only[List.size_toArray,List.length_append,List.length_take,List.length_drop,Array.length_toList,h3];omega,fun i' row hr=>?_,z2Z hs⟩
             obtain⟨q1,q2⟩:=g4 i' row hr
             refine⟨by rw[g1];exact q1,fun j' x hx=>?_⟩
             obtain⟨v,r1,r2,r3⟩:=q2 j' x hx
             exact⟨v,by rw[h3];exact r1,r2,r3.setRow o2⟩
            ·rename_i hbb
             rcases hH.blk b' blk0 hb' with hv0|⟨l0,es0,ck0,ds0,rfl,k1,k2,k3,k4,k5⟩|⟨l0,cs0,T0,k1,k2,k3,k4,k5,k6,k7⟩
             ·exact .inl hv0
             ·have hne:l0.blk≠l.blk:=fun h=>hbb (hH.inj b b' l l0 hl' k1 h.symm)
              exact .inr (.inl ⟨l0,es0,ck0,ds0,rfl,k1,k2.of0 (setRow_other w _ _ _ hne) (fun _ _ h=>h),k3,k4,k5.trans0 fun v x h=>h.setRow o2⟩)
             ·have hne:l0.blk≠l.blk:=fun h=>hbb (hH.inj b b' l l0 hl' k1 h.symm)
              refine .inr <| .inr ⟨l0,cs0,T0,k1,k2.of (setRow_other w _ _ _ hne),k3,k4,k5,fun i' row hr=>⟨(k6 i' row hr).1,fun j' x hx=>?_⟩,k7⟩
              obtain⟨v,r1,r2,r3⟩:=(k6 i' row hr).2 j' x hx
              exact⟨v,r1,r2,r3.setRow o2⟩
       |_=>simp [hva,hvv] at hev
 |_=>simp [hop] at hw
end Go.Vm
namespace Go.Vm
open Go.RowKit
variable {P:Program}{w w':World}{F F':Nat→Prop}{X:Nat→Nat→Prop}{base nx:Nat}{σ σ':Nat→Option Loc}{K:Cx}{s:S}{a:Act}{o:Oper}{env:Env}{H:List (Nat×Blk)}
def World.toMap(w:World)(g:Nat)(es:Array MapEntry)(ck:Nat):World:={ w with heap:=w.heap.setIfInBounds g (.map es ck) }
theorem q4A(w:World)(g b:Nat)(es:Array MapEntry)(ck:Nat)(h:b≠g):(World.toMap w g es ck).heap[b]? = w.heap[b]?:=by
 simp [World.toMap,Array.getElem?_setIfInBounds,Ne.symm h]
theorem z5c(w:World)(g:Nat)(es:Array MapEntry)(ck:Nat)(h:g<w.heap.size):(World.toMap w g es ck).heap[g]? = some (.map es ck):=by
 simp [World.toMap,Array.getElem?_setIfInBounds,h]
theorem q6Z(w:World)(g:Nat)(es:Array MapEntry)(ck:Nat):(World.toMap w g es ck).heap.size=w.heap.size:=by
 simp [World.toMap]
theorem z1N(hH:HeapRel w F X base σ nx H){b:Nat}{l:Loc}{ds':List (D×V)}{es:Array MapEntry}{ck:Nat}(hl:σ b=some l)(hk:l.k=0)(hx:l.ext=0)(hm:MapRel w F base σ es ds')(ht:q2p ds'=false) :
  Wrote w (World.toMap w l.blk es ck) F F X base σ σ .none nx (put H b (.map ds')):=by
 obtain⟨o1,o2,o3,o4⟩:=hH.own b l hl
 have hF:∀ q,F q→F q∧(World.toMap w l.blk es ck).heap[q]? = w.heap[q]?:=fun q hq=>⟨hq,q4A _ _ _ _ _ (by rintro rfl;exact o2 hq)⟩
 have hval:∀ v x,RepV w F base σ v x→RepV (World.toMap w l.blk es ck) F base σ v x:=fun v x h=>h.mono hF (fun _ _ h=>h)
 refine⟨⟨rfl,rfl,rfl,by rw[q6Z];exact Nat.le_refl _,fun q hq hX=>q4A _ _ _ _ _ (by rintro rfl;rcases o3 with h|h <;> first|omega|exact hX _ h)⟩,hF,fun _ h=>.inl h,fun v x h=>hval v x h,⟨fun q blk hq=>?_,hH.inj,fun q l' h=>by
  obtain⟨h1,h2,h3,h4⟩:=hH.own q l' h
  exact⟨h1,h2,h3,by rw[q6Z];exact h4⟩,fun q h=>by rw[q6Z];exact hH.fro q h⟩,fun _ _ h _=>h⟩
 simp only[loseH] at hq
 rw[q0u] at hq
 split at hq
 ·rename_i hqb
  subst hqb
  obtain rfl:=Option.some.inj hq
  exact .inr (.inl ⟨l,es,ck,ds',rfl,hl,.inl ⟨z5c _ _ _ _ o4,hx,ht⟩,hk,trivial,hm.trans0 hval⟩)
 ·rename_i hqb
  have hne:∀ l',σ q=some l'→l'.blk≠l.blk:=fun l' hl' h=>hqb (hH.inj b q l l' hl hl' h.symm)
  rcases hH.blk q blk hq with hv0|⟨l0,es0,ck0,ds0,rfl,k1,k2,k3,k4,k5⟩|⟨l0,cs0,T0,k1,k2,k3,k4,k5,k6,k7⟩
  ·exact .inl hv0
  ·exact .inr (.inl ⟨l0,es0,ck0,ds0,rfl,k1,k2.of0 (q4A _ _ _ _ _ (hne l0 k1)) (fun _ _ h=>h),k3,k4,k5.trans0 hval⟩)
  ·refine .inr <| .inr ⟨l0,cs0,T0,k1,k2.of (by rw[q4A _ _ _ _ _ (hne l0 k1)]),k3,k4,k5,fun i' row hr=>⟨(k6 i' row hr).1,fun j' x hx=>?_⟩,k7⟩
   obtain⟨v,r1,r2,r3⟩:=(k6 i' row hr).2 j' x hx
   exact⟨v,r1,r2,hval _ _ r3⟩
theorem q9L{dk:TypeDesc}{kk:Nat}(hkk:q27 dk=some kk){w1:World}{F1:Nat→Prop}{u:Value}{d:D}(hu:RepD w1 F1 u d):∀(es:List MapEntry)(ds ds':List (D×V))(n:Nat)(x:V),es.length=ds.length→
  (∀(i:Nat) (e:MapEntry) (p:D×V),es[i]? = some e→ds[i]? = some p→RepD w F e.key p.1)→setE kk d x ds=some ds'→
  (Instr.findNow dk u es n=some none∧ds'=ds++[(d,x)]∧q3A kk d d≠none)∨∃ j e p,Instr.findNow dk u es n=some (some (n+j,e.val))∧es[j]? = some e∧e.key=u∧ds[j]? = some p∧ds'=ds.set j (p.1,x)
 |[],[],ds',n,x,_,_,h=>by
  simp only[setE] at h
  cases hk:q3A kk d d with
  |none=>simp [hk] at h
  |some b=>
   simp only[hk,Option.some.injEq] at h
   exact .inl ⟨rfl,h.symm,by simp⟩
 |[],_ :: _,_,_,_,hl,_,_=>by simp at hl
 |_ :: _,[],_,_,_,hl,_,_=>by simp at hl
 |e :: es,(k',v) :: ds,ds',n,x,hl,hr,h=>by
  have g2:=hr 0 e (k',v) rfl rfl
  simp only[setE] at h
  cases hk:q3A kk d k' with
  |none=>simp [hk] at h
  |some b=>
   obtain⟨q1,q2⟩:=q8T hkk hk hu g2
   cases b with
   |true=>
    simp only[hk,Option.some.injEq] at h
    exact .inr ⟨0,e,(k',v),by simp [Instr.findNow,q1],rfl,(q2 rfl).symm,rfl,h.symm⟩
   |false=>
    simp only[hk] at h
    cases hs:setE kk d x ds with
    |none=>simp [hs] at h
    |some r=>
     simp only[hs,Option.some.injEq] at h
     subst h
     rcases q9L hkk hu es ds r (n+1) x (by simpa using hl) (fun i e p h1 h2=>hr (i+1) e p (by simpa using h1) (by simpa using h2)) hs with⟨h1,h2,h3⟩|⟨j,e',p,h1,h2,h3,h4,h5⟩
     ·exact .inl ⟨by simp [Instr.findNow,q1,h1],by rw[h2];rfl,h3⟩
     ·exact .inr ⟨j+1,e',p,by simp [Instr.findNow,q1,h1];omega,by simpa using h2,h3,by simpa using h4,by rw[h5];rfl⟩
theorem z5A{dk:TypeDesc}{kk:Nat}(hkk:q27 dk=some kk){w1:World}{F1:Nat→Prop}{u:Value}{d:D}(hu:RepD w1 F1 u d)(hbad:q3A kk d d=none){ds ds':List (D×V)}{x:V}{j:Nat}{p:D×V}(hs:setE kk d x ds=some ds')(hp:ds[j]? = some p):False:=by
 have one:∀ k',q3A kk d k'=none:=by
  intro k'
  rcases kk with _|_|_|kk <;> cases d <;> first|(simp [q3A] at hbad;done)|(cases k' <;> rfl)
 cases ds with
 |nil=>simp at hp
 |cons q ds=>
  obtain⟨k',v⟩:=q
  simp [setE,one] at hs
theorem q7A{kk:Nat}{u:Value}{d:D}(hu:RepD w F u d)(h:q3A kk d d≠none)(n:Nat):Instr.sameBits n u u=true∧d.flat=true:=by
 rcases kk with _|_|_|kk <;> cases hu <;> first|(simp [q3A] at h;done)|skip
 ·cases n <;> simp [Instr.sameBits,D.flat]
 ·cases n <;> simp [Instr.sameBits,D.flat]
 ·cases n <;> simp [Instr.sameBits,D.flat,MapKept.bytes_beq]
theorem z1O{wr:Wr}{H':List (Nat×Blk)}{r:V}{p:Lost}{nx':Nat}(hw:mapK P env o=some wr)(hev:evWr K s H wr=some (H',r,p,nx')):p=.none∧nx'=s.nx∧o.dst=none:=by
 have key:(∃ kk m k x,wr=.mset kk m k x)∨(∃ m,wr=.mclr m)∧True:=by
  unfold mapK at hw
  split at hw
  ·split at hw <;> (try(cases hw;done))
   split at hw <;> (try(cases hw;done))
   split at hw <;> (try(cases hw;done))
   split at hw <;> (try(cases hw;done))
   obtain rfl:=Option.some.inj hw
   exact .inl ⟨_,_,_,_,rfl⟩
  ·split at hw <;> (try(cases hw;done))
   split at hw <;> (try(cases hw;done))
   split at hw <;> (try(cases hw;done))
   split at hw <;> (try(cases hw;done))
   obtain rfl:=Option.some.inj hw
   exact .inl ⟨_,_,_,_,rfl⟩
  ·split at hw <;> (try(cases hw;done))
   split at hw <;> (try(cases hw;done))
   split at hw <;> (try(cases hw;done))
   obtain rfl:=Option.some.inj hw
   exact .inr ⟨⟨_,rfl⟩,trivial⟩
  ·cases hw
 have hd:o.dst=none:=by
  unfold mapK at hw
  split at hw
  ·split at hw <;> (try(cases hw;done))
   split at hw <;> (try(cases hw;done))
   split at hw <;> (try(cases hw;done))
   split at hw <;> (try(cases hw;done))
   assumption
  ·split at hw <;> (try(cases hw;done))
   split at hw <;> (try(cases hw;done))
   split at hw <;> (try(cases hw;done))
   split at hw <;> (try(cases hw;done))
   assumption
  ·split at hw <;> (try(cases hw;done))
   split at hw <;> (try(cases hw;done))
   split at hw <;> (try(cases hw;done))
   assumption
  ·cases hw
 rcases key with⟨kk,m,k,x,rfl⟩|⟨⟨m,rfl⟩,_⟩
 ·simp only[evWr] at hev
  split at hev <;> (try(cases hev;done))
  split at hev <;> (try(cases hev;done))
  split at hev <;> (try(cases hev;done))
  split at hev <;> (try(cases hev;done))
  split at hev <;> (try(cases hev;done))
  simp only[Option.some.injEq,Prod.mk.injEq] at hev
  exact⟨hev.2.2.1.symm,hev.2.2.2.symm,hd⟩
 ·simp only[evWr] at hev
  split at hev <;> (try(cases hev;done))
  split at hev <;> (try(cases hev;done))
  split at hev <;> (try(cases hev;done))
  split at hev <;> (try(cases hev;done))
  simp only[Option.some.injEq,Prod.mk.injEq] at hev
  exact⟨hev.2.2.1.symm,hev.2.2.2.symm,hd⟩
theorem z3R{kk:Nat}{k:D}{x:V}{ds ds':List (D×V)}(h:setE kk k x ds=some ds'):q2p ds=false:=by
 cases ds with
 |nil=>rfl
 |cons p ds=>
  obtain⟨d,v⟩:=p
  cases d with
  |nils T=>simp only[setE,q7g] at h;cases h
  |emps T=>simp only[setE,q7h] at h;cases h
  |_=>rfl
theorem z7a{kk:Nat}{k:D}{x:V}{ds ds':List (D×V)}(h:setE kk k x ds=some ds'):q2p ds'=false:=by
 have h0:=z3R h
 cases ds with
 |nil=>
  simp only[setE] at h
  split at h
  ·rename_i b hb
   obtain rfl:=Option.some.inj h
   cases k with
   |nils T=>rw[q7g] at hb;cases hb
   |emps T=>rw[q7h] at hb;cases hb
   |_=>rfl
  ·cases h
 |cons p ds=>
  obtain⟨d,v⟩:=p
  simp only[setE] at h
  split at h
  ·obtain rfl:=Option.some.inj h
   cases d <;> first|rfl|(simp [q2p] at h0)
  ·split at h
   ·obtain rfl:=Option.some.inj h
    cases d <;> first|rfl|(simp [q2p] at h0)
   ·cases h
  ·cases h
theorem z7H{t kt et:TypeId}{dk:TypeDesc}{kk:Nat}{m k x:Operand}(ho:o.op=.mapUpdate t m k x∨o.op=.insert t m k x)(ht:P.underlying t=some (.map kt et))(hk:P.underlying kt=some dk)(hkk:q27 dk=some kk)(hd:o.dst=none)
  {b:Nat} {c:Bool} {d:D} {y:V} (hm:RepV w F base σ (a.eval m) (.map b)) (hkv:RepV w F base σ (a.eval k) (.d c d)) (hx:RepV w F base σ (a.eval x) y) {blk:Blk} {ds ds':List (D×V)} (hb:look H b=some blk) (he:blk.entries=some ds) (hs:setE kk d y ds=some ds')
  (hH:HeapRel w F X base σ nx H) {next:Act→World→Prop} {Q:Exit→Act→World→Prop}
  (hn:∀ w',Wrote w w' F F X base σ σ .none nx (put H b (.map ds'))→next (a.put o.dst undef) w'):o.wp P a w next Q:=by
 generalize hmv:a.eval m=mv at hm
 generalize hkvv:a.eval k=kv at hkv
 cases hm with
 |map _ l hl=>
  obtain⟨es,ck,h1,rfl,h2,h3,h5⟩:=q6n hH hl hb he (z3R hs)
  cases hkv with
  |d _ _ _ hkd=>
   have hck:=q4D (P:=P) (w:=w) hk hkk false 9999 kv
   have finish:∀ es' ck',(Instr.mapUpdate t (.map (some l.blk)) kv (a.eval x)).run P w=.ok () (World.toMap w l.blk es' ck')→MapRel w F base σ es' ds'→o.wp P a w next Q:=by
    intro es' ck' hrun hmr
    have hrun':(execOp a.eval o).run P w=.ok .skip (World.toMap w l.blk es' ck'):=by
     rcases ho with ho|ho <;> simp [execOp,ho,hmv,hkvv,hrun]
    unfold Oper.wp
    rw[hrun']
    exact hn _ (z1N (es:=es') (ck:=ck') (ds':=ds') hH hl h2 h3 hmr (z7a hs))
   rcases q9L hkk hkd es.toList ds ds' 0 y (by simpa using h5.1) (fun i e p g1 g2=>(h5.2 i e p (by simpa using g1) g2).2.1) hs with⟨g1,g2,g3⟩|⟨j,e,p,g1,g2,g3,g4,g5⟩
   ·have hfk:=MapKept.run_findKey (P:=P) (w:=w) hk g1
    refine finish (es.push { key:=kv,val:=a.eval x,born:=ck }) (ck+1) ?_ ?_
    ·simp [Instr.mapUpdate,run_underlying ht,MapKept.run_getObj_map h1,hck,hfk,MapKept.run_setObj_map _ h1,Result.andThen,World.toMap]
    ·subst g2
     refine⟨by simp [h5.1],fun i e p q1 q2=>?_⟩
     by_cases hi:i<es.size
     ·rw[Array.getElem?_push_lt hi] at q1
      rw[List.getElem?_append_left (by rw[←h5.1];exact hi)] at q2
      exact h5.2 i e p (by rw[Array.getElem?_eq_getElem hi];exact q1) q2
     ·have hi':i=es.size:=by
       have:=(Array.getElem?_eq_some_iff.1 q1).1
       simp at this;omega
      subst hi'
      simp at q1
      rw[List.getElem?_append_right (by rw[h5.1];exact Nat.le_refl _),h5.1] at q2
      simp at q2
      subst q1;subst q2
      have hfl:=(q7A hkd g3 0).2
      exact⟨hfl,hkd.flat hfl,hx⟩
   ·have hfk:=MapKept.run_findKey (P:=P) (w:=w) hk g1
    have hj:es[j]? = some e:=by simpa using g2
    have hks:q3A kk d d≠none:=by
     intro hbad
     have hpd:=(h5.2 j e p hj g4).2.1
     rw[g3] at hpd
     -- the key that was found is of a kind that can be held against itself
     exact z5A hkk hkd hbad hs g4
    have hst:(Instr.keyThatStays kv kv).run P w=.ok kv w:=by simp [Instr.keyThatStays,(q7A hkd hks 10000).1]
    refine finish (es.modify j fun e=>{ e with key:=kv,val:=a.eval x }) ck ?_ ?_
    ·simp [Instr.mapUpdate,run_underlying ht,MapKept.run_getObj_map h1,hck,hfk,hj,g3,hst,MapKept.run_setObj_map _ h1,Result.andThen,World.toMap]
    ·subst g5
     refine⟨by simp [h5.1],fun i e' p' q1 q2=>?_⟩
     rw[Array.getElem?_modify] at q1
     by_cases hij:j=i
     ·subst hij
      rw[if_pos rfl,hj] at q1
      simp at q1
      rw[List.getElem?_set_self (List.getElem?_eq_some_iff.1 g4).1] at q2
      simp at q2
      subst q1;subst q2
      obtain⟨r1,r2,r3⟩:=h5.2 j e p hj g4
      rw[g3] at r2
      exact⟨r1,r2,hx⟩
     ·rw[if_neg hij] at q1
      rw[List.getElem?_set_ne hij] at q2
      exact h5.2 i e' p' q1 q2
theorem z7O{t kt et:TypeId}{x:Operand}(ho:o.op=.call { callee:=.builtin .clear,args:=#[x],argTypes:=#[t] })(ht:P.underlying t=some (.map kt et))(hd:o.dst=none)
  {b:Nat} (hm:RepV w F base σ (a.eval x) (.map b)) {blk:Blk} {ds:List (D×V)} (hb:look H b=some blk) (he:blk.entries=some ds) (hg:q2p ds=false)
  (hH:HeapRel w F X base σ nx H) {next:Act→World→Prop} {Q:Exit→Act→World→Prop}
  (hn:∀ w',Wrote w w' F F X base σ σ .none nx (put H b (.map []))→next (a.put o.dst undef) w'):o.wp P a w next Q:=by
 generalize hmv:a.eval x=mv at hm
 cases hm with
 |map _ l hl=>
  obtain⟨es,ck,h1,rfl,h2,h3,h5⟩:=q6n hH hl hb he hg
  have hrun:(execOp a.eval o).run P w=.ok (.value (.tuple #[])) (World.toMap w l.blk #[] ck):=by
   simp [execOp,ho,hmv,resolve,invoke,builtin,Builtin.clear_,run_underlying ht,MapKept.run_getObj_map h1,MapKept.run_setObj_map _ h1,Result.andThen,World.toMap]
  unfold Oper.wp
  rw[hrun]
  have:=hn _ (z1N (es:=#[]) (ck:=ck) (ds':=[]) hH hl h2 h3 ⟨rfl,fun i e p q=>by simp at q⟩ rfl)
  rw[hd] at this
  show next (a.put o.dst (.tuple #[])) _
  rw[hd]
  exact this
theorem j0n{wr:Wr}{H':List (Nat×Blk)}{r:V}{p:Lost}{nx':Nat}(hw:mapK P env o=some wr)(hev:evWr K s H wr=some (H',r,p,nx'))
  (hops:∀ x∈o.op.operands.toList,Held P K s env w F base σ a x) (hH:HeapRel w F X base σ nx H) {next:Act→World→Prop} {Q:Exit→Act→World→Prop}
  (hn:∀ w',Wrote w w' F F X base σ σ p nx H'→next (a.put o.dst undef) w'):o.wp P a w next Q:=by
 have hw0:=hw
 obtain⟨hp0,_,hd0⟩:=z1O hw hev
 have held:∀ x,x∈o.op.operands.toList→∀ t e r,q0j P env t x=some e→ev K s e=some r→RepV w F base σ (a.eval x) r:=hops
 have upd:∀ t m k x,(o.op=.mapUpdate t m k x∨o.op=.insert t m k x)→(m∈o.op.operands.toList∧k∈o.op.operands.toList∧x∈o.op.operands.toList)→(match P.underlying t with
  |some (.map kt et)=>match P.underlying kt with
   |some dk=>match q27 dk,q0j P env t m,q0j P env kt k,q0j P env et x with
    |some kk,some em,some ek,some ex=>if o.dst=none then some (.mset kk em ek ex) else none
    |_,_,_,_=>none
   |none=>none
  |_=>none)=some wr→o.wp P a w next Q:=by
  intro t m k x ho ⟨i1,i2,i3⟩ hw
  split at hw <;> (try(cases hw;done))
  rename_i kt et ht
  split at hw <;> (try(cases hw;done))
  rename_i dk hdk
  split at hw <;> (try(cases hw;done))
  rename_i kk em ek ex hkk hem hek hex
  rw[if_pos hd0] at hw
  obtain rfl:=Option.some.inj hw
  simp only[evWr] at hev
  split at hev <;> (try(cases hev;done))
  rename_i b c d y g1 g2 g3
  split at hev <;> (try(cases hev;done))
  split at hev <;> (try(cases hev;done))
  rename_i blk hb
  split at hev <;> (try(cases hev;done))
  rename_i ds he
  split at hev <;> (try(cases hev;done))
  rename_i ds' hs
  simp only[Option.some.injEq,Prod.mk.injEq] at hev
  obtain⟨rfl,_,rfl,_⟩:=hev
  exact z7H ho ht hdk hkk hd0 (held m i1 _ _ _ hem g1) (held k i2 _ _ _ hek g2) (held x i3 _ _ _ hex g3) hb he hs hH hn
 unfold mapK at hw
 split at hw
 ·rename_i t m k x hop
  exact upd t m k x (.inl hop) (by simp [hop,Op.operands]) hw
 ·rename_i t m k x hop
  exact upd t m k x (.inr hop) (by simp [hop,Op.operands]) hw
 ·rename_i args argTypes hop
  split at hw <;> (try(cases hw;done))
  rename_i x t h1 h2
  split at hw <;> (try(cases hw;done))
  rename_i kt et e ht hex
  rw[if_pos hd0] at hw
  obtain rfl:=Option.some.inj hw
  simp only[evWr] at hev
  split at hev <;> (try(cases hev;done))
  rename_i b g1
  split at hev <;> (try(cases hev;done))
  rename_i blk hb
  split at hev <;> (try(cases hev;done))
  rename_i ds he
  split at hev <;> (try(cases hev;done))
  rename_i hg
  simp only[Option.some.injEq,Prod.mk.injEq] at hev
  obtain⟨rfl,_,rfl,_⟩:=hev
  obtain⟨args⟩:=args
  obtain⟨argTypes⟩:=argTypes
  simp only at h1 h2
  subst h1 h2
  exact z7O hop ht hd0 (held x (by simp [hop,Op.operands,Call.operands]) _ _ _ hex g1) hb he (by simpa using hg) hH hn
 ·cases hw
end Go.Vm
end

section
namespace Go.Vm
open Go.RowKit
variable {P:Program}{w w':World}{F F':Nat→Prop}{X:Nat→Nat→Prop}{base nx:Nat}{σ σ':Nat→Option Loc}{K:Cx}{s:S}{a:Act}{o:Oper}{env:Env}{H:List (Nat×Blk)}
def Weaker(w:World)(F:Nat→Prop)(base:Nat)(σ:Nat→Option Loc)(r0 r:List V):Prop:=
 r0.length=r.length∧∀(m:Nat) (x:V),r[m]? = some x→∃ y,r0[m]? = some y∧∀ v,RepV w F base σ v y→RepV w F base σ v x
theorem Weaker.refl(r:List V):Weaker w F base σ r r:=⟨rfl,fun m x h=>⟨x,h,fun _ h=>h⟩⟩
theorem Weaker.mkd{c c':Bool}{ds:List D}(h:c'=true→c=true∨ds.all D.flat=true):Weaker w F base σ (ds.map (Vm.mkd c)) (ds.map (Vm.mkd c')):=by
 refine⟨by simp,fun m x hx=>?_⟩
 simp only[List.getElem?_map,Option.map_eq_some_iff] at hx
 obtain⟨d,hd,rfl⟩:=hx
 refine⟨Vm.mkd c d,by simp [hd],fun v hR=>.mkd ?_⟩
 by_cases hf:d.flat=true
 ·unfold Vm.mkd at hR
  rw[if_pos hf] at hR
  cases hR with|d _ _ _ h=>exact h.flat hf
 ·unfold Vm.mkd at hR
  rw[if_neg hf] at hR
  cases hR with
  |d _ _ _ hR=>
   cases c' with
   |false=>exact hR.mono fun b hb=>⟨q2B hb,rfl⟩
   |true=>
    rcases h rfl with rfl|h
    ·exact hR
    ·rw[List.all_eq_true] at h
     exact absurd (h d (List.mem_of_getElem? hd)) hf
theorem q55{blk:Blk}(rows:Rows)(h:blk.entries=none):(blk.app rows).entries=none:=by
 cases blk <;> cases rows <;> first|rfl|simp [Blk.entries] at h
theorem z0X(blk:Blk)(rows:Rows)(hent:blk.entries=none):(blk.app rows).k=blk.k∧(blk.app rows).n=blk.n+rows.n∧
  ∀ i row,(blk.app rows).row? i=some row→(i<blk.n∧∃ r0,blk.row? i=some r0∧Weaker w F base σ r0 row)∨(blk.n≤i∧∃ r0,rows.vs[i - blk.n]? = some r0∧Weaker w F base σ r0 row):=by
 cases blk with
 |dat c k rs=>
  cases rows with
  |dat c' more=>
   refine⟨rfl,by simp [Blk.app,Blk.n,Rows.n],fun i row hr=>?_⟩
   simp only[Blk.app,Blk.row?,Option.map_eq_some_iff] at hr
   obtain⟨dr,hdr,rfl⟩:=hr
   by_cases hi:i<rs.length
   ·rw[List.getElem?_append_left hi] at hdr
    exact .inl ⟨hi,dr.map (mkd c),by simp [Blk.row?,hdr],.mkd fun h=>.inl (by simp at h;exact h.1)⟩
   ·rw[List.getElem?_append_right (by omega)] at hdr
    exact .inr ⟨by simp [Blk.n];omega,dr.map (mkd c'),by simp [Rows.vs,Blk.n,hdr],.mkd fun h=>.inl (by simp at h;exact h.2)⟩
  |mix more=>
   refine⟨rfl,by simp [Blk.app,Blk.n,Rows.n],fun i row hr=>?_⟩
   simp only[Blk.app,Blk.row?] at hr
   by_cases hi:i<rs.length
   ·rw[List.getElem?_append_left (by simpa using hi)] at hr
    exact .inl ⟨hi,row,by simpa [Blk.row?] using hr,.refl _⟩
   ·rw[List.getElem?_append_right (by simp;omega)] at hr
    exact .inr ⟨by simp [Blk.n];omega,row,by simpa [Rows.vs,Blk.n] using hr,.refl _⟩
 |mix k rs=>
  refine⟨rfl,by cases rows <;> simp [Blk.app,Blk.n,Rows.n,Rows.vs],fun i row hr=>?_⟩
  simp only[Blk.app,Blk.row?] at hr
  by_cases hi:i<rs.length
  ·rw[List.getElem?_append_left hi] at hr
   exact .inl ⟨hi,row,hr,.refl _⟩
  ·rw[List.getElem?_append_right (by omega)] at hr
   exact .inr ⟨by simp [Blk.n];omega,row,by simpa [Blk.n] using hr,.refl _⟩
 |map es=>simp [Blk.entries] at hent
theorem z1y(k:Nat)(rows:Rows):(rows.blk k).entries=none:=by cases rows <;> rfl
theorem z7j(k:Nat)(rows:Rows):(rows.blk k).k=k∧(rows.blk k).n=rows.n∧∀ i,(rows.blk k).row? i=rows.vs[i]?:=by
 cases rows with
 |dat c rs=>exact⟨rfl,rfl,fun i=>by simp [Rows.blk,Blk.row?,Rows.vs]⟩
 |mix rs=>exact⟨rfl,rfl,fun i=>rfl⟩
theorem z5i{v:Value}{y:V}{k:Nat}{rows:Rows}(hH:HeapRel w F X base σ nx H)(hv:RepV w F base σ v y)(hr:q2q H k y=some rows) :
  ∃ ad c,v=.slice ad rows.n c∧(rows.n≠0→ad.isSome=true)∧rows.vs.length=rows.n∧
   ∀ A,ad=some A→∀ i row,rows.vs[i]? = some row→row.length=k∧∀ j x,row[j]? = some x→∃ u,w.cell? (A.add (i*k+j))=some u∧u.oneCell'=true∧RepV w F base σ u x:=by
 have dsl:∀(c:Bool) (k':Nat) (rs:List (List D)) (a:Option Addr) (len cap:Nat),RepD w (col F base c) (.slice a len cap) (.sl k' rs)→k'=k→rows=.dat (c||q0R rs) rs→v=.slice a len cap→
   ∃ ad c,v=.slice ad rows.n c∧(rows.n≠0→ad.isSome=true)∧rows.vs.length=rows.n∧
   ∀ A,ad=some A→∀ i row,rows.vs[i]? = some row→row.length=k∧∀ j x,row[j]? = some x→∃ u,w.cell? (A.add (i*k+j))=some u∧u.oneCell'=true∧RepV w F base σ u x:=by
  rintro c k' rs a len cap h rfl rfl rfl
  cases h with
  |sl0 a cap _ hc=>exact⟨a,cap,rfl,fun h=>absurd rfl h,rfl,fun A _ i row hrow=>by simp [Rows.vs] at hrow⟩
  |sl b of len cap _ rs g h1 h2 h3 h4 h5 h6=>
   refine⟨some ⟨b,of,none⟩,cap,by simp [Rows.n,h1],fun _=>rfl,by simp [Rows.vs,Rows.n],fun A hA i row hrow=>?_⟩
   obtain rfl:=Option.some.inj hA
   simp only[Rows.vs,List.getElem?_map,Option.map_eq_some_iff] at hrow
   obtain⟨dr,hdr,rfl⟩:=hrow
   refine⟨by simp [h4 dr (List.mem_of_getElem? hdr)],fun j x hx=>?_⟩
   simp only[List.getElem?_map,Option.map_eq_some_iff] at hx
   obtain⟨d,hd,rfl⟩:=hx
   refine⟨g i j,by rw[add_lit];exact h5 i j dr d hdr hd,(h6 i j dr d hdr hd).oneCell,.mkd ?_⟩
   have hR:=h6 i j dr d hdr hd
   cases hcf:(c||q0R rs) with
   |false=>exact hR.mono fun b hb=>⟨q2B hb,rfl⟩
   |true=>
    simp only[Bool.or_eq_true] at hcf
    rcases hcf with rfl|hf
    ·exact hR
    ·unfold q0R at hf
     rw[List.all_eq_true] at hf
     have:=hf dr (List.mem_of_getElem? hdr)
     rw[List.all_eq_true] at this
     exact hR.flat (this d (List.mem_of_getElem? hd))
 cases hv with
 |d c v x h=>
  cases x with
  |sl k' rs=>
   simp only[q2q] at hr
   split at hr
   ·rename_i hk
    obtain⟨a,cap,hva⟩:=h.slice_len
    subst hva
    exact dsl c k' rs a _ cap h hk (Option.some.inj hr).symm rfl
   ·cases hr
  |nils k'=>
   cases h with
   |nils=>
    simp only[q2q] at hr
    split at hr
    ·obtain rfl:=Option.some.inj hr
     exact⟨none,0,rfl,fun h=>absurd rfl h,rfl,fun A h=>by cases h⟩
    ·cases hr
  |emps k'=>
   cases h with
   |emps a cap _=>
    simp only[q2q] at hr
    split at hr
    ·obtain rfl:=Option.some.inj hr
     exact⟨some a,cap,rfl,fun _=>rfl,rfl,fun A _ i row hrow=>by simp [Rows.vs] at hrow⟩
    ·cases hr
  |_=>simp [q2q] at hr
 |fs c a len k' rs h=>
  simp only[q2q] at hr
  split at hr
  ·rename_i hk
   exact dsl c k' rs a len len h hk (Option.some.inj hr).symm rfl
  ·cases hr
 |bsl0 ad b i=>
  simp only[q2q] at hr
  cases hb:look H b with
  |none=>simp [hb] at hr
  |some blk=>
   have:rows.n=0∧rows.vs=[]:=by
    cases blk with
    |map es=>simp [hb] at hr
    |dat c k' rs=>
     simp only[hb] at hr
     split at hr
     ·obtain rfl:=Option.some.inj hr
      simp [Rows.n,Rows.vs]
     ·cases hr
    |mix k' rs=>
     simp only[hb] at hr
     split at hr
     ·obtain rfl:=Option.some.inj hr
      simp [Rows.n,Rows.vs]
     ·cases hr
   exact⟨ad,0,by rw[this.1],fun h=>absurd this.1 h,by rw[this.1,this.2];rfl,fun A _ i row hrow=>by rw[this.2] at hrow;simp at hrow⟩
 |bsl b i len cap l hl h1 h2=>
  simp only[q2q] at hr
  cases hb:look H b with
  |none=>simp [hb] at hr
  |some blk=>
   have main:blk.k=k→rows.n=len→rows.vs.length=len→(∀ i' row,rows.vs[i']? = some row→∃ r0,blk.row? (i+i')=some r0∧Weaker w F base σ r0 row)→
     ∃ ad c,(Value.slice (some ⟨l.blk,i*l.k,none⟩) len cap)=.slice ad rows.n c∧(rows.n≠0→ad.isSome=true)∧rows.vs.length=rows.n∧
   ∀ A,ad=some A→∀ i row,rows.vs[i]? = some row→row.length=k∧∀ j x,row[j]? = some x→∃ u,w.cell? (A.add (i*k+j))=some u∧u.oneCell'=true∧RepV w F base σ u x:=by
    intro hk hn hlen hrows
    refine⟨some ⟨l.blk,i*l.k,none⟩,cap,by rw[hn],fun _=>rfl,by omega,fun A hA i' row hrow=>?_⟩
    obtain rfl:=Option.some.inj hA
    obtain⟨r0,hr0,hw1,hw2⟩:=hrows i' row hrow
    obtain⟨e1,e2,e3⟩:=q3T hH hb hl hr0
    refine⟨by omega,fun j x hx=>?_⟩
    obtain⟨y,hy,hyx⟩:=hw2 j x hx
    obtain⟨u,u1,u2,u3⟩:=e3 j y hy
    refine⟨u,?_,u2,hyx u u3⟩
    rw[add_lit,←u1,Nat.add_mul,e1,hk]
    congr 2
    omega
   cases blk with
   |map es=>simp [hb] at hr
   |dat c k' rs=>
    simp only[hb] at hr
    split at hr
    ·rename_i hh
     obtain rfl:=Option.some.inj hr
     refine main hh.1 (by simp [Rows.n];omega) (by simp [Rows.vs];omega) (fun i' row hrow=>?_)
     simp only[Rows.vs,List.getElem?_map,Option.map_eq_some_iff] at hrow
     obtain⟨dr,hdr,rfl⟩:=hrow
     rw[List.getElem?_take] at hdr
     split at hdr
     ·rw[List.getElem?_drop] at hdr
      refine⟨dr.map (mkd c),by simp [Blk.row?,hdr],.mkd fun h=>?_⟩
      simp only[Bool.or_eq_true] at h
      refine h.imp id fun hf=>?_
      unfold q0R at hf
      rw[List.all_eq_true] at hf
      exact hf dr (List.mem_of_getElem? hdr)
     ·cases hdr
    ·cases hr
   |mix k' rs=>
    simp only[hb] at hr
    split at hr
    ·rename_i hh
     obtain rfl:=Option.some.inj hr
     refine main hh.1 (by simp [Rows.n];omega) (by simp [Rows.vs];omega) (fun i' row hrow=>?_)
     simp only[Rows.vs] at hrow
     rw[List.getElem?_take] at hrow
     split at hrow
     ·rw[List.getElem?_drop] at hrow
      exact⟨row,by simpa [Blk.row?] using hrow,.refl _⟩
     ·cases hrow
    ·cases hr
 |_=>simp [q2q] at hr
theorem z5s{A:Addr}{k m:Nat}{vs:List (List V)}(hk:0<k)(hlen:vs.length=m)(h:∀ i row,vs[i]? = some row→row.length=k∧∀ j x,row[j]? = some x→∃ u,w.cell? (A.add (i*k+j))=some u∧u.oneCell'=true∧RepV w F base σ u x) :
  ∃ news:List Value,news.length=m*k∧(∀ j u,news[j]? = some u→w.cell? (A.add j)=some u)∧(∀ u∈news,u.oneCell'=true)∧
   ∀ i row,vs[i]? = some row→∀ j x,row[j]? = some x→∃ u,news[i*k+j]? = some u∧u.oneCell'=true∧RepV w F base σ u x:=by
 have all:∀ p,p<m*k→∃ u,w.cell? (A.add p)=some u∧u.oneCell'=true:=by
  intro p hp
  have hq:p / k<m:=(Nat.div_lt_iff_lt_mul hk).2 hp
  obtain⟨h1,h2⟩:=h (p / k) _ (List.getElem?_eq_getElem (by omega))
  obtain⟨u,hu,h3,_⟩:=h2 (p % k) _ (List.getElem?_eq_getElem (by rw[h1];exact Nat.mod_lt _ hk))
  have e:p / k*k+p % k=p:=by rw[Nat.mul_comm];exact Nat.div_add_mod p k
  rw[e] at hu
  exact⟨u,hu,h3⟩
 have get:∀ p u,((List.range (m*k)).map fun p=>(w.cell? (A.add p)).getD undef)[p]? = some u→p<m*k∧w.cell? (A.add p)=some u:=by
  intro p u hu
  simp only[List.getElem?_map,Option.map_eq_some_iff] at hu
  obtain⟨q,hq,rfl⟩:=hu
  have hlt:p<m*k:=by have:=(List.getElem?_eq_some_iff.1 hq).1;simpa using this
  rw[List.getElem?_range hlt] at hq
  obtain rfl:=Option.some.inj hq
  obtain⟨u,hu,_⟩:=all p hlt
  exact⟨hlt,by rw[hu];rfl⟩
 refine⟨(List.range (m*k)).map fun p=>(w.cell? (A.add p)).getD undef,by simp,fun j u hu=>(get j u hu).2,fun u hu=>?_,fun i row hrow j x hx=>?_⟩
 ·obtain⟨p,hp⟩:=List.getElem?_of_mem hu
  obtain⟨g1,g2⟩:=get p u hp
  obtain⟨u',hu',h1⟩:=all p g1
  rw[g2] at hu'
  obtain rfl:=Option.some.inj hu'
  exact h1
 ·obtain⟨h1,h2⟩:=h i row hrow
  obtain⟨u,hu,h3,h4⟩:=h2 j x hx
  have hi:i<m:=by have:=(List.getElem?_eq_some_iff.1 hrow).1;omega
  have hj:j<k:=by have:=(List.getElem?_eq_some_iff.1 hx).1;omega
  have hlt:i*k+j<m*k:=by
   have:(i+1)*k≤m*k:=Nat.mul_le_mul_right _ (by omega)
   rw[Nat.add_mul,Nat.one_mul] at this
   omega
  refine⟨u,?_,h3,h4⟩
  simp only[List.getElem?_map,List.getElem?_range hlt,Option.map_some,hu,Option.getD_some]
end Go.Vm
end

section
namespace Go.Vm
open Go.RowKit
variable {P:Program}{w w':World}{F F':Nat→Prop}{X:Nat→Nat→Prop}{base nx:Nat}{σ σ':Nat→Option Loc}{K:Cx}{s:S}{a:Act}{o:Oper}{env:Env}{H:List (Nat×Blk)}
theorem q8x{t ty e:TypeId}{i:TypeInfo}(ht:P.underlying t=some (.slice e))(hi:P.info? e=some i)(hs:Option Addr)(len cap:Nat)(hle:len≤cap)(ad:Option Addr)(c:Nat) :
  (Builtin.append_ #[t,t] ty #[.slice hs len cap,.slice ad 0 c]).run P w=.ok (.slice hs len cap) w:=by
 have hf:(Builtin.firstCells i.size 0 (.slice ad 0 c)).run P w=.ok #[] w:=by
  cases ad <;> simp [Builtin.firstCells,loadCells,loadCellsFrom]
 cases hs <;> simp [Builtin.append_,run_underlying ht,q1t hi,Builtin.lenOf,hle,hf,storeCells]
theorem q2u(p:Nat→Bool)(blk:Blk):(blk.forget p).entries=blk.entries.map fun es=>es.map fun q=>(q.1,q.2.forget p):=by
 cases blk <;> rfl
theorem z0e(ob:Obj)(hb:base≤w.heap.size):Frame X base w (w.drew.alloc ob):=
 ⟨rfl,rfl,rfl,by simp,fun k hk _=>Below.heap_alloc w.drew ob k (by simp;omega)⟩
theorem z7J(hH:HeapRel w F X base σ nx H)(hb:base≤w.heap.size){id:Nat}(hid:id<nx){blk':Blk}{k e:Nat}{cs:Array Value}{T:TypeId}(hent:blk'.entries=none)(hk:blk'.k=k)(hn:blk'.n≤e)(hsz:cs.size=e*k)
  (hrow:∀ i row,blk'.row? i=some row→row.length=k∧∀ j x,row[j]? = some x→∃ v,cs[i*k+j]? = some v∧v.oneCell'=true∧RepV w F base σ v x) :
  (∀ v x,RepV w F base σ v x→RepV (w.drew.alloc (.cells cs T)) F base (ext σ id ⟨w.heap.size,k,e⟩) v (x.forget (·== id)))∧
  HeapRel (w.drew.alloc (.cells cs T)) F X base (ext σ id ⟨w.heap.size,k,e⟩) nx (forgetH (·== id) (put H id blk')):=by
 have hF:∀ b,F b→F b∧(w.drew.alloc (.cells cs T)).heap[b]? = w.heap[b]?:=fun b h=>⟨h,Below.heap_alloc w.drew _ b (hH.fro b h)⟩
 have hσ:∀ b l,σ b=some l→(b==id)=false→ext σ id ⟨w.heap.size,k,e⟩ b=some l:=fun b l h hne=>by
  unfold ext
  rw[if_neg (by simpa using hne)]
  exact h
 have hval:∀ v x,RepV w F base σ v x→RepV (w.drew.alloc (.cells cs T)) F base (ext σ id ⟨w.heap.size,k,e⟩) v (x.forget (·== id)):=fun v x h=>h.forget hF hσ
 have hval1:∀ v x,RepV w F base σ v x→RepV (w.drew.alloc (.cells cs T)) F base (ext σ id ⟨w.heap.size,k,e⟩) v (x.drop1 (·== id)):=fun v x h=>h.drop1 hF hσ
 have blkf:∀(blk:Blk),(blk.forget (·== id)).k=blk.k∧(blk.forget (·== id)).n=blk.n∧∀ i row,(blk.forget (·== id)).row? i=some row→∃ r0,blk.row? i=some r0∧r0.length=row.length∧
   ∀(j:Nat) (x:V),row[j]? = some x→∃ y,r0[j]? = some y∧∀ v,RepV w F base σ v y→RepV (w.drew.alloc (.cells cs T)) F base (ext σ id ⟨w.heap.size,k,e⟩) v x:=by
  intro blk
  cases blk with
  |dat c k' rs=>
   refine⟨rfl,rfl,fun i row hr=>⟨row,hr,rfl,fun j x hx=>⟨x,hx,fun v h=>?_⟩⟩⟩
   simp only[Blk.forget,Blk.row?,Option.map_eq_some_iff] at hr
   obtain⟨dr,hdr,rfl⟩:=hr
   simp only[List.getElem?_map,Option.map_eq_some_iff] at hx
   obtain⟨d,hd,rfl⟩:=hx
   obtain⟨c',hc'⟩:=z4a c d
   rw[hc'] at h ⊢
   exact hval1 v _ h
  |mix k' rs=>
   refine⟨rfl,by simp [Blk.forget,Blk.n],fun i row hr=>?_⟩
   simp only[Blk.forget,Blk.row?,List.getElem?_map,Option.map_eq_some_iff] at hr
   obtain⟨r0,hr0,rfl⟩:=hr
   refine⟨r0,hr0,by simp,fun j x hx=>?_⟩
   simp only[List.getElem?_map,Option.map_eq_some_iff] at hx
   obtain⟨y,hy,rfl⟩:=hx
   exact⟨y,hy,fun v h=>hval1 v y h⟩
  |map es=>exact⟨rfl,by simp [Blk.forget,Blk.n,q3V (V.forget (·== id))],fun i row hr=>by simp [Blk.forget,Blk.row?] at hr⟩
 have look_f:∀(L:List (Nat×Blk)) (b:Nat),look (forgetH (·== id) L) b=(look L b).map (Blk.forget (·== id)):=by
  intro L b
  induction L with
  |nil=>rfl
  |cons p L ih=>
   obtain⟨q,x⟩:=p
   simp only[forgetH,List.map_cons,look] at ih ⊢
   split
   ·rfl
   ·exact ih
 refine⟨hval,⟨fun b blk0 hb0=>?_,?_,fun b l hl=>?_,fun b h=>by have:=hH.fro b h;simp;omega⟩⟩
 ·rw[look_f,q0u] at hb0
  split at hb0
  ·rename_i hbb
   subst hbb
   simp only[Option.map_some,Option.some.injEq] at hb0
   subst hb0
   obtain⟨f1,f2,f3⟩:=blkf blk'
   refine .inr <| .inr ⟨⟨w.heap.size,k,e⟩,cs,T,q2Q,RowAt.mk0 (q2j w.drew _),by rw[f1,hk],by rw[f2];exact hn,hsz,fun i row hr=>?_,by rw[q2u,hent];rfl⟩
   obtain⟨r0,g1,g2,g3⟩:=f3 i row hr
   obtain⟨q1,q2⟩:=hrow i r0 g1
   refine⟨by rw[f1,hk];omega,fun j x hx=>?_⟩
   obtain⟨y,hy,hyx⟩:=g3 j x hx
   obtain⟨v,v1,v2,v3⟩:=q2 j y hy
   exact⟨v,v1,v2,hyx v v3⟩
  ·rename_i hbb
   simp only[Option.map_eq_some_iff] at hb0
   obtain⟨blk1,hb1,rfl⟩:=hb0
   obtain⟨f1,f2,f3⟩:=blkf blk1
   rcases hH.blk b blk1 hb1 with⟨h1,h2⟩|⟨l,es0,ck0,ds0,rfl,k1,k2,k3,k4,k5⟩|⟨l,cs0,T0,k1,k2,k3,k4,k5,k6,k7⟩
   ·refine .inl ⟨by rw[f2];exact h1,?_⟩
    unfold ext
    rw[if_neg (fun h=>hbb h.symm)]
    exact h2
   ·exact .inr (.inl ⟨l,es0,ck0,_,rfl,hσ b l k1 (by simpa using fun h=>hbb h.symm),k2.of (Below.heap_alloc w.drew _ _ (hH.own b l k1).2.2.2) (fun _ _ _ h=>h.forget (fun b l h hne=>hσ b l h hne)),k3,k4,k5.trans fun v x h=>h.forget hF (fun b l h hne=>hσ b l h hne)⟩)
   ·refine .inr <| .inr ⟨l,cs0,T0,hσ b l k1 (by simpa using fun h=>hbb h.symm),k2.of (Below.heap_alloc w.drew _ _ (hH.own b l k1).2.2.2),by rw[f1];exact k3,by rw[f2];exact k4,k5,fun i row hr=>?_,by rw[q2u,k7];rfl⟩
    obtain⟨r0,g1,g2,g3⟩:=f3 i row hr
    obtain⟨q1,q2⟩:=k6 i r0 g1
    refine⟨by rw[f1];omega,fun j x hx=>?_⟩
    obtain⟨y,hy,hyx⟩:=g3 j x hx
    obtain⟨v,v1,v2,v3⟩:=q2 j y hy
    exact⟨v,v1,v2,hyx v v3⟩
 ·intro b b' l l' h1 h2 he
  unfold ext at h1 h2
  split at h1 <;> split at h2
  ·omega
  ·obtain rfl:=Option.some.inj h1
   have:=(hH.own b' l' h2).2.2.2
   simp at he;omega
  ·obtain rfl:=Option.some.inj h2
   have:=(hH.own b l h1).2.2.2
   simp at he;omega
  ·exact hH.inj b b' l l' h1 h2 he
 ·unfold ext at hl
  split at hl
  ·rename_i hbn
   obtain rfl:=Option.some.inj hl
   exact⟨by omega,fun hf=>by have:=hH.fro _ hf;simp at this,.inl hb,by simp⟩
  ·obtain⟨h1,h2,h3,h4⟩:=hH.own b l hl
   exact⟨h1,h2,h3,by simp;omega⟩
theorem z1n(hH:HeapRel w F X base σ nx H){id:Nat}{blk':Blk}{w1:World}(hsame:∀ b,F b→w1.heap[b]? = w.heap[b]?)(hsz1:w.heap.size≤w1.heap.size)(hother:∀ b l,b≠id→σ b=some l→w1.heap[l.blk]? = w.heap[l.blk]?)
  (hblk:BlkRel w1 F base σ id blk') :
  (∀ v x,RepV w F base σ v x→RepV w1 F base σ v (x.forget (·== id)))∧HeapRel w1 F X base σ nx (forgetH (·== id) (put H id blk')):=by
 have hF:∀ b,F b→F b∧w1.heap[b]? = w.heap[b]?:=fun b h=>⟨h,hsame b h⟩
 have hval1:∀ {w0:World} v x,(∀ b,F b→F b∧w1.heap[b]? = w0.heap[b]?)→RepV w0 F base σ v x→RepV w1 F base σ v (x.drop1 (·== id)):=fun v x hF h=>h.drop1 hF (fun b l h _=>h)
 have blkf:∀ {w0:World} (blk:Blk),(∀ b,F b→F b∧w1.heap[b]? = w0.heap[b]?)→(blk.forget (·== id)).k=blk.k∧(blk.forget (·== id)).n=blk.n∧∀ i row,(blk.forget (·== id)).row? i=some row→∃ r0,blk.row? i=some r0∧r0.length=row.length∧
   ∀(j:Nat) (x:V),row[j]? = some x→∃ y,r0[j]? = some y∧∀ v,RepV w0 F base σ v y→RepV w1 F base σ v x:=by
  intro w0 blk hF0
  cases blk with
  |dat c k' rs=>
   refine⟨rfl,rfl,fun i row hr=>⟨row,hr,rfl,fun j x hx=>⟨x,hx,fun v h=>?_⟩⟩⟩
   simp only[Blk.forget,Blk.row?,Option.map_eq_some_iff] at hr
   obtain⟨dr,hdr,rfl⟩:=hr
   simp only[List.getElem?_map,Option.map_eq_some_iff] at hx
   obtain⟨d,hd,rfl⟩:=hx
   obtain⟨c',hc'⟩:=z4a c d
   rw[hc'] at h ⊢
   exact hval1 v _ hF0 h
  |mix k' rs=>
   refine⟨rfl,by simp [Blk.forget,Blk.n],fun i row hr=>?_⟩
   simp only[Blk.forget,Blk.row?,List.getElem?_map,Option.map_eq_some_iff] at hr
   obtain⟨r0,hr0,rfl⟩:=hr
   refine⟨r0,hr0,by simp,fun j x hx=>?_⟩
   simp only[List.getElem?_map,Option.map_eq_some_iff] at hx
   obtain⟨y,hy,rfl⟩:=hx
   exact⟨y,hy,fun v h=>hval1 v y hF0 h⟩
  |map es=>exact⟨rfl,by simp [Blk.forget,Blk.n,q3V (V.forget (·== id))],fun i row hr=>by simp [Blk.forget,Blk.row?] at hr⟩
 have look_f:∀(L:List (Nat×Blk)) (b:Nat),look (forgetH (·== id) L) b=(look L b).map (Blk.forget (·== id)):=by
  intro L b
  induction L with
  |nil=>rfl
  |cons p L ih=>
   obtain⟨q,x⟩:=p
   simp only[forgetH,List.map_cons,look] at ih ⊢
   split
   ·rfl
   ·exact ih
 refine⟨fun v x h=>h.forget hF (fun b l h _=>h),⟨fun b blk0 hb0=>?_,hH.inj,fun b l hl=>?_,fun b h=>Nat.lt_of_lt_of_le (hH.fro b h) hsz1⟩⟩
 ·rw[look_f,q0u] at hb0
  split at hb0
  ·rename_i hbb
   subst hbb
   simp only[Option.map_some,Option.some.injEq] at hb0
   subst hb0
   obtain⟨f1,f2,f3⟩:=blkf (w0:=w1) blk' (fun b h=>⟨h,rfl⟩)
   rcases hblk with⟨h1,h2⟩|⟨l,es0,ck0,ds0,rfl,k1,k2,k3,k4,k5⟩|⟨l,cs0,T0,k1,k2,k3,k4,k5,k6,k7⟩
   ·exact .inl ⟨by rw[f2];exact h1,h2⟩
   ·exact .inr (.inl ⟨l,es0,ck0,_,rfl,k1,k2.of rfl (fun _ _ _ h=>h.forget (fun b l h _=>h)),k3,k4,k5.trans fun v x h=>h.forget (fun b h=>⟨h,rfl⟩) (fun b l h _=>h)⟩)
   ·refine .inr <| .inr ⟨l,cs0,T0,k1,k2,by rw[f1];exact k3,by rw[f2];exact k4,k5,fun i row hr=>?_,by rw[q2u,k7];rfl⟩
    obtain⟨r0,g1,g2,g3⟩:=f3 i row hr
    obtain⟨q1,q2⟩:=k6 i r0 g1
    refine⟨by rw[f1];omega,fun j x hx=>?_⟩
    obtain⟨y,hy,hyx⟩:=g3 j x hx
    obtain⟨v,v1,v2,v3⟩:=q2 j y hy
    exact⟨v,v1,v2,hyx v v3⟩
  ·rename_i hbb
   simp only[Option.map_eq_some_iff] at hb0
   obtain⟨blk1,hb1,rfl⟩:=hb0
   obtain⟨f1,f2,f3⟩:=blkf (w0:=w) blk1 hF
   rcases hH.blk b blk1 hb1 with⟨h1,h2⟩|⟨l,es0,ck0,ds0,rfl,k1,k2,k3,k4,k5⟩|⟨l,cs0,T0,k1,k2,k3,k4,k5,k6,k7⟩
   ·exact .inl ⟨by rw[f2];exact h1,h2⟩
   ·exact .inr (.inl ⟨l,es0,ck0,_,rfl,k1,k2.of (hother b l (fun h=>hbb h.symm) k1) (fun _ _ _ h=>h.forget (fun b l h _=>h)),k3,k4,k5.trans fun v x h=>h.forget hF (fun b l h _=>h)⟩)
   ·refine .inr <| .inr ⟨l,cs0,T0,k1,k2.of (hother b l (fun h=>hbb h.symm) k1),by rw[f1];exact k3,by rw[f2];exact k4,k5,fun i row hr=>?_,by rw[q2u,k7];rfl⟩
    obtain⟨r0,g1,g2,g3⟩:=f3 i row hr
    obtain⟨q1,q2⟩:=k6 i r0 g1
    refine⟨by rw[f1];omega,fun j x hx=>?_⟩
    obtain⟨y,hy,hyx⟩:=g3 j x hx
    obtain⟨v,v1,v2,v3⟩:=q2 j y hy
    exact⟨v,v1,v2,hyx v v3⟩
 ·obtain⟨h1,h2,h3,h4⟩:=hH.own b l hl
  exact⟨h1,h2,h3,Nat.lt_of_lt_of_le h4 hsz1⟩
end Go.Vm
end

section
namespace Go.Vm
open Go.RowKit
variable {P:Program}{w w':World}{F F':Nat→Prop}{X:Nat→Nat→Prop}{base nx:Nat}{σ σ':Nat→Option Loc}{K:Cx}{s:S}{a:Act}{o:Oper}{env:Env}{H:List (Nat×Blk)}
theorem q91{blk:Blk}{rows:Rows}{k m:Nat}{cs:Array Value}{olds news:List Value}(hk:blk.k=k)(hpos:0<k)(hm:rows.n=m)(hlen:rows.vs.length=m)(hlo:olds.length=blk.n*k)(hln:news.length=m*k)
  (hcs:∀(p:Nat) (u:Value),(olds++news)[p]? = some u→cs[p]? = some u)
  (hold:∀ i row,blk.row? i=some row→row.length=k∧∀ j x,row[j]? = some x→∃ v,olds[i*k+j]? = some v∧v.oneCell'=true∧RepV w F base σ v x)
  (hnew:∀ i row,rows.vs[i]? = some row→row.length=k∧∀ j x,row[j]? = some x→∃ u,news[i*k+j]? = some u∧u.oneCell'=true∧RepV w F base σ u x) :
  ∀ i row,(blk.app rows).row? i=some row→row.length=k∧∀ j x,row[j]? = some x→∃ v,cs[i*k+j]? = some v∧v.oneCell'=true∧RepV w F base σ v x:=by
 intro i row hr
 have hent:blk.entries=none:=by
  cases blk with
  |map es=>simp only[Blk.k] at hk;omega
  |_=>rfl
 obtain⟨_,_,h3⟩:=z0X (w:=w) (F:=F) (base:=base) (σ:=σ) blk rows hent
 rcases h3 i row hr with⟨hi,r0,hr0,hw1,hw2⟩|⟨hi,r0,hr0,hw1,hw2⟩
 ·obtain⟨g1,g2⟩:=hold i r0 hr0
  refine⟨by omega,fun j x hx=>?_⟩
  obtain⟨y,hy,hyx⟩:=hw2 j x hx
  obtain⟨v,v1,v2,v3⟩:=g2 j y hy
  refine⟨v,hcs _ _ ?_,v2,hyx v v3⟩
  rw[List.getElem?_append_left (List.getElem?_eq_some_iff.1 v1).1]
  exact v1
 ·obtain⟨g1,g2⟩:=hnew _ r0 hr0
  refine⟨by omega,fun j x hx=>?_⟩
  obtain⟨y,hy,hyx⟩:=hw2 j x hx
  obtain⟨v,v1,v2,v3⟩:=g2 j y hy
  refine⟨v,hcs _ _ ?_,v2,hyx v v3⟩
  have e:i*k+j=blk.n*k+((i - blk.n)*k+j):=by
   rw[←Nat.add_assoc,←Nat.add_mul]
   congr 2
   omega
  rw[e,List.getElem?_append_right (by omega),hlo,Nat.add_sub_cancel_left]
  exact v1
theorem q3w{x y:Operand}{t:TypeId}{v u r:Value}{w w':World}(ho:o.op=.call { callee:=.builtin .append,args:=#[x,y],argTypes:=#[t,t] })(hx:a.eval x=v)(hy:a.eval y=u)
  (h:(Builtin.append_ #[t,t] o.type #[v,u]).run P w=.ok r w'):(execOp a.eval o).run P w=.ok (.value r) w':=by
 simp [execOp,ho,resolve,invoke,builtin,hx,hy,h]
structure AppRuns(P:Program)(a:Act)(o:Oper)(w:World)(x:Operand)(e:TypeId)(i:TypeInfo)(z:Value)(n:Nat)(news:List Value):Prop where
 zero:n=0→∀ hs len cap,len≤cap→a.eval x=.slice hs len cap→(execOp a.eval o).run P w=.ok (.value (.slice hs len cap)) w
 room:n≠0→∀(g len cap:Nat) (T:TypeId) (cs:Array Value),a.eval x=.slice (some ⟨g,0,none⟩) len cap→RowAt w g cs T→len+n≤cap→len*i.size+news.length≤cs.size→
  (execOp a.eval o).run P w=.ok (.value (.slice (some ⟨g,0,none⟩) (len+n) cap)) (w.setRow g (cs.toList.take (len*i.size)++news++cs.toList.drop (len*i.size+news.length)).toArray)
 nil:n≠0→n≤most→a.eval x=.slice none 0 0→(execOp a.eval o).run P w=.ok (.value (.slice (some ⟨w.heap.size,0,none⟩) n (grownCap w n 0 e))) (w.drew.alloc (.cells (news.toArray++Builtin.zeroCells z.cells (grownCap w n 0 e - n)) e))
 grow:n≠0→∀(B:Addr) (len cap:Nat) (olds:List Value),a.eval x=.slice (some B) len cap→olds.length=len*i.size→(∀ j v,olds[j]? = some v→w.cell? (B.add j)=some v)→cap<len+n→len+n≤most→
  (execOp a.eval o).run P w=.ok (.value (.slice (some ⟨w.heap.size,0,none⟩) (len+n) (grownCap w (len+n) cap e))) (w.drew.alloc (.cells (olds.toArray++news.toArray++Builtin.zeroCells z.cells (grownCap w (len+n) cap e - (len+n))) e))
def j3i(s:S)(H:List (Nat×Blk))(k:Nat)(rows:Rows):V→Option (List (Nat×Blk)×V×Lost×Nat)
 |.bsl id i len=>match look H id with
  |some blk=>if i=0∧blk.n=len∧blk.k=k∧len+rows.n≤most then some (put H id (blk.app rows),.bsl id 0 (len+rows.n),.some id,s.nx) else none
  |none=>none
 |.fs _ k' []=>if k'=k∧rows.n≤most then some ((s.nx,rows.blk k) :: H,.bsl s.nx 0 rows.n,.none,s.nx+1) else none
 |_=>none
theorem z0a(K:Cx)(s:S)(H:List (Nat×Blk))(k:Nat)(a b:E):evWr K s H (.app k a b)=match ev K s a,ev K s b with
  |some x,some y=>match q2q H k y with
   |some rows=>j3i s H k rows x
   |none=>none
  |_,_=>none:=by
 simp only[evWr]
 cases ev K s a with
 |none=>rfl
 |some x=>
  cases ev K s b with
  |none=>rfl
  |some y=>
   cases q2q H k y with
   |none=>rfl
   |some rows=>
    cases x with
    |bsl id i len=>rfl
    |fs c k' rs=>cases rs <;> rfl
    |_=>rfl
set_option maxHeartbeats 1000000 in
theorem z0Y{x:Operand}{e:TypeId}{i:TypeInfo}{z:Value}{rows:Rows}{news:List Value}{va:V}{H':List (Nat×Blk)}{r:V}{p:Lost}{nx':Nat}(R:AppRuns P a o w x e i z rows.n news)(hpos:0<i.size)(hzs:z.cells.size=i.size)(hlen:rows.vs.length=rows.n)
  (hnl:news.length=rows.n*i.size) (hn1:∀ v∈news,v.oneCell'=true) (hnew:∀ i' row,rows.vs[i']? = some row→row.length=i.size∧∀ j x,row[j]? = some x→∃ u,news[i'*i.size+j]? = some u∧u.oneCell'=true∧RepV w F base σ u x)
  (hA:RepV w F base σ (a.eval x) va) (hev:j3i s H i.size rows va=some (H',r,p,nx')) (hH:HeapRel w F X base σ s.nx H) (hb:base≤w.heap.size) (hdom:∀ b blk,look H b=some blk→b<s.nx) {next:Act→World→Prop} {Q:Exit→Act→World→Prop}
  (hn:∀ v w' σ',Wrote w w' F F X base σ σ' p nx' H'→RepV w' F base σ' v r→next (a.put o.dst v) w'):o.wp P a w next Q:=by
            unfold j3i at hev
            have hmost:most=1099511627776:=rfl
            -- growth, from whatever handle
            have grow:∀(id:Nat) (blk0:Blk) (olds:List Value) (len cap:Nat) (hs:Option Addr),a.eval x=.slice hs len cap→blk0.k=i.size→blk0.n=len→len≤cap→cap<len+rows.n→len+rows.n≤most→olds.length=len*i.size→
              (∀ A,hs=some A→∀ j u,olds[j]? = some u→w.cell? (A.add j)=some u)→(hs=none→len=0∧cap=0)→
              (∀ i' row,blk0.row? i'=some row→row.length=i.size∧∀ j x,row[j]? = some x→∃ v,olds[i'*i.size+j]? = some v∧v.oneCell'=true∧RepV w F base σ v x)→
              ∃(cs:Array Value) (nc:Nat),len+rows.n≤nc∧cs.size=nc*i.size∧(execOp a.eval o).run P w=.ok (.value (.slice (some ⟨w.heap.size,0,none⟩) (len+rows.n) nc)) (w.drew.alloc (.cells cs e))∧
              ∀ i' row,(blk0.app rows).row? i'=some row→row.length=i.size∧∀ j x,row[j]? = some x→∃ v,cs[i'*i.size+j]? = some v∧v.oneCell'=true∧RepV w F base σ v x:=by
             intro id blk0 olds len cap hs hxv hk0 hn0 hlc hgr hfit hol hocell hnone hold
             have hm0:rows.n≠0:=by omega
             have hsz:∀ nc,len+rows.n≤nc→(olds.toArray++news.toArray++Builtin.zeroCells z.cells (nc - (len+rows.n))).size=nc*i.size:=fun nc hnc=>by
              simp only[Array.size_append,List.size_toArray,size_zeroCells,hzs,hol,hnl,←Nat.add_mul]
              congr 1
              omega
             have hget:∀ nc p u,(olds++news)[p]? = some u→(olds.toArray++news.toArray++Builtin.zeroCells z.cells (nc - (len+rows.n)))[p]? = some u:=fun nc p u hp=>by
              rw[←Array.getElem?_toList]
              simp only[Array.toList_append]
              rw[List.getElem?_append_left (by have:=(List.getElem?_eq_some_iff.1 hp).1;simpa using this)]
              exact hp
             have hrows:∀ nc,∀ i' row,(blk0.app rows).row? i'=some row→row.length=i.size∧∀ j x,row[j]? = some x→∃ v,(olds.toArray++news.toArray++Builtin.zeroCells z.cells (nc - (len+rows.n)))[i'*i.size+j]? = some v∧v.oneCell'=true∧RepV w F base σ v x:=
              fun nc=>q91 hk0 hpos rfl hlen (by rw[hn0];exact hol) hnl (hget nc) hold hnew
             cases hs with
             |none=>
              obtain⟨rfl,rfl⟩:=hnone rfl
              obtain rfl:olds=[]:=List.eq_nil_of_length_eq_zero (by simpa using hol)
              have hrun:=R.nil hm0 (by omega) hxv
              refine⟨([]:List Value).toArray++news.toArray++Builtin.zeroCells z.cells (grownCap w rows.n 0 e - (0+rows.n)),grownCap w rows.n 0 e,by rw[Nat.zero_add];exact grownCap_ge w _ 0 e,hsz _ (by rw[Nat.zero_add];exact grownCap_ge w _ 0 e),?_,hrows _⟩
              simp only[Nat.zero_add,Array.empty_append]
              exact hrun
             |some B=>
              have hrun:=R.grow hm0 B len cap olds hxv hol (hocell B rfl) hgr (by omega)
              exact⟨_,grownCap w (len+rows.n) cap e,grownCap_ge w _ cap e,hsz _ (grownCap_ge w _ cap e),hrun,hrows _⟩
            cases va with
            |bsl id i0 len=>
             simp only at hev
             cases hbk:look H id with
             |none=>simp [hbk] at hev
             |some blk=>
              simp only[hbk] at hev
              split at hev
              case isFalse=>cases hev
              rename_i hc
              obtain⟨rfl,hbn,hbkk,hfit⟩:=hc
              simp only[Option.some.injEq,Prod.mk.injEq] at hev
              obtain⟨rfl,rfl,rfl,rfl⟩:=hev
              have hid:=hdom id blk hbk
              have hent:blk.entries=none:=by
               cases blk with
               |map es=>simp only[Blk.k] at hbkk;omega
               |_=>rfl
              obtain⟨ak,an,_⟩:=z0X (w:=w) (F:=F) (base:=base) (σ:=σ) blk rows hent
              have hbr:=hH.blk id blk hbk
              -- the handle
              have handle:∃ hs cap,a.eval x=.slice hs len cap∧len≤cap∧((len=0∧cap=0)∨∃ l,σ id=some l∧hs=some ⟨l.blk,0,none⟩∧cap≤l.ext):=by
               generalize a.eval x=v at hA
               cases hA with
               |bsl0 ad' _ _=>exact⟨ad',0,rfl,Nat.le_refl _,.inl ⟨rfl,rfl⟩⟩
               |bsl _ _ _ cap l hl h1 h2=>exact⟨_,cap,rfl,h1,.inr ⟨l,hl,by rw[Nat.zero_mul],by omega⟩⟩
              obtain⟨hs,cap,hxv,hlc,hloc⟩:=handle
              by_cases hm0:rows.n=0
              ·-- nothing is appended
               have hrun:=R.zero hm0 hs len cap hlc hxv
               have hblk':BlkRel w F base σ id (blk.app rows):=by
                rcases hbr with⟨h1,h2⟩|⟨_,_,_,_,rfl,_⟩|⟨l,cs,T,h1,h2,h3,h4,h5,h6,h7⟩
                ·exact .inl ⟨by rw[an];omega,h2⟩
                ·simp [Blk.entries] at hent
                ·refine .inr <| .inr ⟨l,cs,T,h1,h2,by rw[ak];exact h3,by rw[an];omega,h5,fun i' row hr=>?_,q55 _ h7⟩
                 rcases(z0X (w:=w) (F:=F) (base:=base) (σ:=σ) blk rows hent).2.2 i' row hr with⟨hi',r0,hr0,hw1,hw2⟩|⟨hi',r0,hr0,_⟩
                 ·obtain⟨g1,g2⟩:=h6 i' r0 hr0
                  refine⟨by rw[ak];omega,fun j x hx=>?_⟩
                  obtain⟨y,hy,hyx⟩:=hw2 j x hx
                  obtain⟨v,v1,v2,v3⟩:=g2 j y hy
                  exact⟨v,v1,v2,hyx v v3⟩
                 ·have:=(List.getElem?_eq_some_iff.1 hr0).1
                  omega
               obtain⟨s1,s2⟩:=z1n hH (w1:=w) (fun _ _=>rfl) (Nat.le_refl _) (fun _ _ _ _=>rfl) hblk'
               unfold Oper.wp
               rw[hrun]
               refine hn _ w σ ⟨.refl _ _ _,fun _ hb=>⟨hb,rfl⟩,fun _ h=>.inl h,s1,s2,fun _ _ h _=>h⟩ ?_
               rw[hm0,Nat.add_zero]
               rw[hxv] at hA
               exact hA
              ·by_cases hroom:len+rows.n≤cap
               ·-- within the room
                rcases hloc with⟨h1,h2⟩|⟨l,hl,rfl,hce⟩
                ·omega
                ·rcases hbr with⟨_,h2⟩|⟨_,_,_,_,rfl,_⟩|⟨l',cs,T,h1,h2,h3,h4,h5,h6,h7⟩
                 ·rw[h2] at hl;cases hl
                 ·simp [Blk.entries] at hent
                 ·obtain rfl:l=l':=by rw[hl] at h1;exact Option.some.inj h1
                  obtain⟨o1,o2,o3,o4⟩:=hH.own id l hl
                  have hTe:True:=trivial
                  have hfit':len*i.size+news.length≤cs.size:=by
                   rw[hnl,←Nat.add_mul,h5,h3,hbkk]
                   exact Nat.mul_le_mul_right _ (by omega)
                  have hrun:=R.room hm0 l.blk len cap T cs hxv h2 hroom hfit'
                  have hsame:∀ b,F b→(w.setRow l.blk (cs.toList.take (len*i.size)++news++cs.toList.drop (len*i.size+news.length)).toArray).heap[b]? = w.heap[b]?:=fun b hb'=>setRow_other w _ b _ (by rintro rfl;exact o2 hb')
                  have hgr:=q91 (w:=w) (F:=F) (base:=base) (σ:=σ) (blk:=blk) (rows:=rows) (m:=rows.n) (cs:=(cs.toList.take (len*i.size)++news++cs.toList.drop (len*i.size+news.length)).toArray) (olds:=cs.toList.take (len*i.size)) (news:=news) hbkk hpos rfl hlen
                   (by rw[List.length_take,Array.length_toList,hbn];omega) hnl (fun p u hp=>by
                    rw[List.getElem?_toArray,List.getElem?_append_left (List.getElem?_eq_some_iff.1 hp).1]
                    exact hp)
                   (fun i' row hr=>by
                    obtain⟨g1,g2⟩:=h6 i' row hr
                    rw[hbkk] at g1
                    refine⟨g1,fun j x hx=>?_⟩
                    obtain⟨v,v1,v2,v3⟩:=g2 j x hx
                    rw[h3,hbkk] at v1
                    have hin:i'<blk.n:=by
                     cases blk with
                     |dat c' k' rs=>
                      simp only[Blk.row?,Option.map_eq_some_iff] at hr
                      obtain⟨dr,hdr,_⟩:=hr
                      exact(List.getElem?_eq_some_iff.1 hdr).1
                     |mix k' rs=>exact(List.getElem?_eq_some_iff.1 hr).1
                     |map es=>simp [Blk.entries] at hent
                    have hj:j<i.size:=by have:=(List.getElem?_eq_some_iff.1 hx).1;omega
                    refine⟨v,?_,v2,v3⟩
                    rw[List.getElem?_take,if_pos,Array.getElem?_toList]
                    ·exact v1
                    ·have:(i'+1)*i.size≤len*i.size:=Nat.mul_le_mul_right _ (by omega)
                     rw[Nat.add_mul,Nat.one_mul] at this
                     omega)
                   hnew
                  have hblk':BlkRel (w.setRow l.blk (cs.toList.take (len*i.size)++news++cs.toList.drop (len*i.size+news.length)).toArray) F base σ id (blk.app rows):=by
                   refine .inr <| .inr ⟨l,_,T,hl,h2.set (by simp;omega),by rw[ak];exact h3,by rw[an];omega,?_,fun i' row hr=>?_,q55 _ h7⟩
                   ·simp only[List.size_toArray,List.length_append,List.length_take,List.length_drop,Array.length_toList]
                    omega
                   ·obtain⟨g1,g2⟩:=hgr i' row hr
                    refine⟨by rw[ak,hbkk];exact g1,fun j x hx=>?_⟩
                    obtain⟨v,v1,v2,v3⟩:=g2 j x hx
                    rw[h3,hbkk]
                    exact⟨v,v1,v2,v3.setRow o2⟩
                  obtain⟨s1,s2⟩:=z1n hH hsame (by simp) (fun b l' hne hl'=>setRow_other w _ _ _ (fun h=>hne (hH.inj b id l' l hl' hl h))) hblk'
                  unfold Oper.wp
                  rw[hrun]
                  refine hn _ _ σ ⟨.setRow o3,fun b hb=>⟨hb,hsame b hb⟩,fun _ h=>.inl h,s1,s2,fun _ _ h _=>h⟩ ?_
                  have:=RepV.bsl (w:=w.setRow l.blk (cs.toList.take (len*i.size)++news++cs.toList.drop (len*i.size+news.length)).toArray) (F:=F) (base:=base) (σ:=σ) id 0 (len+rows.n) cap l hl hroom (by omega)
                  rw[Nat.zero_mul] at this
                  exact this
               ·-- it grows
                have holds:∃ olds:List Value,olds.length=len*i.size∧(∀ A,hs=some A→∀ j u,olds[j]? = some u→w.cell? (A.add j)=some u)∧
                  (∀ i' row,blk.row? i'=some row→row.length=i.size∧∀ j x,row[j]? = some x→∃ v,olds[i'*i.size+j]? = some v∧v.oneCell'=true∧RepV w F base σ v x):=by
                 have inn:∀ i' row,blk.row? i'=some row→i'<blk.n:=by
                  intro i' row hr
                  cases blk with
                  |dat c' k' rs=>
                   simp only[Blk.row?,Option.map_eq_some_iff] at hr
                   obtain⟨dr,hdr,_⟩:=hr
                   exact(List.getElem?_eq_some_iff.1 hdr).1
                  |mix k' rs=>exact(List.getElem?_eq_some_iff.1 hr).1
                  |map es=>simp [Blk.entries] at hent
                 by_cases hl0:len=0
                 ·exact⟨[],by simp [hl0],fun A _ j u h=>by simp at h,fun i' row hr=>by have:=inn i' row hr;omega⟩
                 ·rcases hloc with⟨h1,h2⟩|⟨l,hl,rfl,hce⟩
                  ·omega
                  ·rcases hbr with⟨h1,_⟩|⟨_,_,_,_,rfl,_⟩|⟨l',cs,T,h1,h2,h3,h4,h5,h6,h7⟩
                   ·omega
                   ·simp [Blk.entries] at hent
                   ·obtain rfl:l=l':=by rw[hl] at h1;exact Option.some.inj h1
                    have hle:len*i.size≤cs.size:=by
                     rw[h5,h3,hbkk]
                     exact Nat.mul_le_mul_right _ (by omega)
                    refine⟨cs.toList.take (len*i.size),by rw[List.length_take,Array.length_toList];omega,fun A hA j u hj=>?_,fun i' row hr=>?_⟩
                    ·obtain rfl:=Option.some.inj hA
                     rw[add_lit,Nat.zero_add,h2.cell]
                     rw[List.getElem?_take] at hj
                     split at hj
                     ·simpa using hj
                     ·cases hj
                    ·obtain⟨g1,g2⟩:=h6 i' row hr
                     rw[hbkk] at g1
                     refine⟨g1,fun j x hx=>?_⟩
                     obtain⟨v,v1,v2,v3⟩:=g2 j x hx
                     rw[h3,hbkk] at v1
                     have hin:=inn i' row hr
                     have hj:j<i.size:=by have:=(List.getElem?_eq_some_iff.1 hx).1;omega
                     refine⟨v,?_,v2,v3⟩
                     rw[List.getElem?_take,if_pos,Array.getElem?_toList]
                     ·exact v1
                     ·have:(i'+1)*i.size≤len*i.size:=Nat.mul_le_mul_right _ (by omega)
                      rw[Nat.add_mul,Nat.one_mul] at this
                      omega
                obtain⟨olds,ol1,ol2,ol3⟩:=holds
                have hnone:hs=none→len=0∧cap=0:=by
                 rintro rfl
                 rcases hloc with h|⟨l,_,h,_⟩
                 ·exact h
                 ·cases h
                obtain⟨cs,nc,hnc,hcs,hrun,hrows⟩:=grow id blk olds len cap hs hxv hbkk hbn hlc (by omega) hfit ol1 ol2 hnone ol3
                obtain⟨m1,m2⟩:=z7J hH hb hid (blk':=blk.app rows) (k:=i.size) (e:=nc) (cs:=cs) (T:=e) (q55 _ hent) (by rw[ak,hbkk]) (by rw[an,hbn];exact hnc) hcs hrows
                unfold Oper.wp
                rw[hrun]
                refine hn _ _ _ ⟨z0e _ hb,fun b hb'=>⟨hb',Below.heap_alloc w.drew _ b (hH.fro b hb')⟩,fun _ h=>.inl h,m1,m2,fun b l h hne=>by unfold ext;rw[if_neg (by simpa [Lost.ids] using hne)];exact h⟩ ?_
                have:=RepV.bsl (w:=w.drew.alloc (.cells cs e)) (F:=F) (base:=base) (σ:=ext σ id ⟨w.heap.size,i.size,nc⟩) id 0 (len+rows.n) nc _ q2Q hnc (by simp)
                simp only[Nat.zero_mul] at this
                exact this
            |fs cc kk rws=>
             cases rws with
             |cons=>simp at hev
             |nil=>
              simp only at hev
              split at hev
              case isFalse=>cases hev
              rename_i hc
              obtain⟨rfl,hfit⟩:=hc
              simp only[Option.some.injEq,Prod.mk.injEq] at hev
              obtain⟨rfl,rfl,rfl,rfl⟩:=hev
              obtain⟨bk1,bk2,bk3⟩:=z7j i.size rows
              have hnoσ:σ s.nx=none:=by
               cases hs:σ s.nx with
               |none=>rfl
               |some l=>have:=(hH.own _ l hs).1;omega
              have handle:∃ hs,a.eval x=.slice hs 0 0:=by
               generalize a.eval x=v at hA
               cases hA with
               |fs _ ad' len' _ _ h=>
                obtain⟨a',c',h'⟩:=h.slice_len
                simp only[Value.slice.injEq,List.length_nil] at h'
                obtain⟨_,rfl,_⟩:=h'
                exact⟨_,rfl⟩
              obtain⟨hs,hxv⟩:=handle
              have hHup:HeapRel w F X base σ (s.nx+1) H:=⟨hH.blk,hH.inj,fun b l hl=>by obtain⟨h1,h2⟩:=hH.own b l hl;exact⟨by omega,h2⟩,hH.fro⟩
              by_cases hm0:rows.n=0
              ·have hrun:=R.zero hm0 hs 0 0 (Nat.le_refl _) hxv
               unfold Oper.wp
               rw[hrun]
               refine hn _ w σ ⟨.refl _ _ _,fun _ hb=>⟨hb,rfl⟩,fun _ h=>.inl h,fun v x h=>h,⟨fun b blk0 hb0=>?_,hHup.inj,hHup.own,hHup.fro⟩,fun _ _ h _=>h⟩ ?_
               ·simp only[loseH,look] at hb0
                split at hb0
                ·rename_i hbb
                 subst hbb
                 obtain rfl:=Option.some.inj hb0
                 exact .inl ⟨by rw[bk2];exact hm0,hnoσ⟩
                ·exact hH.blk b blk0 hb0
               ·rw[hm0]
                exact .bsl0 _ _ _
              ·have hnone:hs=none→(0:Nat)=0∧(0:Nat)=0:=fun _=>⟨rfl,rfl⟩
               obtain⟨cs,nc,hnc,hcs,hrun,hrows⟩:=grow s.nx (.dat true i.size []) [] 0 0 hs hxv rfl rfl (Nat.le_refl _) (by omega) (by omega) (by simp) (fun A _ j u h=>by simp at h) hnone (fun i' row hr=>by simp [Blk.row?] at hr)
               rw[Nat.zero_add] at hnc hrun
               have hrows':∀ i' row,(rows.blk i.size).row? i'=some row→row.length=(rows.blk i.size).k∧∀ j x,row[j]? = some x→∃ v,cs[i'*(rows.blk i.size).k+j]? = some v∧v.oneCell'=true∧RepV w F base σ v x:=by
                intro i' row hr
                rw[bk1]
                refine hrows i' row ?_
                cases rows with
                |dat c' rs=>simpa [Blk.app,Rows.blk] using hr
                |mix rs=>simpa [Blk.app,Rows.blk,Blk.row?] using hr
               have hmade:=q73 (w:=w.drew) (F:=F) (X:=X) (base:=base) (σ:=σ) (nx:=s.nx+1) (H:=H) (n:=s.nx) (blk:=rows.blk i.size) (e:=nc) (cs:=cs) (T:=e)
                ⟨fun b blk0 hb0=>(hH.blk b blk0 hb0).mono (w:=w) (w':=w.drew) (F':=F) (σ':=σ) (fun b h=>⟨h,rfl⟩) (fun _ _ h=>h) (fun h=>h) (fun _ _=>rfl),hHup.inj,hHup.own,hHup.fro⟩ hb hnoσ (by omega) hdom (z1y _ _) (by rw[bk2];exact hnc) (by rw[bk1];exact hcs)
                (fun i' row hr=>⟨(hrows' i' row hr).1,fun j x hx=>by
                 obtain⟨v,v1,v2,v3⟩:=(hrows' i' row hr).2 j x hx
                 exact⟨v,v1,v2,v3.mono (w:=w) (w':=w.drew) (F':=F) (σ':=σ) (fun b h=>⟨h,rfl⟩) (fun _ _ h=>h)⟩⟩)
               unfold Oper.wp
               rw[hrun]
               refine hn _ _ _ ⟨z0e _ hb,fun b hb'=>⟨hb',Below.heap_alloc w.drew _ b (hH.fro b hb')⟩,fun _ h=>.inl h,fun v x h=>h.mono (w:=w) (F':=F) (fun b hb'=>⟨hb',Below.heap_alloc w.drew _ b (hH.fro b hb')⟩) hmade.old,⟨fun b blk0 hb0=>?_,hmade.heap.inj,hmade.heap.own,hmade.heap.fro⟩,fun b l h _=>hmade.old b l h⟩ ?_
               ·simp only[loseH,look] at hb0
                split at hb0
                ·rename_i hbb
                 subst hbb
                 obtain rfl:=Option.some.inj hb0
                 exact hmade.blk 0 _ rfl
                ·exact hmade.heap.blk b blk0 hb0
               ·have:=RepV.bsl (w:=w.drew.alloc (.cells cs e)) (F:=F) (base:=base) (σ:=ext σ s.nx ⟨w.heap.size,(rows.blk i.size).k,nc⟩) s.nx 0 rows.n nc _ q2Q hnc (by simp)
                simp only[Nat.zero_mul] at this
                exact this
            |_=>simp at hev
set_option maxHeartbeats 1000000 in
theorem j1h{k:Nat}{ea eb:E}{H':List (Nat×Blk)}{r:V}{p:Lost}{nx':Nat}(hw:appK P env o=some (k,ea,eb))(hev:evWr K s H (.app k ea eb)=some (H',r,p,nx'))
  (hops:∀ x∈o.op.operands.toList,Held P K s env w F base σ a x) (hH:HeapRel w F X base σ s.nx H) (hb:base≤w.heap.size) (hdom:∀ b blk,look H b=some blk→b<s.nx) {next:Act→World→Prop} {Q:Exit→Act→World→Prop}
  (hn:∀ v w' σ',Wrote w w' F F X base σ σ' p nx' H'→RepV w' F base σ' v r→next (a.put o.dst v) w'):o.wp P a w next Q:=by
 have held:∀ x,x∈o.op.operands.toList→∀ t e r,q0j P env t x=some e→ev K s e=some r→RepV w F base σ (a.eval x) r:=hops
 unfold appK at hw
 cases hop:o.op with
 |call c=>
  obtain⟨callee,args,argTypes⟩:=c
  simp only[hop] at hw held
  cases callee with
  |builtin b=>
   cases b <;> simp only at hw <;> (try(cases hw;done))
   obtain⟨args⟩:=args
   obtain⟨argTypes⟩:=argTypes
   match args,argTypes,hw,hop,held with
   |[x,y],[t,t'],hw,hop,held=>
    simp only at hw
    split at hw
    case isFalse=>
     split at hw
     case h_2=>cases hw
     rename_i e ex ey ht hu hx hy
     split at hw
     case h_2=>cases hw
     rename_i i he hi
     split at hw
     case h_2=>cases hw
     rename_i hz
     split at hw
     case isFalse=>cases hw
     rename_i hcnd
     obtain⟨hs1,hby,_⟩:=hcnd
     simp only[Option.some.injEq,Prod.mk.injEq] at hw
     obtain⟨rfl,rfl,rfl⟩:=hw
     rw[z0a] at hev
     cases hva:ev K s ex with
     |none=>simp [hva] at hev
     |some va=>
      cases hvb:ev K s ey with
      |none=>simp [hva,ev,hvb] at hev
      |some vb=>
       simp only[hva,ev,hvb] at hev
       have hA:=held x (by simp [Op.operands,Call.operands]) _ _ _ hx hva
       have hB:=held y (by simp [Op.operands,Call.operands]) _ _ _ hy hvb
       cases hev2:z8Y vb with
       |none=>simp [hev2] at hev
       |some vr=>
        simp only[hev2] at hev
        unfold z8Y at hev2
        split at hev2
        case h_2=>cases hev2
        rename_i c l
        obtain rfl:=Option.some.inj hev2
        simp only[q2q,if_true] at hev
        obtain⟨sb,hsv,hsl⟩:=hB.str_inv
        subst hsl
        have hmost:most=1099511627776:=rfl
        have hsize:sb.size=sb.data.toList.length:=by simp
        have hcells:Lib.strCells sb=sb.data.toList.map fun b=>Value.int .u8 b.toNat:=rfl
        have opn:∀ {v r:Value} {w':World},a.eval x=v→(Builtin.append_ #[t,t'] o.type #[v,.string sb]).run P w=.ok r w'→(execOp a.eval o).run P w=.ok (.value r) w':=by
         intro v r w' hv h
         simp [execOp,hop,resolve,invoke,builtin,hv,hsv,h]
        have hlen:(Rows.dat true (sb.data.toList.map fun b=>[D.int .u8 (b.toNat:Int)])).n=sb.size:=by simp [Rows.n]
        rw[show(1:Nat)=i.size from hs1.symm] at hev
        refine z0Y (x:=x) (e:=e) (i:=i) (z:=.int .u8 0) (rows:=.dat true (sb.data.toList.map fun b=>[D.int .u8 (b.toNat:Int)])) (news:=Lib.strCells sb) ⟨fun h0 hs len cap hlc hxv=>?_,fun _ g len cap T cs hxv hg hroom hfit'=>?_,fun _ hfit hxv=>?_,fun _ B len cap olds hxv hol hocell hgr hfit=>?_⟩ (by omega) (by rw[hs1];rfl) (by simp [Rows.vs,Rows.n]) (by rw[hlen,hs1,Lib.strCells_length,Nat.mul_one]) (Lib.strCells_oneCell sb) (fun j row hr=>?_) hA (by simpa [q0R] using hev) hH hb hdom hn
        ·rw[hlen] at h0
         refine opn hxv ?_
         have hl0:sb.data.toList=[]:=by
          refine List.eq_nil_of_length_eq_zero ?_
          omega
         have hf:=Lib.run_firstCells_string (P:=P) w 1 sb
         have hst:Lib.strCells sb=[]:=by rw[hcells,hl0];rfl
         rw[hst,h0] at hf
         cases hs <;> simp [Builtin.append_,run_underlying ht,run_underlying hu,sizeOf,typeInfo,hi,hs1,Builtin.lenOf,h0,hlc,hf,storeCells]
        ·rw[hlen] at hroom ⊢
         refine opn hxv ?_
         rw[hs1,Nat.mul_one] at hfit' ⊢
         have hf:=Lib.run_firstCells_string (P:=P) w 1 sb
         obtain⟨fz,h2z,hfz⟩:=hg
         have hst:=q16 P g len T fz (Lib.strCells sb) 0 cs w h2z hfz (by simpa using hfit') (Lib.strCells_oneCell sb)
         simp only[Nat.add_zero] at hst
         simp [Builtin.append_,run_underlying ht,run_underlying hu,sizeOf,typeInfo,hi,hs1,Builtin.lenOf,hroom,hf,Addr.add_lit,hst]
        ·rw[hlen] at hfit ⊢
         refine opn hxv ?_
         rw[run_append_nil_string (P:=P) w t t' o.type e i (.int .u8 0) ht hu hi hz sb (by omega) (by omega) (by rw[hby];omega)]
         have e1:(Lib.strCells sb).toArray=sb.data.map fun b=>Value.int .u8 b.toNat:=by
          apply Array.ext'
          simp [hcells]
         rw[e1]
        ·rw[hlen] at hgr hfit ⊢
         refine opn hxv ?_
         exact Lib.run_append_grow_string (P:=P) w t t' o.type e i (.int .u8 0) ht hu hi hz B len cap olds hol hocell sb hgr (by omega) (growslice_fits (by omega) (by rw[hby];omega))
        ·simp only[Rows.vs,List.map_map,List.getElem?_map,Option.map_eq_some_iff] at hr
         obtain⟨b,hb2,rfl⟩:=hr
         refine⟨hs1.symm,fun j' x hx=>?_⟩
         cases j' with
         |succ j'=>simp at hx
         |zero=>
          simp only[Function.comp,List.map_cons,List.map_nil,List.getElem?_cons_zero,Option.some.injEq] at hx
          subst hx
          refine⟨.int .u8 (b.toNat:Int),?_,rfl,.d _ _ _ (.int _ _)⟩
          rw[hs1,hcells,Nat.mul_one,Nat.add_zero,List.getElem?_map,hb2]
          rfl
    rename_i htt
    subst htt
    cases ht:P.underlying t' with
    |none=>simp [ht] at hw
    |some d=>
     cases hx:q0j P env t' x with
     |none=>cases d <;> simp [ht,hx] at hw
     |some ex=>
      cases hy:q0j P env t' y with
      |none=>cases d <;> simp [ht,hx,hy] at hw
      |some ey=>
       cases d <;> simp only[ht,hx,hy] at hw <;> (try(cases hw;done))
       rename_i e
       cases hi:P.info? e with
       |none=>simp [hi] at hw
       |some i=>
        cases hz:i.zero with
        |none=>simp [hi,hz] at hw
        |some z=>
         simp only[hi,hz] at hw
         split at hw
         case isFalse=>cases hw
         rename_i hcnd
         obtain⟨hby,hpos,hzs,_⟩:=hcnd
         simp only[Option.some.injEq,Prod.mk.injEq] at hw
         obtain⟨rfl,rfl,rfl⟩:=hw
         rw[z0a] at hev
         cases hva:ev K s ex with
         |none=>simp [hva] at hev
         |some va=>
          cases hvb:ev K s ey with
          |none=>simp [hva,hvb] at hev
          |some vb=>
           simp only[hva,hvb] at hev
           have hA:=held x (by simp [Op.operands,Call.operands]) _ _ _ hx hva
           have hB:=held y (by simp [Op.operands,Call.operands]) _ _ _ hy hvb
           cases hro:q2q H i.size vb with
           |none=>simp [hro] at hev
           |some rows=>
            simp only[hro] at hev
            obtain⟨ad,c,hbv,hsome,hlen,hcells⟩:=z5i hH hB hro
            have hmost:most=1099511627776:=rfl
            have fits:∀ n,n≤most→n*i.bytes≤140737488355328:=fun n hn'=>by
             have:n*i.bytes≤1099511627776*64:=Nat.mul_le_mul (by omega) hby
             omega
            by_cases hm0:rows.n=0
            ·refine z0Y (x:=x) (e:=e) (i:=i) (z:=z) (news:=[]) ⟨fun _ hs len cap hlc hxv=>?_,fun h=>absurd hm0 h,fun h=>absurd hm0 h,fun h=>absurd hm0 h⟩ hpos hzs hlen (by simp [hm0]) (by simp) (fun i' row hr=>by have:=(List.getElem?_eq_some_iff.1 hr).1;omega) hA hev hH hb hdom hn
             rw[hm0] at hbv
             exact q3w hop hxv hbv (q8x (P:=P) (w:=w) (ty:=o.type) ht hi hs len cap hlc ad c)
            ·obtain⟨A,rfl⟩:=Option.isSome_iff_exists.1 (hsome hm0)
             obtain⟨news,hnl,hncell,hn1,hnr⟩:=z5s (m:=rows.n) hpos hlen (hcells A rfl)
             refine z0Y (x:=x) (e:=e) (i:=i) (z:=z) (news:=news) ⟨fun h=>absurd h hm0,fun _ g len cap T cs hxv hg hroom hfit'=>?_,fun _ hfit hxv=>?_,fun _ B len cap olds hxv hol hocell hgr hfit=>?_⟩ hpos hzs hlen hnl hn1 (fun i' row hr=>⟨(hcells A rfl i' row hr).1,fun j x hx=>hnr i' row hr j x hx⟩) hA hev hH hb hdom hn
             ·have hrun0:(Builtin.append_ #[t',t'] o.type #[.slice (some ⟨g,0,none⟩) len cap,.slice (some A) rows.n c]).run P w=.ok (.slice (some ⟨g,0,none⟩) (len+rows.n) cap) (w.setRow g (cs.toList.take (len*i.size)++news++cs.toList.drop (len*i.size+news.length)).toArray):=by
               have hf:=run_firstCells_some (P:=P) w i.size rows.n A rows.n c news hnl hncell
               obtain⟨fz,h2z,hfz⟩:=hg
               have hst:=q16 P g (len*i.size) T fz news 0 cs w h2z hfz (by simpa using hfit') hn1
               simp only[Nat.add_zero] at hst
               simp [Builtin.append_,run_underlying ht,q1t hi,Builtin.lenOf,hroom,hf,Addr.add_lit,hst]
              exact q3w hop hxv hbv hrun0
             ·exact q3w hop hxv hbv (run_append_nil (P:=P) w t' o.type e i z ht hi hz A rows.n c news hnl hncell (by omega) (by omega) (by have:=fits _ hfit;omega))
             ·exact q3w hop hxv hbv (run_append_grow (P:=P) w t' o.type e i z ht hi hz B len cap olds hol hocell A rows.n c news hnl hncell hgr (by omega) (growslice_fits (by omega) (fits _ hfit)))
   |[],_,hw,_,_=>simp at hw
   |[_],_,hw,_,_=>simp at hw
   |_ :: _ :: _ :: _,_,hw,_,_=>simp at hw
   |[_,_],[],hw,_,_=>simp at hw
   |[_,_],[_],hw,_,_=>simp at hw
   |[_,_],_ :: _ :: _ :: _,hw,_,_=>simp at hw
  |_=>simp at hw
 |_=>simp [hop] at hw
theorem z19(w:World)(b n k:Nat)(h:k≠b):(w.freeze ⟨b,n,none⟩ 1).heap[k]? = w.heap[k]?:=by
 unfold World.freeze
 rw[if_neg (by decide)]
 simp only[Array.getElem?_modify]
 rw[if_neg (Ne.symm h)]
theorem RowAt.freeze{b:Nat}{cs:Array Value}{T:TypeId}(h:RowAt w b cs T):RowAt (w.freeze ⟨b,cs.size,none⟩ 1) b cs T:=by
 obtain⟨⟨lo,hi⟩,h1,h2⟩:=h
 refine⟨if lo==hi then(cs.size,cs.size+1) else(min lo cs.size,max hi (cs.size+1)),?_,?_⟩
 ·unfold World.freeze
  rw[if_neg (by decide)]
  simp [Array.getElem?_modify,h1]
 ·right
  split
  ·exact Nat.le_refl _
  ·rename_i hne
   rcases h2 with h2|h2
   ·cases h2;simp at hne
   ·simp only at h2⊢;omega
theorem z7Q{ea:E}{H':List (Nat×Blk)}{r:V}{p:Lost}{nx':Nat}(hw:z1M P env o=some ea)(hev:evWr K s H (.mark ea)=some (H',r,p,nx'))
  (hops:∀ x∈o.op.operands.toList,Held P K s env w F base σ a x) (hH:HeapRel w F X base σ nx H) {next:Act→World→Prop} {Q:Exit→Act→World→Prop}
  (hn:∀ v w',Wrote w w' F F X base σ σ p nx H'→RepV w' F base σ v r→next (a.put o.dst v) w'):o.wp P a w next Q:=by
 have held:∀ x,x∈o.op.operands.toList→∀ t e r,q0j P env t x=some e→ev K s e=some r→RepV w F base σ (a.eval x) r:=hops
 unfold z1M at hw
 cases hop:o.op with
 |convert src dst x=>
  simp only[hop] at hw held
  split at hw
  case isFalse=>cases hw
  rename_i hsd
  obtain⟨rfl,hdst⟩:=hsd
  split at hw
  case h_2=>cases hw
  rename_i e ex hs hx
  split at hw
  case h_2=>cases hw
  rename_i he
  obtain rfl:=Option.some.inj hw
  simp only[evWr] at hev
  split at hev
  case h_2=>cases hev
  rename_i id i0 len hv
  split at hev
  case isFalse=>cases hev
  rename_i hlen
  split at hev
  case h_2=>cases hev
  rename_i blk hb
  split at hev
  case isFalse=>cases hev
  rename_i hent
  simp only[Option.some.injEq,Prod.mk.injEq] at hev
  obtain⟨rfl,rfl,rfl,rfl⟩:=hev
  have hA:=held x (by simp [Op.operands]) _ _ _ hx hv
  have hA':=hA
  generalize hae:a.eval x=v at hA
  cases hA with
  |bsl0=>omega
  |bsl _ _ _ cap l hl h1 h2=>
   obtain⟨o1,o2,o3,o4⟩:=hH.own id l hl
   rcases hH.blk id blk hb with⟨_,hn'⟩|⟨l',es,ck,ds,rfl,_⟩|⟨l',cs,T,k1,k2,k3,k4,k5,k6,k7⟩
   ·rw[hn'] at hl;cases hl
   ·simp [Blk.entries] at hent
   ·obtain rfl:l=l':=by rw[hl] at k1;exact Option.some.inj k1
    have hshape:w.shape? l.blk=some (T,cs.size):=by
     obtain⟨fz,q1,_⟩:=k2
     unfold World.shape?
     rw[q1]
    have hrun:(execOp a.eval o).run P w=.ok (.value (.slice (some ⟨l.blk,i0*l.k,none⟩) len cap)) (w.freeze ⟨l.blk,cs.size,none⟩ 1):=by
     simp [execOp,hop,hae,convert,run_underlying hs,run_underlying he,markStringish,hshape]
    unfold Oper.wp
    rw[hrun]
    have hoth:∀ b,b≠l.blk→(w.freeze ⟨l.blk,cs.size,none⟩ 1).heap[b]? = w.heap[b]?:=fun b h=>z19 w _ _ b h
    have hsz:(w.freeze ⟨l.blk,cs.size,none⟩ 1).heap.size=w.heap.size:=by simp [World.freeze]
    have hF:∀ b,F b→F b∧(w.freeze ⟨l.blk,cs.size,none⟩ 1).heap[b]? = w.heap[b]?:=fun b hb=>⟨hb,hoth b (by rintro rfl;exact o2 hb)⟩
    have hval:∀ v x,RepV w F base σ v x→RepV (w.freeze ⟨l.blk,cs.size,none⟩ 1) F base σ v x:=fun v x h=>h.mono hF (fun _ _ h=>h)
    refine hn _ _ ⟨?_,hF,fun _ h=>.inl h,fun v x h=>hval v x h,⟨fun b' blk0 hb'=>?_,hH.inj,fun b' l' h=>by rw[hsz];exact hH.own b' l' h,fun b h=>by rw[hsz];exact hH.fro b h⟩,fun _ _ h _=>h⟩ ?_
    ·exact⟨by simp [World.freeze],by simp [World.freeze],by simp [World.freeze],by rw[hsz];exact Nat.le_refl _,fun k hk hx=>hoth k (by
      rintro rfl
      rcases o3 with h|h
      ·omega
      ·exact hx _ h)⟩
    ·simp only[loseH] at hb'
     by_cases hbb:id=b'
     ·subst hbb
      rw[hb] at hb'
      obtain rfl:=Option.some.inj hb'
      exact .inr <| .inr ⟨l,cs,T,hl,k2.freeze,k3,k4,k5,fun i' row hr=>⟨(k6 i' row hr).1,fun j' x hx=>by
       obtain⟨v,r1,r2,r3⟩:=(k6 i' row hr).2 j' x hx
       exact⟨v,r1,r2,hval v x r3⟩⟩,k7⟩
     ·refine(hH.blk b' blk0 hb').mono hF (fun _ _ h=>h) (fun h=>h) (fun l0 hl0=>hoth _ fun h=>hbb (hH.inj id b' l l0 hl hl0 h.symm))
    ·rw[hae] at hA'
     exact hval _ _ hA'
 |_=>simp [hop] at hw
end Go.Vm
end

section
namespace Go.Vm
open Go.RowKit
variable {P:Program}{w w':World}{F F':Nat→Prop}{X:Nat→Nat→Prop}{base base' nx:Nat}{σ σ':Nat→Option Loc}{K:Cx}{s:S}{a:Act}{o:Oper}{env:Env}{H:List (Nat×Blk)}{bs:List Nat}
theorem q5x(g:Nat→Nat):∀ cs:List V,renL g cs=cs.map (V.ren g)
 |[]=>rfl
 |v :: r=>by simp [renL,q5x g r]
theorem q5C:∀ cs:List V,dimL cs=cs.map V.dim
 |[]=>rfl
 |v :: r=>by simp [dimL,q5C r]
theorem q3O(p:Nat→Bool):∀ cs:List V,withinL p cs=cs.all (V.within p)
 |[]=>rfl
 |v :: r=>by simp [withinL,q3O p r]
theorem RepV.ren{p:Nat→Bool}{g:Nat→Nat}(hc:∀ c b,col F base c b→col F base' c b)(hσ:∀ b l,p b=true→σ b=some l→σ' (g b)=some l){v:Value}{x:V}(h:RepV w F base σ v x):x.within p=true→RepV w F base' σ' v (x.ren g):=by
 induction h with
 |d c v x h=>intro _;exact .d c v x (h.mono fun b hb=>⟨hc c b hb,rfl⟩)
 |fs c a len k rows h=>intro _;exact .fs c a len k rows (h.mono fun b hb=>⟨hc c b hb,rfl⟩)
 |ptr b i j l hl=>intro hp;exact .ptr _ i j l (hσ b l hp hl)
 |bsl0 a b i=>intro _;exact .bsl0 a _ i
 |bsl b i len cap l hl h1 h2=>intro hp;exact .bsl _ i len cap l (hσ b l hp hl) h1 h2
 |bsx b i len cap l a hl h1 h2 h3=>intro hp;exact .bsx _ i len cap l a (hσ b l hp hl) h1 h2 h3
 |agg cs vs h _ h1 ih=>
  intro hp
  simp only[V.within,q3O,List.all_eq_true] at hp
  simp only[V.ren,q5x]
  refine .agg cs _ (by simp [h]) (fun j v x hv hx=>?_) h1
  simp only[List.getElem?_map,Option.map_eq_some_iff] at hx
  obtain⟨y,hy,rfl⟩:=hx
  exact ih j v y hv hy (hp y (List.mem_of_getElem? hy))
 |tup cs vs h _ ih=>
  intro hp
  simp only[V.within,q3O,List.all_eq_true] at hp
  simp only[V.ren,q5x]
  refine .tup cs _ (by simp [h]) (fun j v x hv hx=>?_)
  simp only[List.getElem?_map,Option.map_eq_some_iff] at hx
  obtain⟨y,hy,rfl⟩:=hx
  exact ih j v y hv hy (hp y (List.mem_of_getElem? hy))
 |fn f cs vs h _ ih=>
  intro hp
  simp only[V.within,q3O,List.all_eq_true] at hp
  simp only[V.ren,q5x]
  refine .fn f cs _ (by simp [h]) (fun j v x hv hx=>?_)
  simp only[List.getElem?_map,Option.map_eq_some_iff] at hx
  obtain⟨y,hy,rfl⟩:=hx
  exact ih j v y hv hy (hp y (List.mem_of_getElem? hy))
 |iface t v x _ ih=>intro hp;exact .iface t v _ (ih hp)
 |map b l hl=>intro hp;exact .map _ l (hσ b l hp hl)
 |junk v=>intro _;exact .junk v
theorem RepV.dim(base':Nat){v:Value}{x:V}(h:RepV w F base σ v x):RepV w F base' σ v x.dim:=by
 induction h with
 |d c v x h=>exact .d false v x (h.mono fun b hb=>⟨q2B hb,rfl⟩)
 |fs c a len k rows h=>exact .fs false a len k rows (h.mono fun b hb=>⟨q2B hb,rfl⟩)
 |ptr b i j l hl=>exact .ptr b i j l hl
 |bsl0 a b i=>exact .bsl0 a b i
 |bsl b i len cap l hl h1 h2=>exact .bsl b i len cap l hl h1 h2
 |bsx b i len cap l a hl h1 h2 h3=>exact .bsx b i len cap l a hl h1 h2 h3
 |agg cs vs h _ h1 ih=>
  simp only[V.dim,q5C]
  refine .agg cs _ (by simp [h]) (fun j v x hv hx=>?_) h1
  simp only[List.getElem?_map,Option.map_eq_some_iff] at hx
  obtain⟨y,hy,rfl⟩:=hx
  exact ih j v y hv hy
 |tup cs vs h _ ih=>
  simp only[V.dim,q5C]
  refine .tup cs _ (by simp [h]) (fun j v x hv hx=>?_)
  simp only[List.getElem?_map,Option.map_eq_some_iff] at hx
  obtain⟨y,hy,rfl⟩:=hx
  exact ih j v y hv hy
 |fn f cs vs h _ ih=>
  simp only[V.dim,q5C]
  refine .fn f cs _ (by simp [h]) (fun j v x hv hx=>?_)
  simp only[List.getElem?_map,Option.map_eq_some_iff] at hx
  obtain⟨y,hy,rfl⟩:=hx
  exact ih j v y hv hy
 |iface t v x _ ih=>exact .iface t v _ ih
 |map b l hl=>exact .map b l hl
 |junk v=>exact .junk v
mutual
theorem q3E(p:Nat→Bool):∀ x:V,x.dim.within p=x.within p
 |.d _ _=>rfl
 |.fs _ _ _=>rfl
 |.ptr _ _ _=>rfl
 |.bsl _ _ _=>rfl
 |.bsx _ _ _=>rfl
 |.agg cs=>by simp only[V.dim,V.within];exact q21 p cs
 |.tup cs=>by simp only[V.dim,V.within];exact q21 p cs
 |.fn _ cs=>by simp only[V.dim,V.within];exact q21 p cs
 |.iface _ v=>by simp only[V.dim,V.within];exact q3E p v
 |.map _=>rfl
 |.junk=>rfl
theorem q21(p:Nat→Bool):∀ cs:List V,withinL p (dimL cs)=withinL p cs
 |[]=>rfl
 |v :: r=>by simp only[dimL,withinL,q3E p v,q21 p r]
end
mutual
theorem q4z:∀ x:V,x.within (fun _=>true)=true
 |.d _ _=>rfl
 |.fs _ _ _=>rfl
 |.ptr _ _ _=>rfl
 |.bsl _ _ _=>rfl
 |.bsx _ _ _=>rfl
 |.agg cs=>by simp only[V.within];exact q3e cs
 |.tup cs=>by simp only[V.within];exact q3e cs
 |.fn _ cs=>by simp only[V.within];exact q3e cs
 |.iface _ v=>by simp only[V.within];exact q4z v
 |.map _=>rfl
 |.junk=>rfl
theorem q3e:∀ cs:List V,withinL (fun _=>true) cs=true
 |[]=>rfl
 |v :: r=>by simp only[withinL,q4z v,q3e r,Bool.and_self]
end
theorem q9p(k:Blk):k.within (fun _=>true)=true:=by
 cases k with
 |dat=>rfl
 |mix k rows=>simp [Blk.within,q3e]
 |map es=>simp [Blk.within,q4z]
theorem BufV.ren{p:Nat→Bool}{g:Nat→Nat}(hσ:∀ b l,p b=true→σ b=some l→σ' (g b)=some l){v:Value}{x:V}(h:BufV σ v x)(hx:x.within p=true):BufV σ' v (x.ren g):=by
 cases x with
 |bsl b i n=>
  obtain⟨h0,h|⟨l,h1,h2⟩⟩:=h
  ·exact⟨h0,.inl h⟩
  ·exact⟨h0,.inr ⟨l,hσ b l hx h1,h2⟩⟩
 |_=>trivial
theorem BufV.dim{v:Value}{x:V}(h:BufV σ v x):BufV σ v x.dim:=by
 cases x with
 |bsl b i n=>exact h
 |_=>trivial
theorem BlkRel.ren{p:Nat→Bool}{g:Nat→Nat}(hF:∀ b,F b→F' b∧w'.heap[b]? = w.heap[b]?)(hc:∀ c b,col F' base c b→col F' base' c b)(hσ:∀ b l,p b=true→σ b=some l→σ' (g b)=some l){b b':Nat}{blk:Blk}(hp:blk.within p=true)
  (hs:∀ l,σ b=some l→σ' b'=some l) (hn:σ b=none→σ' b'=none) (hw:∀ l,σ b=some l→w'.heap[l.blk]? = w.heap[l.blk]?) (h:BlkRel w F base σ b blk):BlkRel w' F' base' σ' b' (blk.ren g):=by
 have hk:(blk.ren g).k=blk.k:=by cases blk <;> rfl
 have hnn:(blk.ren g).n=blk.n:=by cases blk <;> simp [Blk.ren,Blk.n,q3V (V.ren g)]
 have one:∀ v x,RepV w F base σ v x→x.within p=true→RepV w' F' base' σ' v (x.ren g):=fun v x h hx=>(h.mono (F':=F') (w':=w') (σ':=σ) hF (fun _ _ h=>h)).ren hc hσ hx
 rcases h with⟨h1,h2⟩|⟨l,es,ck,ds,rfl,h1,h2,h3,h4,h5⟩|⟨l,cs,T,h1,h2,h3,h4,h5,h6,h7⟩
 ·exact .inl ⟨by rw[hnn];exact h1,hn h2⟩
 ·refine .inr (.inl ⟨l,es,ck,_,rfl,hs l h1,h2.of (hw l h1) (fun q hq v hv=>hv.ren hσ (by have:=hp;simp only[Blk.within,List.all_eq_true] at this;exact this q hq)),h3,h4,h5.transM fun q hq v hv=>one v _ hv ?_⟩)
  simp only[Blk.within,List.all_eq_true] at hp
  exact hp q hq
 ·refine .inr <| .inr ⟨l,cs,T,hs l h1,h2.of (hw l h1),by rw[hk];exact h3,by rw[hnn];exact h4,h5,fun i row hrow=>?_,by cases blk <;> first|rfl|simp [Blk.entries] at h7⟩
  cases blk with
  |dat c k rows=>
   obtain⟨g1,g2⟩:=h6 i row hrow
   refine⟨by rw[hk];exact g1,fun j x hx=>?_⟩
   obtain⟨v,g3,g4,g5⟩:=g2 j x hx
   refine⟨v,g3,g4,?_⟩
   simp only[Blk.ren,Blk.row?,Option.map_eq_some_iff] at hrow
   obtain⟨r,_,rfl⟩:=hrow
   simp only[List.getElem?_map,Option.map_eq_some_iff] at hx
   obtain⟨d,_,rfl⟩:=hx
   have e:(mkd c d).ren g=mkd c d:=by unfold mkd;split <;> rfl
   rw[←e]
   exact one v _ g5 (by unfold mkd;split <;> rfl)
  |mix k rows=>
   simp only[Blk.ren,Blk.row?,List.getElem?_map,Option.map_eq_some_iff] at hrow
   obtain⟨r,hr,rfl⟩:=hrow
   obtain⟨g1,g2⟩:=h6 i r hr
   refine⟨by rw[q5x];simpa [Blk.ren,Blk.k] using g1,fun j x hx=>?_⟩
   rw[q5x,List.getElem?_map,Option.map_eq_some_iff] at hx
   obtain⟨y,hy,rfl⟩:=hx
   obtain⟨v,g3,g4,g5⟩:=g2 j y hy
   refine⟨v,g3,g4,one v y g5 ?_⟩
   simp only[Blk.within,List.all_eq_true] at hp
   have:=hp r (List.mem_of_getElem? hr)
   rw[q3O,List.all_eq_true] at this
   exact this y (List.mem_of_getElem? hy)
  |map es=>simp [Blk.entries] at h7
theorem BlkRel.dim(base':Nat){b:Nat}{blk:Blk}(h:BlkRel w F base σ b blk):BlkRel w F base' σ b blk.dim:=by
 have hk:blk.dim.k=blk.k:=by cases blk <;> rfl
 have hnn:blk.dim.n=blk.n:=by cases blk <;> simp [Blk.dim,Blk.n,q3V V.dim]
 rcases h with⟨h1,h2⟩|⟨l,es,ck,ds,rfl,h1,h2,h3,h4,h5⟩|⟨l,cs,T,h1,h2,h3,h4,h5,h6,h7⟩
 ·exact .inl ⟨by rw[hnn];exact h1,h2⟩
 ·exact .inr (.inl ⟨l,es,ck,_,rfl,h1,h2.of rfl (fun _ _ _ h=>h.dim),h3,h4,h5.trans fun v x h=>h.dim base'⟩)
 ·refine .inr <| .inr ⟨l,cs,T,h1,h2,by rw[hk];exact h3,by rw[hnn];exact h4,h5,fun i row hrow=>?_,by cases blk <;> first|rfl|simp [Blk.entries] at h7⟩
  cases blk with
  |dat c k rows=>
   simp only[Blk.dim,Blk.row?,Option.map_eq_some_iff] at hrow
   obtain⟨r,hr,rfl⟩:=hrow
   obtain⟨g1,g2⟩:=h6 i (r.map (mkd c)) (by simp [Blk.row?,hr])
   refine⟨by simpa [Blk.dim,Blk.k] using g1,fun j x hx=>?_⟩
   simp only[List.getElem?_map,Option.map_eq_some_iff] at hx
   obtain⟨d,hd,rfl⟩:=hx
   obtain⟨v,g3,g4,g5⟩:=g2 j (mkd c d) (by simp [hd])
   refine⟨v,g3,g4,?_⟩
   have e:mkd false d=(mkd c d).dim:=by unfold mkd;split <;> rfl
   rw[e]
   exact g5.dim base'
  |mix k rows=>
   simp only[Blk.dim,Blk.row?,List.getElem?_map,Option.map_eq_some_iff] at hrow
   obtain⟨r,hr,rfl⟩:=hrow
   obtain⟨g1,g2⟩:=h6 i r hr
   refine⟨by rw[q5C];simpa [Blk.dim,Blk.k] using g1,fun j x hx=>?_⟩
   rw[q5C,List.getElem?_map,Option.map_eq_some_iff] at hx
   obtain⟨y,hy,rfl⟩:=hx
   obtain⟨v,g3,g4,g5⟩:=g2 j y hy
   exact⟨v,g3,g4,g5.dim base'⟩
  |map es=>simp [Blk.entries] at h7
theorem q3h(g:Nat→Nat)(b:Nat):∀(l:List Blk)(i:Nat)(H:List (Nat×Blk)),(∀ j,j<l.length→g (i+j)≠b)→look (putAll H g i l) b=look H b
 |[],i,H,_=>rfl
 |k :: r,i,H,h=>by
  simp only[putAll]
  rw[q3h g b r (i+1) _ (fun j hj=>by have:=h (j+1) (by simpa using hj);rwa [show i+1+j=i+(j+1) by omega])]
  rw[q0u,if_neg (by simpa using h 0 (by simp))]
theorem z1z(g:Nat→Nat):∀(l:List Blk)(i:Nat)(H:List (Nat×Blk))(j:Nat)(k:Blk),l[j]? = some k→(∀ x y,x<i+l.length→y<i+l.length→g x=g y→x=y)→look (putAll H g i l) (g (i+j))=some (k.ren g)
 |[],i,H,j,k,hk,_=>by simp at hk
 |k0 :: r,i,H,0,k,hk,hg=>by
  simp only[List.getElem?_cons_zero,Option.some.injEq] at hk
  subst hk
  simp only[putAll]
  rw[q3h g _ r (i+1) _ (fun j hj he=>by
   have:=hg (i+1+j) (i+0) (by simp;omega) (by simp) he
   omega)]
  rw[q0u,if_pos (by simp)]
 |k0 :: r,i,H,j+1,k,hk,hg=>by
  simp only[List.getElem?_cons_succ] at hk
  simp only[putAll]
  have:=z1z g r (i+1) (put H (g i) (k0.ren g)) j k hk (fun x y hx hy=>hg x y (by simp at hx⊢;omega) (by simp at hy⊢;omega))
  rwa [show i+1+j=i+(j+1) by omega] at this
theorem q2x{i:Nat}(h:i<bs.length)(nx:Nat):q1L bs nx i=bs[i]:=by
 unfold q1L
 rw[List.getElem?_eq_getElem h]
theorem q3D{i:Nat}(h:bs.length≤i)(nx:Nat):q1L bs nx i=nx+(i - bs.length):=by
 unfold q1L
 rw[List.getElem?_eq_none h]
theorem z9k(hn:bs.Nodup)(hlt:∀ b∈bs,b<nx){i j:Nat}(h:q1L bs nx i=q1L bs nx j):i=j:=by
 by_cases hi:i<bs.length <;> by_cases hj:j<bs.length
 ·rw[q2x hi,q2x hj] at h
  exact(List.getElem_inj hn).1 h
 ·rw[q2x hi,q3D (by omega)] at h
  have:=hlt _ (List.getElem_mem hi)
  omega
 ·rw[q2x hj,q3D (by omega)] at h
  have:=hlt _ (List.getElem_mem hj)
  omega
 ·rw[q3D (by omega),q3D (by omega)] at h
  omega
def inn(bs:List Nat)(σ:Nat→Option Loc)(i:Nat):Option Loc:=match bs[i]? with
 |some b=>σ b
 |none=>none
def back(bs:List Nat)(nx n:Nat)(σ τ:Nat→Option Loc)(b:Nat):Option Loc:=
 if b∈bs then τ (bs.idxOf b) else if nx≤b∧b<nx+(n - bs.length) then τ (bs.length+(b - nx)) else σ b
theorem z0B{b:Nat}(h:b∈bs):inn bs σ (bs.idxOf b)=σ b:=by
 unfold inn
 rw[List.getElem?_eq_getElem (List.idxOf_lt_length_of_mem h),List.getElem_idxOf]
theorem q1M{i:Nat}{l:Loc}(h:inn bs σ i=some l):∃ b,bs[i]? = some b∧σ b=some l:=by
 unfold inn at h
 split at h
 ·rename_i b hb;exact⟨b,hb,h⟩
 ·cases h
theorem z0V{nx n:Nat}{τ:Nat→Option Loc}(hn:bs.Nodup)(hlt:∀ b∈bs,b<nx)(hle:bs.length≤n){i:Nat}(hi:i<n):back bs nx n σ τ (q1L bs nx i)=τ i:=by
 unfold back
 by_cases h:i<bs.length
 ·rw[q2x h,if_pos (List.getElem_mem h)]
  congr 1
  exact hn.idxOf_getElem i h
 ·rw[q3D (by omega)]
  rw[if_neg (fun hm=>by have:=hlt _ hm;omega),if_pos (by omega)]
  congr 1
  omega
end Go.Vm
end

section
namespace Go.Vm
open Go.RowKit
variable {P:Program}{w w':World}{F F':Nat→Prop}{X:Nat→Nat→Prop}{base base' nx:Nat}{σ σ':Nat→Option Loc}{K:Cx}{s:S}{a:Act}{o:Oper}{env:Env}{H:List (Nat×Blk)}{bs:List Nat}
theorem q3k(f:Blk→Blk):∀(l:List (Nat×Blk))(t:Nat),look (l.map fun(t,v)=>(t,f v)) t=(look l t).map f
 |[],t=>rfl
 |(k,v) :: l,t=>by
  simp only[List.map_cons,look]
  split
  ·rfl
  ·exact q3k f l t
theorem BlkRel.forget{b:Nat}{blk:Blk}(p:Nat→Bool)(hF:∀ b,F b→F' b∧w'.heap[b]? = w.heap[b]?)(hσ:∀ b l,σ b=some l→p b=false→σ' b=some l)(hs:∀ l,σ b=some l→σ' b=some l)(hn:σ b=none→σ' b=none)(hw:∀ l,σ b=some l→w'.heap[l.blk]? = w.heap[l.blk]?)(h:BlkRel w F base σ b blk) :
  BlkRel w' F' base σ' b (blk.forget p):=by
 have hk:(blk.forget p).k=blk.k:=by cases blk <;> rfl
 have hnn:(blk.forget p).n=blk.n:=by cases blk <;> simp [Blk.forget,Blk.n,q3V (V.forget p)]
 rcases h with⟨h1,h2⟩|⟨l,es,ck,ds,rfl,h1,h2,h3,h4,h5⟩|⟨l,cs,T,h1,h2,h3,h4,h5,h6,h7⟩
 ·exact .inl ⟨by rw[hnn];exact h1,hn h2⟩
 ·exact .inr (.inl ⟨l,es,ck,_,rfl,hs l h1,h2.of (hw l h1) (fun _ _ _ h=>h.forget hσ),h3,h4,h5.trans fun v x h=>h.forget hF hσ⟩)
 ·refine .inr <| .inr ⟨l,cs,T,hs l h1,h2.of (hw l h1),by rw[hk];exact h3,by rw[hnn];exact h4,h5,fun i row hrow=>?_,by rw[q2u,h7];rfl⟩
  cases blk with
  |dat c k rows=>
   obtain⟨g1,g2⟩:=h6 i row hrow
   refine⟨by rw[hk];exact g1,fun j x hx=>?_⟩
   obtain⟨v,g3,g4,g5⟩:=g2 j x hx
   refine⟨v,g3,g4,?_⟩
   have hp:x.ref0 p=false:=by
    simp only[Blk.forget,Blk.row?,Option.map_eq_some_iff] at hrow
    obtain⟨r,_,rfl⟩:=hrow
    simp only[List.getElem?_map,Option.map_eq_some_iff] at hx
    obtain⟨d,_,rfl⟩:=hx
    unfold mkd
    split <;> rfl
   exact g5.keep0 hF hσ hp
  |mix k rows=>
   simp only[Blk.forget,Blk.row?,List.getElem?_map,Option.map_eq_some_iff] at hrow
   obtain⟨r,hr,rfl⟩:=hrow
   obtain⟨g1,g2⟩:=h6 i r hr
   refine⟨by simpa [Blk.forget,Blk.k] using g1,fun j x hx=>?_⟩
   simp only[List.getElem?_map,Option.map_eq_some_iff] at hx
   obtain⟨y,hy,rfl⟩:=hx
   obtain⟨v,g3,g4,g5⟩:=g2 j y hy
   exact⟨v,g3,g4,g5.drop1 hF hσ⟩
  |map es=>simp [Blk.entries] at h7
theorem RepV.loseMany{lost:List Nat}(hF:∀ b,F b→F' b∧w'.heap[b]? = w.heap[b]?)(hσ:∀ b l,σ b=some l→b∉lost→σ' b=some l){v:Value}{x:V}(h:RepV w F base σ v x):RepV w' F' base σ' v (q5S (.many lost) x):=by
 cases lost with
 |nil=>exact h.mono hF (fun b l hb=>hσ b l hb (by simp))
 |cons c r=>
  simp only[q5S]
  exact h.forget hF fun b l hb hp=>hσ b l hb (by simpa using hp)
theorem q7c(lost:List Nat)(b:Nat)(k:Blk)(h:look (q0q lost H) b=some k):∃ k0,look H b=some k0∧(lost=[]∧k=k0∨k=k0.forget lost.contains):=by
 cases lost with
 |nil=>exact⟨k,h,.inl ⟨rfl,rfl⟩⟩
 |cons c r=>
  simp only[q0q,forgetH,q3k,Option.map_eq_some_iff] at h
  obtain⟨k0,h1,rfl⟩:=h
  exact⟨k0,h1,.inr rfl⟩
theorem q5a(l:List Blk)(i:Nat):look (indexed l) i=l[i]?:=q3l l i
theorem q6F(hK:K.Sound P)(hH:HeapRel w F X base σ s.nx H)(hG:GlobRel w F K.glob)(hb:base≤w.heap.size)(hdom:∀ b blk,look H b=some blk→b<s.nx){f:FuncId}{vs:List V}{vals:Array Value}{H':List (Nat×Blk)}{r:V}{p:Lost}{nx':Nat}
  (hv:Reps w F base σ vals vs) (hr:q9z K s.nx H f vs bs=some (H',r,p,nx')) :
  q0p P f=true∧Calls P f vals w fun e w'=>∃ v F' σ',e=.returned v∧Wrote w w' F F' X base σ σ' p nx' H'∧RepV w' F' base σ' v r:=by
 unfold q9z at hr
 split at hr
 case isFalse=>cases hr
 rename_i hc
 simp only[Bool.and_eq_true,decide_eq_true_eq,List.all_eq_true] at hc
 obtain⟨⟨hnd,hwi⟩,hcl⟩:=hc
 cases hb1:handed H bs with
 |none=>simp [hb1] at hr
 |some blks=>
  simp only[hb1] at hr
  cases hef:K.eff f (vs.map fun v=>v.dim.ren bs.idxOf) blks with
  |none=>simp [hef] at hr
  |some q=>
   obtain⟨r0,blks',mv⟩:=q
   simp only[hef] at hr
   split at hr
   case isFalse=>cases hr
   rename_i hle
   simp only[Option.some.injEq,Prod.mk.injEq] at hr
   obtain⟨rfl,rfl,rfl,rfl⟩:=hr
   obtain⟨hcal,hcon⟩:=hK.eff f _ _ _ _ _ hef
   refine⟨hcal,?_⟩
   obtain⟨l1,l2⟩:=q0n hb1
   simp only[closedB,List.all_eq_true] at hcl
   have hin:∀ b∈bs,∃ k,look H b=some k∧k.within bs.contains=true:=fun b hm=>by
    have:=hcl b hm
    split at this
    ·rename_i k hk;exact⟨k,hk,this⟩
    ·cases this
   have hlt:∀ b∈bs,b<s.nx:=fun b hm=>by
    obtain⟨k,hk,_⟩:=hin b hm
    exact hdom b k hk
   have hidx:∀ b l,bs.contains b=true→σ b=some l→inn bs σ (bs.idxOf b)=some l:=fun b l h1 h2=>by rw[z0B (by simpa using h1)];exact h2
   have hcc:∀ c b,col F w.heap.size c b→col F w.heap.size c b:=fun _ _ h=>h
   have blk_at:∀(i:Nat) (k:Blk),blks[i]? = some k→∃ b k0,bs[i]? = some b∧look H b=some k0∧k0.within bs.contains=true∧k=k0.dim.ren bs.idxOf:=by
    intro i k hk
    have hi:i<bs.length:=by rw[←l1];exact(List.getElem?_eq_some_iff.1 hk).1
    obtain⟨y,hy,hz⟩:=l2 i _ (List.getElem?_eq_getElem hi)
    rw[hk] at hy
    obtain rfl:=Option.some.inj hy
    obtain⟨k0,h1,h2⟩:=hin _ (List.getElem_mem hi)
    simp only[h1,Option.map_some,Option.some.injEq] at hz
    exact⟨_,k0,List.getElem?_eq_getElem hi,h1,h2,hz.symm⟩
   have wdim:∀(k:Blk),k.within bs.contains=true→k.dim.within bs.contains=true:=by
    intro k hk
    cases k with
    |dat=>rfl
    |mix kk rows=>
     simp only[Blk.dim,Blk.within,List.all_eq_true,List.mem_map,forall_exists_index,and_imp,forall_apply_eq_imp_iff₂] at hk ⊢
     intro row hrow
     rw[q21]
     exact hk row hrow
    |map es=>
     simp only[Blk.dim,Blk.within,List.all_eq_true,List.mem_map,forall_exists_index,and_imp,forall_apply_eq_imp_iff₂] at hk ⊢
     intro q hq
     rw[q3E]
     exact hk q hq
   have hheap:HeapRel w F (OwnB (inn bs σ)) w.heap.size (inn bs σ) blks.length (indexed blks):=by
    refine⟨fun i k hi=>?_,fun i j l l' h1 h2 he=>?_,fun i l hi=>?_,hH.fro⟩
    ·rw[q5a] at hi
     obtain⟨b,k0,h1,h2,h3,rfl⟩:=blk_at i k hi
     have hσi:inn bs σ i=σ b:=by unfold inn;rw[h1]
     refine((hH.blk b k0 h2).dim w.heap.size).ren (w':=w) (F':=F) (p:=bs.contains) (fun b hb=>⟨hb,rfl⟩) hcc hidx (wdim k0 h3) (fun l hl=>by rw[hσi];exact hl) (fun hl=>by rw[hσi];exact hl) (fun _ _=>rfl)
    ·obtain⟨b,hb1',h3⟩:=q1M h1
     obtain⟨b',hb2,h4⟩:=q1M h2
     obtain rfl:=hH.inj b b' l l' h3 h4 he
     exact(List.getElem?_inj (List.getElem?_eq_some_iff.1 hb1').1 hnd).1 (hb1'.trans hb2.symm)
    ·obtain⟨b,hb1',h3⟩:=q1M hi
     obtain⟨_,h5,_,h6⟩:=hH.own b l h3
     exact⟨by rw[l1];exact(List.getElem?_eq_some_iff.1 hb1').1,h5,.inr ⟨l,hi,rfl⟩,h6⟩
   have hargs:Reps w F w.heap.size (inn bs σ) vals (vs.map fun v=>v.dim.ren bs.idxOf):=by
    refine⟨by simpa using hv.1,fun j v x hvj hx=>?_⟩
    simp only[List.getElem?_map,Option.map_eq_some_iff] at hx
    obtain⟨y,hy,rfl⟩:=hx
    exact((hv.2 j v y hvj hy).dim w.heap.size).ren hcc hidx (by rw[q3E];exact hwi y (List.mem_of_getElem? hy))
   refine(hcon w F (inn bs σ) vals hG hheap hargs).mono fun e w' ⟨v,F',τ,he,hfr,hF1,hF2,hRv,hHr,hst⟩=>?_
   refine⟨v,F',back bs s.nx blks'.length σ τ,he,?_,?_⟩
   case refine_2=>
    have hown:∀ i l,τ i=some l→i<blks'.length:=fun i l h=>(hHr.own i l h).1
    refine(hRv.ren (p:=fun _=>true) (base':=base) (σ':=back bs s.nx blks'.length σ τ) (g:=q1L bs s.nx) ?_ (fun i l _ hl=>by rw[z0V hnd hlt hle (hown i l hl)];exact hl) ?_)
    ·intro c b hb'
     cases c
     ·exact hb'
     ·exact⟨hb'.1,Nat.le_trans hb hb'.2⟩
    ·exact q4z _
   case refine_1=>
    have hown:∀ i l,τ i=some l→i<blks'.length:=fun i l h=>(hHr.own i l h).1
    have hcol:∀ c b,col F' w.heap.size c b→col F' base c b:=by
     intro c b hb'
     cases c
     ·exact hb'
     ·exact⟨hb'.1,Nat.le_trans hb hb'.2⟩
    have hsame:∀ b,F b→F' b∧w'.heap[b]? = w.heap[b]?:=fun b hb'=>⟨hF1 b hb',hfr.block b (hH.fro b hb') (by
     rintro i ⟨l,hi,rfl⟩
     obtain⟨b',_,h3⟩:=q1M hi
     exact(hH.own b' l h3).2.1 hb')⟩
    have hout:∀ b l,b∉bs→σ b=some l→w'.heap[l.blk]? = w.heap[l.blk]?:=fun b l hnb hl=>hfr.block _ (hH.own b l hl).2.2.2 (by
     rintro i ⟨l',hi,he'⟩
     obtain⟨b',hb',h3⟩:=q1M hi
     obtain rfl:=hH.inj b' b l' l h3 hl he'
     exact hnb (List.mem_of_getElem? hb'))
    have back_out:∀ b l,b∉bs→σ b=some l→back bs s.nx blks'.length σ τ b=some l:=by
     intro b l hnb hl
     unfold back
     rw[if_neg hnb,if_neg (by have:=(hH.own b l hl).1;omega)]
     exact hl
    have hσσ:∀ b l,σ b=some l→b∉mv.map (q1L bs s.nx)→back bs s.nx blks'.length σ τ b=some l:=by
     intro b l hl hnm
     by_cases hbm:b∈bs
     ·have hi:=List.idxOf_lt_length_of_mem hbm
      have hni:bs.idxOf b∉mv:=fun hm=>hnm (List.mem_map.2 ⟨_,hm,by rw[q2x hi,List.getElem_idxOf]⟩)
      have:=hst (bs.idxOf b) l (by rw[l1];exact hi) (by rw[z0B hbm];exact hl) hni
      unfold back
      rw[if_pos hbm]
      exact this
     ·exact back_out b l hbm hl
    have hginj:∀ x y,x<0+blks'.length→y<0+blks'.length→q1L bs s.nx x=q1L bs s.nx y→x=y:=fun x y _ _ h=>z9k hnd hlt h
    have back_some:∀ b l,back bs s.nx blks'.length σ τ b=some l→(∃ i,i<blks'.length∧b=q1L bs s.nx i∧τ i=some l)∨(b∉bs∧σ b=some l):=by
     intro b l h
     unfold back at h
     split at h
     ·rename_i hbm
      have hi:=List.idxOf_lt_length_of_mem hbm
      exact .inl ⟨_,by omega,by rw[q2x hi,List.getElem_idxOf],h⟩
     ·rename_i hbm
      split at h
      ·rename_i hr'
       refine .inl ⟨bs.length+(b - s.nx),by omega,?_,h⟩
       rw[q3D (by omega)]
       omega
      ·exact .inr ⟨hbm,h⟩
    refine⟨⟨hfr.os,hfr.tape,hfr.output,hfr.size,fun k hk hx=>hfr.block k (by omega) ?_⟩,hsame,fun b hb'=>(hF2 b hb').imp id (fun h=>Nat.le_trans hb h),fun v x h=>h.loseMany hsame hσσ,?_,fun b l hl hnm=>hσσ b l hl hnm⟩
    ·rintro i ⟨l,hi,rfl⟩
     obtain⟨b',_,h3⟩:=q1M hi
     rcases(hH.own b' l h3).2.2.1 with h|h
     ·omega
     ·exact hx b' h
    ·simp only[loseH]
     refine⟨fun b k hk=>?_,fun b b' l l' h1 h2 he'=>?_,fun b l hl=>?_,hHr.fro⟩
     ·by_cases him:∃ j,j<blks'.length∧q1L bs s.nx j=b
      ·obtain⟨j,hj,rfl⟩:=him
       have:=z1z (q1L bs s.nx) blks' 0 (q0q (mv.map (q1L bs s.nx)) H) j blks'[j] (List.getElem?_eq_getElem hj) hginj
       rw[Nat.zero_add] at this
       rw[this] at hk
       obtain rfl:=Option.some.inj hk
       have hbj:=hHr.blk j blks'[j] (by rw[q5a];exact List.getElem?_eq_getElem hj)
       refine hbj.ren (p:=fun _=>true) (fun b hb'=>⟨hb',rfl⟩) hcol (fun i l _ hl=>by rw[z0V hnd hlt hle (hown i l hl)];exact hl) (q9p _) (fun l hl=>by rw[z0V hnd hlt hle hj];exact hl) (fun hl=>by rw[z0V hnd hlt hle hj];exact hl) (fun _ _=>rfl)
      ·rw[q3h _ _ _ _ _ (fun j hj he'=>him ⟨j,hj,by rw[Nat.zero_add] at he';exact he'⟩)] at hk
       obtain⟨k0,h1,h2⟩:=q7c _ _ _ hk
       have hnb:b∉bs:=fun hbm=>him ⟨bs.idxOf b,by have:=List.idxOf_lt_length_of_mem hbm;omega,by rw[q2x (List.idxOf_lt_length_of_mem hbm),List.getElem_idxOf]⟩
       have hnone:σ b=none→back bs s.nx blks'.length σ τ b=none:=by
        intro h0
        cases hbk:back bs s.nx blks'.length σ τ b with
        |none=>rfl
        |some l=>
         rcases back_some b l hbk with⟨i,hi,rfl,_⟩|⟨_,h3⟩
         ·exact absurd ⟨i,hi,rfl⟩ him
         ·rw[h0] at h3;cases h3
       rcases h2 with⟨hm0,rfl⟩|rfl
       ·exact(hH.blk b k h1).mono hsame (fun b l hl=>hσσ b l hl (by rw[hm0];simp)) hnone (fun l hl=>hout b l hnb hl)
       ·exact(hH.blk b k0 h1).forget _ hsame (fun b l hl hp=>hσσ b l hl (by simpa using hp)) (fun l hl=>back_out b l hnb hl) hnone (fun l hl=>hout b l hnb hl)
     ·rcases back_some b l h1 with⟨i,hi,rfl,h3⟩|⟨hnb,h3⟩ <;> rcases back_some b' l' h2 with⟨j,hj,rfl,h4⟩|⟨hnb',h4⟩
      ·rw[hHr.inj i j l l' h3 h4 he']
      ·exfalso
       have:=(hH.own b' l' h4).2.2.2
       rcases(hHr.own i l h3).2.2.1 with h5|⟨l'',h5,h6⟩
       ·omega
       ·obtain⟨b2,hb2,h7⟩:=q1M h5
        obtain rfl:=hH.inj b2 b' l'' l' h7 h4 (h6.trans he')
        exact hnb' (List.mem_of_getElem? hb2)
      ·exfalso
       have:=(hH.own b l h3).2.2.2
       rcases(hHr.own j l' h4).2.2.1 with h5|⟨l'',h5,h6⟩
       ·omega
       ·obtain⟨b2,hb2,h7⟩:=q1M h5
        obtain rfl:=hH.inj b2 b l'' l h7 h3 (h6.trans he'.symm)
        exact hnb (List.mem_of_getElem? hb2)
      ·exact hH.inj b b' l l' h3 h4 he'
     ·rcases back_some b l hl with⟨i,hi,rfl,h3⟩|⟨hnb,h3⟩
      ·obtain⟨_,h4,h5,h6⟩:=hHr.own i l h3
       refine⟨?_,h4,?_,h6⟩
       ·by_cases hib:i<bs.length
        ·rw[q2x hib];have:=hlt _ (List.getElem_mem hib);omega
        ·rw[q3D (by omega)];omega
       ·rcases h5 with h5|⟨l'',h5,h7⟩
        ·exact .inl (Nat.le_trans hb h5)
        ·obtain⟨b2,hb2,h8⟩:=q1M h5
         rw[←h7]
         have:q1L bs s.nx i=b2:=by
          obtain⟨hi2,he2⟩:=List.getElem?_eq_some_iff.1 hb2
          rw[q2x hi2,he2]
         rw[this]
         exact(hH.own b2 l'' h8).2.2.1
      ·obtain⟨h4,h5,h6,h7⟩:=hH.own b l h3
       refine⟨by omega,fun hf=>?_,h6,Nat.lt_of_lt_of_le h7 hfr.size⟩
       rcases hF2 _ hf with h8|h8
       ·exact h5 h8
       ·omega
theorem j0W{f:FuncId}{ea:E}{H':List (Nat×Blk)}{r:V}{p:Lost}{nx':Nat}(hw:effK P env o=some (f,ea))(hev:evWr K s H (.calle f ea)=some (H',r,p,nx'))
  (hops:∀ x∈o.op.operands.toList,Held P K s env w F base σ a x) (hK:K.Sound P) (hH:HeapRel w F X base σ s.nx H) (hG:GlobRel w F K.glob) (hb:base≤w.heap.size) (hdom:∀ b blk,look H b=some blk→b<s.nx) {next:Act→World→Prop} {Q:Exit→Act→World→Prop}
  (hn:∀ v w' F' σ',Wrote w w' F F' X base σ σ' p nx' H'→RepV w' F' base σ' v r→next (a.put o.dst v) w'):o.wp P a w next Q:=by
 unfold effK at hw
 cases hop:o.op with
 |call c=>
  obtain⟨callee,args,argTypes⟩:=c
  simp only[hop] at hw
  cases callee with
  |value fv=>
   cases fv with
   |func g=>
    simp only at hw
    split at hw
    case isFalse=>cases hw
    rename_i hcl
    simp only[Bool.and_eq_true,bne_iff_ne,ne_eq] at hcl
    obtain⟨hcl,hnd⟩:=hcl
    simp only[Option.map_eq_some_iff] at hw
    obtain⟨es,hes,he⟩:=hw
    simp only[Prod.mk.injEq] at he
    obtain⟨rfl,rfl⟩:=he
    simp only[evWr] at hev
    cases hvs:ev K s (q3z es) with
    |none=>simp [hvs] at hev
    |some vv=>
     obtain⟨vs,rfl,hmo⟩:=q3p K s es vv hvs
     have hnd':(g==dynF)=false:=by simpa using hnd
     simp only[hvs,q1I,hnd',Bool.false_eq_true,if_false] at hev
     have hreps:=q3i (t:=fun i=>argTypes.getD i 0) (a:=a) (args:=args.toList) (fun x hx=>by
      intro t e r he hr
      exact hops x (by simp [hop,Op.operands,Call.operands];exact .inr (by simpa using hx)) t e r he hr) 0 hes hmo
     simp only[Array.toArray_toList] at hreps
     obtain⟨_,hc⟩:=q6F hK hH hG hb hdom hreps hev
     exact q20 (first:=#[]) (R:=fun v w'=>∃ F' σ',Wrote w w' F F' X base σ σ' p nx' H'∧RepV w' F' base σ' v r) hop rfl rfl hcl (by simp) (hc.mono fun e w' ⟨v,F',σ',he,h1,h2⟩=>⟨v,he,F',σ',h1,h2⟩) fun v w' ⟨F',σ',h1,h2⟩=>hn v w' F' σ' h1 h2
   |tmp t=>
    simp only[Option.map_eq_some_iff] at hw
    obtain⟨es,hes,he⟩:=hw
    simp only[Prod.mk.injEq] at he
    obtain⟨rfl,rfl⟩:=he
    simp only[evWr,ev] at hev
    cases hfv:ev K s (env.get t) with
    |none=>simp [hfv] at hev
    |some fv=>
     cases hvs:ev K s (q3z es) with
     |none=>simp [hfv,hvs] at hev
     |some vv=>
      obtain⟨vs,rfl,hmo⟩:=q3p K s es vv hvs
      simp only[hfv,hvs] at hev
      cases fv with
      |fn f caps=>
       simp only[q1I,beq_self_eq_true,if_true] at hev
       have hreps:=q3i (t:=fun i=>argTypes.getD i 0) (a:=a) (args:=args.toList) (fun x hx=>by
        intro t e r he hr
        exact hops x (by simp [hop,Op.operands,Call.operands];exact .inr (by simpa using hx)) t e r he hr) 0 hes hmo
       simp only[Array.toArray_toList] at hreps
       have hfun:=hops (.tmp t) (by simp [hop,Op.operands,Call.operands]) 0 _ _ rfl hfv
       generalize hfe:a.eval (.tmp t)=fval at hfun
       cases hfun with
       |fn _ cs _ g1 g2=>
        have hall:Reps w F base σ (args.map a.eval++cs) (vs++caps):=by
         refine⟨by have:=hreps.1;simp only[Array.size_append,List.length_append];omega,fun j v x hv hx=>?_⟩
         have hsz:(args.map a.eval).size=vs.length:=hreps.1
         rw[Array.getElem?_append] at hv
         rw[List.getElem?_append] at hx
         by_cases hj:j<vs.length
         ·rw[if_pos (by omega)] at hv
          rw[if_pos hj] at hx
          exact hreps.2 j v x hv hx
         ·rw[if_neg (by omega)] at hv
          rw[if_neg hj] at hx
          rw[hsz] at hv
          exact g2 _ v x hv hx
        obtain⟨hcl,hc⟩:=q6F hK hH hG hb hdom hall hev
        exact q20 (first:=#[]) (R:=fun v w'=>∃ F' σ',Wrote w w' F F' X base σ σ' p nx' H'∧RepV w' F' base σ' v r) hop rfl hfe hcl rfl (hc.mono fun e w' ⟨v,F',σ',he,h1,h2⟩=>⟨v,he,F',σ',h1,h2⟩) fun v w' ⟨F',σ',h1,h2⟩=>hn v w' F' σ' h1 h2
      |_=>simp [q1I] at hev
   |_=>simp at hw
  |_=>simp at hw
 |_=>simp [hop] at hw
end Go.Vm
end

section
namespace Go.Vm
open Go.RowKit
variable {K:Cx}{s:S}
abbrev q2t:=List (E×Bool)
def Won(K:Cx)(s:S)(ch:q2t):Prop:=∀ p∈ch,∃ c,ev K s p.1=some (.d c (.bool p.2))
def q9v(c:E)(b:Bool)(l:List (q2t×E)):List (q2t×E):=l.map fun(ch,e)=>((c,b) :: ch,e)
def subs:E→List (q2t×E)
 |.un o a=>([],.un o a) :: subs a
 |.bin o a b=>([],.bin o a b) :: (subs a++subs b)
 |.eqs n g ks a b=>([],.eqs n g ks a b) :: (subs a++subs b)
 |.and a b=>([],.and a b) :: (subs a++q9v a true (subs b))
 |.or a b=>([],.or a b) :: (subs a++q9v a false (subs b))
 |.cond c a b=>([],.cond c a b) :: (subs c++(q9v c true (subs a)++q9v c false (subs b)))
 |.fa off a=>([],.fa off a) :: subs a
 |.fld off n g a=>([],.fld off n g a) :: subs a
 |.ia k a i=>([],.ia k a i) :: (subs a++subs i)
 |.aa len k a i=>([],.aa len k a i) :: (subs a++subs i)
 |.ix a i=>([],.ix a i) :: (subs a++subs i)
 |.sh l a b=>([],.sh l a b) :: (subs a++subs b)
 |.ax len k g a i=>([],.ax len k g a i) :: (subs a++subs i)
 |.ld n g a=>([],.ld n g a) :: subs a
 |.ext i a=>([],.ext i a) :: subs a
 |.len g a=>([],.len g a) :: subs a
 |.cut g bl bh bm k a lo hi mx=>([],.cut g bl bh bm k a lo hi mx) :: (subs a++(subs lo++(subs hi++subs mx)))
 |.agg cs=>([],.agg cs) :: subs cs
 |.set off n e b=>([],.set off n e b) :: (subs e++subs b)
 |.mki t a=>([],.mki t a) :: subs a
 |.mkf f caps=>([],.mkf f caps) :: subs caps
 |.conv k a=>([],.conv k a) :: subs a
 |.lkp ok kk z m k=>([],.lkp ok kk z m k) :: (subs z++(subs m++subs k))
 |.mlen a=>([],.mlen a) :: subs a
 |.b2s a=>([],.b2s a) :: subs a
 |.s2r a=>([],.s2r a) :: subs a
 |.i2s a=>([],.i2s a) :: subs a
 |.call f args=>([],.call f args) :: subs args
 |.callv f args=>([],.callv f args) :: (subs f++subs args)
 |.cons a b=>([],.cons a b) :: (subs a++subs b)
 |e=>[([],e)]
def conds:E→List (q2t×E)
 |.un _ a=>conds a
 |.bin _ a b=>conds a++conds b
 |.eqs _ _ _ a b=>conds a++conds b
 |.and a b=>([],a) :: (conds a++q9v a true (conds b))
 |.or a b=>([],a) :: (conds a++q9v a false (conds b))
 |.cond c a b=>([],c) :: (conds c++(q9v c true (conds a)++q9v c false (conds b)))
 |.fa _ a=>conds a
 |.fld _ _ _ a=>conds a
 |.ia _ a i=>conds a++conds i
 |.aa _ _ a i=>conds a++conds i
 |.ix a i=>conds a++conds i
 |.sh _ a b=>conds a++conds b
 |.ax _ _ _ a i=>conds a++conds i
 |.ld _ _ a=>conds a
 |.ext _ a=>conds a
 |.len _ a=>conds a
 |.cut _ _ _ _ _ a lo hi mx=>conds a++(conds lo++(conds hi++conds mx))
 |.agg cs=>conds cs
 |.set _ _ e b=>conds e++conds b
 |.mki _ a=>conds a
 |.mkf _ caps=>conds caps
 |.conv _ a=>conds a
 |.lkp _ _ z m k=>conds z++(conds m++conds k)
 |.mlen a=>conds a
 |.b2s a=>conds a
 |.s2r a=>conds a
 |.i2s a=>conds a
 |.call _ args=>conds args
 |.callv f args=>conds f++conds args
 |.cons a b=>conds a++conds b
 |_=>[]
theorem q3j{c:E}{b:Bool}{l:List (q2t×E)}{ch:q2t}{e:E}(h:(ch,e)∈q9v c b l):∃ ch',ch=(c,b) :: ch'∧(ch',e)∈l:=by
 simp only[q9v,List.mem_map] at h
 obtain⟨⟨ch',e'⟩,h1,h2⟩:=h
 simp only[Prod.mk.injEq] at h2
 obtain⟨rfl,rfl⟩:=h2
 exact⟨ch',rfl,h1⟩
theorem Won.tail{p:E×Bool}{ch:q2t}(h:Won K s (p :: ch)):Won K s ch:=fun q hq=>h q (List.mem_cons_of_mem _ hq)
theorem Won.head{p:E×Bool}{ch:q2t}(h:Won K s (p :: ch)):∃ c,ev K s p.1=some (.d c (.bool p.2)):=h p (List.mem_cons_self ..)
theorem j1w{ok:Bool}{kk:Nat}{z m k:E}{r:V}(h:ev K s (.lkp ok kk z m k)=some r):(∃ v,ev K s z=some v)∧(∃ v,ev K s m=some v)∧(∃ v,ev K s k=some v):=by
 simp only[ev] at h
 split at h
 ·rename_i h1 h2 h3;exact⟨⟨_,h1⟩,⟨_,h2⟩,⟨_,h3⟩⟩
 ·cases h
theorem z8W{a b:E}{r:V}(h:ev K s (.and a b)=some r):∃ c x,ev K s a=some (.d c (.bool x))∧(x=true→∃ c' y,ev K s b=some (.d c' (.bool y))∧r=.bool y)∧(x=false→r=.bool false):=by
 simp only[ev] at h
 split at h
 ·rename_i c x c' y h1 h2
  obtain rfl:=Option.some.inj h
  exact⟨c,x,h1,fun hx=>⟨c',y,h2,by subst hx;rfl⟩,fun hx=>by subst hx;rfl⟩
 ·rename_i c h1 _
  obtain rfl:=Option.some.inj h
  exact⟨c,false,h1,(fun hx=>by cases hx),fun _=>rfl⟩
 ·cases h
theorem j25{a b:E}{r:V}(h:ev K s (.or a b)=some r):∃ c x,ev K s a=some (.d c (.bool x))∧(x=false→∃ c' y,ev K s b=some (.d c' (.bool y))∧r=.bool y)∧(x=true→r=.bool true):=by
 simp only[ev] at h
 split at h
 ·rename_i c x c' y h1 h2
  obtain rfl:=Option.some.inj h
  exact⟨c,x,h1,fun hx=>⟨c',y,h2,by subst hx;rfl⟩,fun hx=>by subst hx;rfl⟩
 ·rename_i c h1 _
  obtain rfl:=Option.some.inj h
  exact⟨c,true,h1,(fun hx=>by cases hx),fun _=>rfl⟩
 ·cases h
theorem z3r{c a b:E}{r:V}(h:ev K s (.cond c a b)=some r):∃ k x,ev K s c=some (.d k (.bool x))∧(x=true→ev K s a=some r)∧(x=false→ev K s b=some r):=by
 simp only[ev] at h
 split at h
 ·rename_i k x h1
  cases x
  ·exact⟨k,false,h1,(fun hx=>by cases hx),fun _=>by simpa using h⟩
  ·exact⟨k,true,h1,(fun _=>by simpa using h),fun hx=>by cases hx⟩
 ·cases h
theorem q2a{f:V→Option V}{a:E}{r:V}(h:(match ev K s a with|some v=>f v|none=>none)=some r):∃ v,ev K s a=some v:=by
 cases ha:ev K s a with
 |none=>simp [ha] at h
 |some v=>exact⟨v,rfl⟩
theorem q33{f:V→V→Option V}{a b:E}{r:V}(h:(match ev K s a,ev K s b with|some v,some u=>f v u|_,_=>none)=some r):(∃ v,ev K s a=some v)∧∃ v,ev K s b=some v:=by
 cases ha:ev K s a with
 |none=>simp [ha] at h
 |some v=>
  cases hb:ev K s b with
  |none=>simp [ha,hb] at h
  |some u=>exact⟨⟨v,rfl⟩,⟨u,rfl⟩⟩
theorem j1u{off n:Nat}{e b:E}{r:V}(h:ev K s (.set off n e b)=some r):(∃ v,ev K s e=some v)∧∃ v,ev K s b=some v:=q33 h
theorem j1y{cs:E}{r:V}(h:ev K s (.agg cs)=some r):∃ v,ev K s cs=some v:=by
 simp only[ev] at h
 split at h
 ·rename_i h1;exact⟨_,h1⟩
 ·cases h
theorem j1v{f:FuncId}{cs:E}{r:V}(h:ev K s (.mkf f cs)=some r):∃ v,ev K s cs=some v:=by
 simp only[ev] at h
 split at h
 ·rename_i h1;exact⟨_,h1⟩
 ·cases h
theorem z8U{f:FuncId}{cs:E}{r:V}(h:ev K s (.call f cs)=some r):∃ v,ev K s cs=some v:=by
 simp only[ev] at h
 split at h
 ·rename_i h1;exact⟨_,h1⟩
 ·cases h
theorem z4s{f cs:E}{r:V}(h:ev K s (.callv f cs)=some r):(∃ v,ev K s f=some v)∧∃ v,ev K s cs=some v:=by
 simp only[ev] at h
 split at h
 ·rename_i h1 h2;exact⟨⟨_,h1⟩,⟨_,h2⟩⟩
 ·cases h
theorem z8T{a b:E}{r:V}(h:ev K s (.cons a b)=some r):(∃ v,ev K s a=some v)∧∃ v,ev K s b=some v:=by
 simp only[ev] at h
 split at h
 ·rename_i h1 h2;exact⟨⟨_,h1⟩,⟨_,h2⟩⟩
 ·cases h
theorem j1x{g bl bh bm:Bool}{k:Nat}{a lo hi mx:E}{r:V}(h:ev K s (.cut g bl bh bm k a lo hi mx)=some r):(∃ v,ev K s a=some v)∧(∃ v,ev K s lo=some v)∧(∃ v,ev K s hi=some v)∧∃ v,ev K s mx=some v:=by
 simp only[ev] at h
 split at h
 ·rename_i h1 h2 h3 h4;exact⟨⟨_,h1⟩,⟨_,h2⟩,⟨_,h3⟩,⟨_,h4⟩⟩
 ·cases h
theorem z2W:∀(root:E)(r:V),ev K s root=some r→∀ ch e,(ch,e)∈subs root→Won K s ch→∃ v,ev K s e=some v:=by
 have leaf:∀(root:E) (r:V),subs root=[([],root)]→ev K s root=some r→∀ ch e,(ch,e)∈subs root→Won K s ch→∃ v,ev K s e=some v:=by
  intro root r hs h ch e he _
  rw[hs] at he
  simp only[List.mem_singleton,Prod.mk.injEq] at he
  obtain⟨_,rfl⟩:=he
  exact⟨r,h⟩
 intro root
 induction root with
 |un o a iha=>
  intro r h ch e he hw
  obtain⟨v,hv⟩:=q2a h
  simp only[subs,List.mem_cons,Prod.mk.injEq] at he
  rcases he with⟨_,rfl⟩|he
  ·exact⟨r,h⟩
  ·exact iha v hv ch e he hw
 |bin o a b iha ihb=>
  intro r h ch e he hw
  obtain⟨⟨v,hv⟩,⟨u,hu⟩⟩:=q33 h
  simp only[subs,List.mem_cons,Prod.mk.injEq,List.mem_append] at he
  rcases he with⟨_,rfl⟩|he|he
  ·exact⟨r,h⟩
  ·exact iha v hv ch e he hw
  ·exact ihb u hu ch e he hw
 |eqs n g ks a b iha ihb=>
  intro r h ch e he hw
  obtain⟨⟨v,hv⟩,⟨u,hu⟩⟩:=q33 h
  simp only[subs,List.mem_cons,Prod.mk.injEq,List.mem_append] at he
  rcases he with⟨_,rfl⟩|he|he
  ·exact⟨r,h⟩
  ·exact iha v hv ch e he hw
  ·exact ihb u hu ch e he hw
 |and a b iha ihb=>
  intro r h ch e he hw
  obtain⟨c,x,hx,h1,h2⟩:=z8W h
  simp only[subs,List.mem_cons,Prod.mk.injEq,List.mem_append] at he
  rcases he with⟨_,rfl⟩|he|he
  ·exact⟨r,h⟩
  ·exact iha _ hx ch e he hw
  ·obtain⟨ch',rfl,hm⟩:=q3j he
   obtain⟨c',hc'⟩:=hw.head
   rw[hx] at hc'
   simp only[Option.some.injEq,V.d.injEq,D.bool.injEq] at hc'
   obtain⟨c2,y,hy,_⟩:=h1 hc'.2
   exact ihb _ hy ch' e hm hw.tail
 |or a b iha ihb=>
  intro r h ch e he hw
  obtain⟨c,x,hx,h1,h2⟩:=j25 h
  simp only[subs,List.mem_cons,Prod.mk.injEq,List.mem_append] at he
  rcases he with⟨_,rfl⟩|he|he
  ·exact⟨r,h⟩
  ·exact iha _ hx ch e he hw
  ·obtain⟨ch',rfl,hm⟩:=q3j he
   obtain⟨c',hc'⟩:=hw.head
   rw[hx] at hc'
   simp only[Option.some.injEq,V.d.injEq,D.bool.injEq] at hc'
   obtain⟨c2,y,hy,_⟩:=h1 hc'.2
   exact ihb _ hy ch' e hm hw.tail
 |cond c a b ihc iha ihb=>
  intro r h ch e he hw
  obtain⟨k,x,hx,h1,h2⟩:=z3r h
  simp only[subs,List.mem_cons,Prod.mk.injEq,List.mem_append] at he
  rcases he with⟨_,rfl⟩|he|he|he
  ·exact⟨r,h⟩
  ·exact ihc _ hx ch e he hw
  ·obtain⟨ch',rfl,hm⟩:=q3j he
   obtain⟨c',hc'⟩:=hw.head
   rw[hx] at hc'
   simp only[Option.some.injEq,V.d.injEq,D.bool.injEq] at hc'
   exact iha _ (h1 hc'.2) ch' e hm hw.tail
  ·obtain⟨ch',rfl,hm⟩:=q3j he
   obtain⟨c',hc'⟩:=hw.head
   rw[hx] at hc'
   simp only[Option.some.injEq,V.d.injEq,D.bool.injEq] at hc'
   exact ihb _ (h2 hc'.2) ch' e hm hw.tail
 |fa off a iha=>
  intro r h ch e he hw
  obtain⟨v,hv⟩:=q2a h
  simp only[subs,List.mem_cons,Prod.mk.injEq] at he
  rcases he with⟨_,rfl⟩|he
  ·exact⟨r,h⟩
  ·exact iha v hv ch e he hw
 |fld off n g a iha=>
  intro r h ch e he hw
  obtain⟨v,hv⟩:=q2a h
  simp only[subs,List.mem_cons,Prod.mk.injEq] at he
  rcases he with⟨_,rfl⟩|he
  ·exact⟨r,h⟩
  ·exact iha v hv ch e he hw
 |ia k a b iha ihb=>
  intro r h ch e he hw
  obtain⟨⟨v,hv⟩,⟨u,hu⟩⟩:=q33 h
  simp only[subs,List.mem_cons,Prod.mk.injEq,List.mem_append] at he
  rcases he with⟨_,rfl⟩|he|he
  ·exact⟨r,h⟩
  ·exact iha v hv ch e he hw
  ·exact ihb u hu ch e he hw
 |aa len k a b iha ihb=>
  intro r h ch e he hw
  obtain⟨⟨v,hv⟩,⟨u,hu⟩⟩:=q33 h
  simp only[subs,List.mem_cons,Prod.mk.injEq,List.mem_append] at he
  rcases he with⟨_,rfl⟩|he|he
  ·exact⟨r,h⟩
  ·exact iha v hv ch e he hw
  ·exact ihb u hu ch e he hw
 |ix a b iha ihb=>
  intro r h ch e he hw
  obtain⟨⟨v,hv⟩,⟨u,hu⟩⟩:=q33 h
  simp only[subs,List.mem_cons,Prod.mk.injEq,List.mem_append] at he
  rcases he with⟨_,rfl⟩|he|he
  ·exact⟨r,h⟩
  ·exact iha v hv ch e he hw
  ·exact ihb u hu ch e he hw
 |sh l a b iha ihb=>
  intro r h ch e he hw
  obtain⟨⟨v,hv⟩,⟨u,hu⟩⟩:=q33 h
  simp only[subs,List.mem_cons,Prod.mk.injEq,List.mem_append] at he
  rcases he with⟨_,rfl⟩|he|he
  ·exact⟨r,h⟩
  ·exact iha v hv ch e he hw
  ·exact ihb u hu ch e he hw
 |ax len k g a b iha ihb=>
  intro r h ch e he hw
  obtain⟨⟨v,hv⟩,⟨u,hu⟩⟩:=q33 h
  simp only[subs,List.mem_cons,Prod.mk.injEq,List.mem_append] at he
  rcases he with⟨_,rfl⟩|he|he
  ·exact⟨r,h⟩
  ·exact iha v hv ch e he hw
  ·exact ihb u hu ch e he hw
 |ld n g a iha=>
  intro r h ch e he hw
  obtain⟨v,hv⟩:=q2a h
  simp only[subs,List.mem_cons,Prod.mk.injEq] at he
  rcases he with⟨_,rfl⟩|he
  ·exact⟨r,h⟩
  ·exact iha v hv ch e he hw
 |ext i a iha=>
  intro r h ch e he hw
  obtain⟨v,hv⟩:=q2a h
  simp only[subs,List.mem_cons,Prod.mk.injEq] at he
  rcases he with⟨_,rfl⟩|he
  ·exact⟨r,h⟩
  ·exact iha v hv ch e he hw
 |len g a iha=>
  intro r h ch e he hw
  obtain⟨v,hv⟩:=q2a h
  simp only[subs,List.mem_cons,Prod.mk.injEq] at he
  rcases he with⟨_,rfl⟩|he
  ·exact⟨r,h⟩
  ·exact iha v hv ch e he hw
 |cut g bl bh bm k a lo hi mx iha ihl ihh ihm=>
  intro r h ch e he hw
  obtain⟨⟨v,hv⟩,⟨vl,hl⟩,⟨vh,hh⟩,⟨vm,hm⟩⟩:=j1x h
  simp only[subs,List.mem_cons,Prod.mk.injEq,List.mem_append] at he
  rcases he with⟨_,rfl⟩|he|he|he|he
  ·exact⟨r,h⟩
  ·exact iha v hv ch e he hw
  ·exact ihl vl hl ch e he hw
  ·exact ihh vh hh ch e he hw
  ·exact ihm vm hm ch e he hw
 |agg cs ih=>
  intro r h ch e he hw
  obtain⟨v,hv⟩:=j1y h
  simp only[subs,List.mem_cons,Prod.mk.injEq] at he
  rcases he with⟨_,rfl⟩|he
  ·exact⟨r,h⟩
  ·exact ih v hv ch e he hw
 |set off n a b iha ihb=>
  intro r h ch e he hw
  obtain⟨⟨v,hv⟩,⟨u,hu⟩⟩:=j1u h
  simp only[subs,List.mem_cons,Prod.mk.injEq,List.mem_append] at he
  rcases he with⟨_,rfl⟩|he|he
  ·exact⟨r,h⟩
  ·exact iha v hv ch e he hw
  ·exact ihb u hu ch e he hw
 |mki t a iha=>
  intro r h ch e he hw
  obtain⟨v,hv⟩:=q2a h
  simp only[subs,List.mem_cons,Prod.mk.injEq] at he
  rcases he with⟨_,rfl⟩|he
  ·exact⟨r,h⟩
  ·exact iha v hv ch e he hw
 |mkf f caps ih=>
  intro r h ch e he hw
  obtain⟨v,hv⟩:=j1v h
  simp only[subs,List.mem_cons,Prod.mk.injEq] at he
  rcases he with⟨_,rfl⟩|he
  ·exact⟨r,h⟩
  ·exact ih v hv ch e he hw
 |conv k a iha=>
  intro r h ch e he hw
  obtain⟨v,hv⟩:=q2a h
  simp only[subs,List.mem_cons,Prod.mk.injEq] at he
  rcases he with⟨_,rfl⟩|he
  ·exact⟨r,h⟩
  ·exact iha v hv ch e he hw
 |lkp ok kk z m k ihz ihm ihk=>
  intro r h ch e he hw
  obtain⟨⟨v1,h1⟩,⟨v2,h2⟩,⟨v3,h3⟩⟩:=j1w h
  simp only[subs,List.mem_cons,Prod.mk.injEq,List.mem_append] at he
  rcases he with⟨_,rfl⟩|he|he|he
  ·exact⟨r,h⟩
  ·exact ihz v1 h1 ch e he hw
  ·exact ihm v2 h2 ch e he hw
  ·exact ihk v3 h3 ch e he hw
 |mlen a iha=>
  intro r h ch e he hw
  obtain⟨v,hv⟩:=q2a h
  simp only[subs,List.mem_cons,Prod.mk.injEq] at he
  rcases he with⟨_,rfl⟩|he
  ·exact⟨r,h⟩
  ·exact iha v hv ch e he hw
 |b2s a iha=>
  intro r h ch e he hw
  obtain⟨v,hv⟩:=q2a h
  simp only[subs,List.mem_cons,Prod.mk.injEq] at he
  rcases he with⟨_,rfl⟩|he
  ·exact⟨r,h⟩
  ·exact iha v hv ch e he hw
 |s2r a iha=>
  intro r h ch e he hw
  obtain⟨v,hv⟩:=q2a h
  simp only[subs,List.mem_cons,Prod.mk.injEq] at he
  rcases he with⟨_,rfl⟩|he
  ·exact⟨r,h⟩
  ·exact iha v hv ch e he hw
 |i2s a iha=>
  intro r h ch e he hw
  obtain⟨v,hv⟩:=q2a h
  simp only[subs,List.mem_cons,Prod.mk.injEq] at he
  rcases he with⟨_,rfl⟩|he
  ·exact⟨r,h⟩
  ·exact iha v hv ch e he hw
 |call f args ih=>
  intro r h ch e he hw
  obtain⟨v,hv⟩:=z8U h
  simp only[subs,List.mem_cons,Prod.mk.injEq] at he
  rcases he with⟨_,rfl⟩|he
  ·exact⟨r,h⟩
  ·exact ih v hv ch e he hw
 |callv f args ihf iha=>
  intro r h ch e he hw
  obtain⟨⟨v,hv⟩,⟨u,hu⟩⟩:=z4s h
  simp only[subs,List.mem_cons,Prod.mk.injEq,List.mem_append] at he
  rcases he with⟨_,rfl⟩|he|he
  ·exact⟨r,h⟩
  ·exact ihf v hv ch e he hw
  ·exact iha u hu ch e he hw
 |cons a b iha ihb=>
  intro r h ch e he hw
  obtain⟨⟨v,hv⟩,⟨u,hu⟩⟩:=z8T h
  simp only[subs,List.mem_cons,Prod.mk.injEq,List.mem_append] at he
  rcases he with⟨_,rfl⟩|he|he
  ·exact⟨r,h⟩
  ·exact iha v hv ch e he hw
  ·exact ihb u hu ch e he hw
 |_=>intro r h;exact leaf _ r rfl h
theorem z0R:∀(root:E)(r:V),ev K s root=some r→∀ ch e,(ch,e)∈conds root→Won K s ch→∃ c b,ev K s e=some (.d c (.bool b)):=by
 intro root
 induction root with
 |un o a iha=>
  intro r h ch e he hw
  obtain⟨v,hv⟩:=q2a h
  exact iha v hv ch e he hw
 |bin o a b iha ihb=>
  intro r h ch e he hw
  obtain⟨⟨v,hv⟩,⟨u,hu⟩⟩:=q33 h
  rcases List.mem_append.1 he with he|he
  ·exact iha v hv ch e he hw
  ·exact ihb u hu ch e he hw
 |eqs n g ks a b iha ihb=>
  intro r h ch e he hw
  obtain⟨⟨v,hv⟩,⟨u,hu⟩⟩:=q33 h
  rcases List.mem_append.1 he with he|he
  ·exact iha v hv ch e he hw
  ·exact ihb u hu ch e he hw
 |and a b iha ihb=>
  intro r h ch e he hw
  obtain⟨c,x,hx,h1,h2⟩:=z8W h
  simp only[conds,List.mem_cons,Prod.mk.injEq,List.mem_append] at he
  rcases he with⟨_,rfl⟩|he|he
  ·exact⟨c,x,hx⟩
  ·exact iha _ hx ch e he hw
  ·obtain⟨ch',rfl,hm⟩:=q3j he
   obtain⟨c',hc'⟩:=hw.head
   rw[hx] at hc'
   simp only[Option.some.injEq,V.d.injEq,D.bool.injEq] at hc'
   obtain⟨c2,y,hy,_⟩:=h1 hc'.2
   exact ihb _ hy ch' e hm hw.tail
 |or a b iha ihb=>
  intro r h ch e he hw
  obtain⟨c,x,hx,h1,h2⟩:=j25 h
  simp only[conds,List.mem_cons,Prod.mk.injEq,List.mem_append] at he
  rcases he with⟨_,rfl⟩|he|he
  ·exact⟨c,x,hx⟩
  ·exact iha _ hx ch e he hw
  ·obtain⟨ch',rfl,hm⟩:=q3j he
   obtain⟨c',hc'⟩:=hw.head
   rw[hx] at hc'
   simp only[Option.some.injEq,V.d.injEq,D.bool.injEq] at hc'
   obtain⟨c2,y,hy,_⟩:=h1 hc'.2
   exact ihb _ hy ch' e hm hw.tail
 |cond c a b ihc iha ihb=>
  intro r h ch e he hw
  obtain⟨k,x,hx,h1,h2⟩:=z3r h
  simp only[conds,List.mem_cons,Prod.mk.injEq,List.mem_append] at he
  rcases he with⟨_,rfl⟩|he|he|he
  ·exact⟨k,x,hx⟩
  ·exact ihc _ hx ch e he hw
  ·obtain⟨ch',rfl,hm⟩:=q3j he
   obtain⟨c',hc'⟩:=hw.head
   rw[hx] at hc'
   simp only[Option.some.injEq,V.d.injEq,D.bool.injEq] at hc'
   exact iha _ (h1 hc'.2) ch' e hm hw.tail
  ·obtain⟨ch',rfl,hm⟩:=q3j he
   obtain⟨c',hc'⟩:=hw.head
   rw[hx] at hc'
   simp only[Option.some.injEq,V.d.injEq,D.bool.injEq] at hc'
   exact ihb _ (h2 hc'.2) ch' e hm hw.tail
 |fa off a iha=>intro r h ch e he hw;obtain⟨v,hv⟩:=q2a h;exact iha v hv ch e he hw
 |fld off n g a iha=>intro r h ch e he hw;obtain⟨v,hv⟩:=q2a h;exact iha v hv ch e he hw
 |ia k a b iha ihb=>
  intro r h ch e he hw
  obtain⟨⟨v,hv⟩,⟨u,hu⟩⟩:=q33 h
  rcases List.mem_append.1 he with he|he
  ·exact iha v hv ch e he hw
  ·exact ihb u hu ch e he hw
 |aa len k a b iha ihb=>
  intro r h ch e he hw
  obtain⟨⟨v,hv⟩,⟨u,hu⟩⟩:=q33 h
  rcases List.mem_append.1 he with he|he
  ·exact iha v hv ch e he hw
  ·exact ihb u hu ch e he hw
 |ix a b iha ihb=>
  intro r h ch e he hw
  obtain⟨⟨v,hv⟩,⟨u,hu⟩⟩:=q33 h
  rcases List.mem_append.1 he with he|he
  ·exact iha v hv ch e he hw
  ·exact ihb u hu ch e he hw
 |sh l a b iha ihb=>
  intro r h ch e he hw
  obtain⟨⟨v,hv⟩,⟨u,hu⟩⟩:=q33 h
  rcases List.mem_append.1 he with he|he
  ·exact iha v hv ch e he hw
  ·exact ihb u hu ch e he hw
 |ax len k g a b iha ihb=>
  intro r h ch e he hw
  obtain⟨⟨v,hv⟩,⟨u,hu⟩⟩:=q33 h
  rcases List.mem_append.1 he with he|he
  ·exact iha v hv ch e he hw
  ·exact ihb u hu ch e he hw
 |ld n g a iha=>intro r h ch e he hw;obtain⟨v,hv⟩:=q2a h;exact iha v hv ch e he hw
 |ext i a iha=>intro r h ch e he hw;obtain⟨v,hv⟩:=q2a h;exact iha v hv ch e he hw
 |len g a iha=>intro r h ch e he hw;obtain⟨v,hv⟩:=q2a h;exact iha v hv ch e he hw
 |cut g bl bh bm k a lo hi mx iha ihl ihh ihm=>
  intro r h ch e he hw
  obtain⟨⟨v,hv⟩,⟨vl,hl⟩,⟨vh,hh⟩,⟨vm,hm⟩⟩:=j1x h
  simp only[conds,List.mem_append] at he
  rcases he with he|he|he|he
  ·exact iha v hv ch e he hw
  ·exact ihl vl hl ch e he hw
  ·exact ihh vh hh ch e he hw
  ·exact ihm vm hm ch e he hw
 |agg cs ih=>intro r h ch e he hw;obtain⟨v,hv⟩:=j1y h;exact ih v hv ch e he hw
 |set off n a b iha ihb=>
  intro r h ch e he hw
  obtain⟨⟨v,hv⟩,⟨u,hu⟩⟩:=j1u h
  rcases List.mem_append.1 he with he|he
  ·exact iha v hv ch e he hw
  ·exact ihb u hu ch e he hw
 |mki t a iha=>intro r h ch e he hw;obtain⟨v,hv⟩:=q2a h;exact iha v hv ch e he hw
 |mkf f caps ih=>intro r h ch e he hw;obtain⟨v,hv⟩:=j1v h;exact ih v hv ch e he hw
 |conv k a iha=>intro r h ch e he hw;obtain⟨v,hv⟩:=q2a h;exact iha v hv ch e he hw
 |lkp ok kk z m k ihz ihm ihk=>
  intro r h ch e he hw
  obtain⟨⟨v1,h1⟩,⟨v2,h2⟩,⟨v3,h3⟩⟩:=j1w h
  simp only[conds,List.mem_append] at he
  rcases he with he|he|he
  ·exact ihz v1 h1 ch e he hw
  ·exact ihm v2 h2 ch e he hw
  ·exact ihk v3 h3 ch e he hw
 |mlen a iha=>intro r h ch e he hw;obtain⟨v,hv⟩:=q2a h;exact iha v hv ch e he hw
 |b2s a iha=>intro r h ch e he hw;obtain⟨v,hv⟩:=q2a h;exact iha v hv ch e he hw
 |s2r a iha=>intro r h ch e he hw;obtain⟨v,hv⟩:=q2a h;exact iha v hv ch e he hw
 |i2s a iha=>intro r h ch e he hw;obtain⟨v,hv⟩:=q2a h;exact iha v hv ch e he hw
 |call f args ih=>intro r h ch e he hw;obtain⟨v,hv⟩:=z8U h;exact ih v hv ch e he hw
 |callv f args ihf iha=>
  intro r h ch e he hw
  obtain⟨⟨v,hv⟩,⟨u,hu⟩⟩:=z4s h
  rcases List.mem_append.1 he with he|he
  ·exact ihf v hv ch e he hw
  ·exact iha u hu ch e he hw
 |cons a b iha ihb=>
  intro r h ch e he hw
  obtain⟨⟨v,hv⟩,⟨u,hu⟩⟩:=z8T h
  rcases List.mem_append.1 he with he|he
  ·exact iha v hv ch e he hw
  ·exact ihb u hu ch e he hw
 |_=>intro r h ch e he hw;simp [conds] at he
end Go.Vm
end

section
namespace Go.Vm
open Go.RowKit
structure Rec where
 i:Nat
 o:Oper
 kd:Kd
 ch:q2t
 deriving Inhabited
def Rec.x(r:Rec):E:=match r.kd with
 |.pure e=>e
 |_=>.sl (r.o.dst.getD 0)
def Rec.isMk(r:Rec):Bool:=match r.kd with
 |.mk _=>true
 |_=>false
def Rec.isWr(r:Rec):Bool:=match r.kd with
 |.wr _=>true
 |_=>false
def q0Z:List Rec→Env
 |[]=>[]
 |q :: done=>match q.o.dst with
  |some d=>(d,q.x) :: q0Z done
  |none=>q0Z done
def tmpOf:Operand→Option Nat
 |.tmp t=>some t
 |_=>none
def reads(o:Oper):List Nat:=o.op.operands.toList.filterMap tmpOf
def isIn(mds:List Nat):Option Nat→Bool
 |some d=>mds.contains d
 |none=>false
def j05(ef:Option FuncId)(o:Oper):Bool:=match ef,o.op with
 |some f,.call { callee:=.value (.func g),.. }=>f==g
 |some f,.call { callee:=.value (.tmp _),.. }=>f==dynF
 |_,_=>false
def kdOf(P:Program)(mds:List Nat)(ef:Option FuncId)(env:Env)(o:Oper):Option Kd:=
 if isIn mds o.dst then(mkK P env o).map .mk
 else if j05 ef o then(effK P env o).map fun(f,e)=>.wr (.calle f e)
 else match z27 P env o with
  |some e=>some (.pure e)
  |none=>(wrK P env o).map .wr
def q53(ops:Array Oper)(done:List Rec):Option (Nat×Bool)→Option q2t
 |none=>some []
 |some (j,b)=>match done.find? (·.i==j) with
  |some q=>match q.kd,q.o.dst with
   |.pure e,some _=>some ((e,b) :: q.ch)
   |_,_=>none
  |none=>match ops[j]? with
   |some o=>match o.dst with
    |some d=>some [(.sl d,b)]
    |none=>none
   |none=>none
def q79(c1 c2:q2t):Bool:=c1.all fun p=>decide (p∈c2)
def q7Q(P:Program)(env:Env)(o:Oper)(ch:q2t):List (Operand×q2t):=
 match o.op with
 |.pick c a b=>match q0j P env 0 c with
  |some ec=>[(c,ch),(a,(ec,true) :: ch),(b,(ec,false) :: ch)]
  |none=>[(c,ch),(a,ch),(b,ch)]
 |op=>op.operands.toList.map fun x=>(x,ch)
def z0r(B:Nat→Nat→Bool)(done:List Rec)(i:Nat)(l:List (Operand×q2t)):Bool:=
 l.all fun p=>match p.1 with
  |.tmp t=>match done.find? (fun q=>q.o.dst==some t) with
   |some q=>B q.i i&&q79 q.ch p.2
   |none=>true
  |_=>true
def z3c(B:Nat→Nat→Bool)(n:Nat)(done:List Rec)(r:Rec):Bool:=
 match r.o.dst with
 |some d=>decide (d<n)&&done.all (fun q=>q.o.dst != some d&&(!(reads q.o).contains d||(B q.i r.i&&!r.isMk)))&&(!r.isMk||!(reads r.o).contains d)
 |none=>true
def q8H(B:Nat→Nat→Bool)(r:Rec):Bool:=
 match r.o.guard with
 |some (j,_)=>B j r.i&&!r.isMk
 |none=>true
def z3Z(B:Nat→Nat→Bool)(P:Program)(n:Nat)(done:List Rec)(r:Rec):Bool:=
 z0r B done r.i (q7Q P (q0Z done) r.o r.ch)&&z3c B n done r&&q8H B r&&done.all fun q=>decide (q.i<r.i)&&(!q.isWr||(!r.isWr&&!r.isMk))
def recs(B:Nat→Nat→Bool)(P:Program)(ops:Array Oper)(mds:List Nat)(ef:Option FuncId)(n:Nat):List Nat→List Rec→Option (List Rec)
 |[],done=>some done
 |i :: is,done=>match ops[i]? with
  |some o=>match kdOf P mds ef (q0Z done) o,q53 ops done o.guard with
   |some kd,some ch=>if z3Z B P n done ⟨i,o,kd,ch⟩ then recs B P ops mds ef n is (⟨i,o,kd,ch⟩ :: done) else none
   |_,_=>none
  |none=>none
inductive Good(B:Nat→Nat→Bool)(P:Program)(ops:Array Oper)(mds:List Nat)(ef:Option FuncId)(n:Nat):List Rec→Prop
 |nil:Good B P ops mds ef n []
 |cons (r:Rec) (done:List Rec):Good B P ops mds ef n done→ops[r.i]? = some r.o→kdOf P mds ef (q0Z done) r.o=some r.kd→q53 ops done r.o.guard=some r.ch→z3Z B P n done r=true→Good B P ops mds ef n (r :: done)
variable {B:Nat→Nat→Bool}{P:Program}{ops:Array Oper}{mds:List Nat}{ef:Option FuncId}{n:Nat}
theorem q40:∀(is:List Nat)(done R:List Rec),Good B P ops mds ef n done→recs B P ops mds ef n is done=some R→Good B P ops mds ef n R∧R.map (·.i)=is.reverse++done.map (·.i)
 |[],done,R,hg,h=>by
  obtain rfl:=Option.some.inj h
  exact⟨hg,by simp⟩
 |i :: is,done,R,hg,h=>by
  simp only[recs] at h
  cases ho:ops[i]? with
  |none=>simp [ho] at h
  |some o=>
   cases hk:kdOf P mds ef (q0Z done) o with
   |none=>simp [ho,hk] at h
   |some kd=>
    cases hc:q53 ops done o.guard with
    |none=>simp [ho,hk,hc] at h
    |some ch=>
     simp only[ho,hk,hc] at h
     split at h
     ·rename_i hn
      obtain⟨h1,h2⟩:=q40 is (⟨i,o,kd,ch⟩ :: done) R (.cons _ _ hg ho hk hc hn) h
      exact⟨h1,by rw[h2];simp⟩
     ·cases h
theorem Good.suffix{l:List Rec}{R:List Rec}(h:Good B P ops mds ef n (l++R)):Good B P ops mds ef n R:=by
 induction l with
 |nil=>exact h
 |cons q l ih=>cases h with|cons _ _ h=>exact ih h
theorem Good.split{R:List Rec}(h:Good B P ops mds ef n R){r:Rec}(hr:r∈R):∃ later done,R=later++r :: done∧Good B P ops mds ef n (r :: done):=by
 obtain⟨later,done,rfl⟩:=List.append_of_mem hr
 exact⟨later,done,rfl,h.suffix⟩
theorem q0P{done:List Rec}{r:Rec}(h:z3Z B P n done r=true):z0r B done r.i (q7Q P (q0Z done) r.o r.ch)=true∧z3c B n done r=true∧q8H B r=true∧True∧∀ q∈done,q.i<r.i∧(q.isWr=true→r.isWr=false∧r.isMk=false):=by
 simp only[z3Z,Bool.and_eq_true,List.all_eq_true,Bool.not_eq_true',decide_eq_true_eq,Bool.or_eq_true] at h
 obtain⟨⟨⟨h1,h2⟩,h3⟩,h5⟩:=h
 exact⟨h1,h2,h3,trivial,fun q hq=>⟨(h5 q hq).1,fun hw=>(h5 q hq).2.resolve_left (by rw[hw];simp)⟩⟩
theorem Good.inj{R:List Rec}(h:Good B P ops mds ef n R):∀ r∈R,∀ q∈R,r.i=q.i→r=q:=by
 induction h with
 |nil=>intro r hr;simp at hr
 |cons r done _ _ _ _ hn ih=>
  have h5:=(q0P hn).2.2.2.2
  intro p hp q hq he
  rcases List.mem_cons.1 hp with hp|hp
  ·rcases List.mem_cons.1 hq with hq|hq
   ·rw[hp,hq]
   ·have:=(h5 q hq).1;rw[hp] at he;omega
  ·rcases List.mem_cons.1 hq with hq|hq
   ·have:=(h5 p hp).1;rw[hq] at he;omega
   ·exact ih p hp q hq he
theorem z4c{done:List Rec}{t:Nat}:(∃ q∈done,q.o.dst=some t∧done.find? (fun q=>q.o.dst==some t)=some q∧look (q0Z done) t=some q.x)∨((∀ q∈done,q.o.dst≠some t)∧done.find? (fun q=>q.o.dst==some t)=none∧look (q0Z done) t=none):=by
 induction done with
 |nil=>exact .inr ⟨fun q h=>by simp at h,rfl,rfl⟩
 |cons q done ih=>
  by_cases hq:q.o.dst=some t
  ·refine .inl ⟨q,List.mem_cons_self ..,hq,by simp [hq],?_⟩
   simp [q0Z,hq,look]
  ·have hb:(q.o.dst==some t)=false:=by simpa using hq
   have hl:look (q0Z (q :: done)) t=look (q0Z done) t:=by
    cases hd:q.o.dst with
    |none=>simp only[q0Z,hd]
    |some d=>
     have:d≠t:=fun h=>hq (by rw[hd,h])
     simp only[q0Z,hd,look,this,if_false]
   rw[hl]
   simp only[List.find?_cons,hb]
   rcases ih with⟨p,h1,h2,h3,h4⟩|⟨h1,h2,h3⟩
   ·exact .inl ⟨p,List.mem_cons_of_mem _ h1,h2,h3,h4⟩
   ·refine .inr ⟨fun p hp=>?_,h2,h3⟩
    rcases List.mem_cons.1 hp with rfl|hp
    ·exact hq
    ·exact h1 p hp
end Go.Vm
end

section
namespace Go.Vm
open Go.RowKit
theorem j4R(K:Cx)(ρ:List (Nat×V))(H:List (Nat×Blk))(m n:Nat)(v u:List Nat):∀ e,ev K ⟨ρ,H,m,v⟩ e=ev K ⟨ρ,H,n,u⟩ e:=by
 intro e
 induction e <;> simp only[ev, *]
theorem q4K{a:Act}{d:Nat}(hd:d<a.tmps.size)(v:Value)(t:Nat):(a.put (some d) v).tmps.getD t undef=if t=d then v else a.tmps.getD t undef:=by
 simp only[Act.put,Array.getD_eq_getD_getElem?]
 by_cases h:t=d
 ·subst h
  simp [hd]
 ·rw[if_neg h,Array.getElem?_setIfInBounds_ne (fun e=>h e.symm)]
theorem q6b(a:Act)(d:Option Nat)(v:Value):(a.put d v).tmps.size=a.tmps.size:=by
 cases d <;> simp [Act.put]
theorem q4x(a:Act)(d:Option Nat)(v:Value):(a.put d v).defers=a.defers:=by
 cases d <;> simp [Act.put]
abbrev Tr:=List (Nat×Mk×V×Nat×List Blk)
structure Piece where
 P:Program
 K:Cx
 ops:Array Oper
 B:Nat→Nat→Bool
 mds:List Nat
 ef:Option FuncId
 n:Nat
 R:List Rec
 s:S
 s1:S
 T:Tr
 X:Nat→Nat→Prop
 base:Nat
 w0:World
 F0:Nat→Prop
 m:Nat
 σ0:Nat→Option Loc
structure Piece.Ok(c:Piece):Prop where
 good:Good c.B c.P c.ops c.mds c.ef c.n c.R
 sound:c.K.Sound c.P
 s1:c.s1.heap=c.s.heap
 mds:∀ d,d∈c.mds↔∃ m v n0 news,(d,m,v,n0,news)∈c.T
 put:∀ d m v n0 news,(d,m,v,n0,news)∈c.T→look c.s1.rho d=some v
 evm:∀ d m v n0 news,(d,m,v,n0,news)∈c.T→evMk c.K ⟨c.s1.rho,c.s.heap,n0,[]⟩ m=some (v,news)∧c.s.nx≤n0∧n0+news.length≤c.s1.nx
 old:∀ t,t∉c.mds→look c.s1.rho t=look c.s.rho t
 rec_:∀ r∈c.R,∀ m d,r.kd=.mk m→r.o.dst=some d→∃ v n0 news,(d,m,v,n0,news)∈c.T
 disj:∀ d m v n0 news d' m' v' n0' news',(d,m,v,n0,news)∈c.T→(d',m',v',n0',news')∈c.T→d≠d'→n0+news.length≤n0'∨n0'+news'.length≤n0
 same:∀ d m v n0 news m' v' n0' news',(d,m,v,n0,news)∈c.T→(d,m',v',n0',news')∈c.T→m=m'∧v=v'∧n0=n0'∧news=news'
 dem:∀ r∈c.R,∀ e,r.kd=.pure e→Won c.K c.s1 r.ch→∃ v,ev c.K c.s1 e=some v
 gbool:∀ r∈c.R,∀ j b,r.o.guard=some (j,b)→∀ q∈c.R,q.i=j→Won c.K c.s1 q.ch→∃ k x,ev c.K c.s1 q.x=some (.d k (.bool x))
 gold:∀ r∈c.R,∀ j b,r.o.guard=some (j,b)→(∃ q∈c.R,q.i=j∧q.i<r.i)∨∀ o d,c.ops[j]? = some o→o.dst=some d→(∀ q∈c.R,q.o.dst≠some d)∧∃ k x,look c.s.rho d=some (.d k (.bool x))
 dom:∀ b blk,look c.s.heap b=some blk→b<c.s.nx
 covers:∀ d∈c.mds,∃ r∈c.R,r.o.dst=some d∧r.isMk=true
structure Inv(c:Piece)(D:Nat→Prop)(a:Act)(w:World)(F:Nat→Prop)(σ:Nat→Option Loc):Prop where
 heap:HeapRel w F c.X c.base σ c.s1.nx c.s.heap
 glob:GlobRel w F c.K.glob
 le:c.base≤w.heap.size
 frame:Frame c.X c.base c.w0 w
 frz:∀ b,F b→c.F0 b∨c.base≤b
 size:a.tmps.size=c.n
 dfr:a.defers=c.K.dfr
 old:∀ t v,look c.s.rho t=some v→(∀ r∈c.R,D r.i→r.o.dst≠some t)→RepV w F c.base σ (a.tmps.getD t undef) v
 done:∀ r∈c.R,D r.i→∀ d,r.o.dst=some d→r.isWr=false→(Won c.K c.s1 r.ch→∀ v,ev c.K c.s1 r.x=some v→RepV w F c.base σ (a.tmps.getD d undef) v)∧(¬ Won c.K c.s1 r.ch→a.tmps.getD d undef=undef)
 made:∀ d m v n0 news,(d,m,v,n0,news)∈c.T→(∃ r∈c.R,D r.i∧r.o.dst=some d)→∀ i blk,news[i]? = some blk→BlkRel w F c.base σ (n0+i) blk
 unmade:∀ d m v n0 news,(d,m,v,n0,news)∈c.T→(∀ r∈c.R,D r.i→r.o.dst≠some d)→∀ b,n0≤b→b<n0+news.length→σ b=none
 stab:∀ b l,b<c.m→c.σ0 b=some l→b∉c.s.mv→σ b=some l
 sub:∀ b,c.F0 b→F b
variable {c:Piece}{D:Nat→Prop}{a:Act}{w:World}{F:Nat→Prop}{σ:Nat→Option Loc}
def plus(D:Nat→Prop)(i:Nat):Nat→Prop:=fun j=>D j∨j=i
theorem q7K(hc:c.Ok){r:Rec}(hr:r∈c.R){d:Nat}(hd:r.o.dst=some d):d<c.n:=by
 obtain⟨later,done,_,hg⟩:=hc.good.split hr
 cases hg with
 |cons _ _ _ _ _ _ hn=>
  have:=(q0P hn).2.1
  simp only[z3c,hd,Bool.and_eq_true,decide_eq_true_eq] at this
  exact this.1.1
theorem q5j(hc:c.Ok){r q:Rec}(hr:r∈c.R)(hq:q∈c.R)(hne:r.i≠q.i){d:Nat}(hd:r.o.dst=some d):q.o.dst≠some d:=by
 have key:∀ r∈c.R,∀ q∈c.R,q.i<r.i→∀ d,r.o.dst=some d→q.o.dst≠some d:=by
  intro r hr q hq hlt d hd
  obtain⟨later,done,hR,hg⟩:=hc.good.split hr
  cases hg with
  |cons _ _ hgd _ _ _ hn=>
   have hp:=q0P hn
   have hqd:q∈done:=by
    rw[hR] at hq
    rcases List.mem_append.1 hq with hq|hq
    ·-- q is later: its number is greater
     obtain⟨l1,l2,rfl⟩:=List.append_of_mem hq
     have hg2:Good c.B c.P c.ops c.mds c.ef c.n (q :: (l2++r :: done)):=by
      have:=hc.good
      rw[hR] at this
      simp only[List.append_assoc,List.cons_append] at this
      exact this.suffix
     cases hg2 with
     |cons _ _ _ _ _ _ hn2=>
      have:=((q0P hn2).2.2.2.2 r (by simp)).1
      omega
    ·rcases List.mem_cons.1 hq with rfl|hq
     ·omega
     ·exact hq
   have:=hp.2.1
   simp only[z3c,hd,Bool.and_eq_true,List.all_eq_true,bne_iff_ne,ne_eq] at this
   exact(this.1.2 q hqd).1
 rcases Nat.lt_or_gt_of_ne hne with h|h
 ·intro hq'
  exact key q hq r hr h d hq' hd
 ·exact key r hr q hq h d hd
theorem Inv.advance(hc:c.Ok)(h:Inv c D a w F σ){r:Rec}(hr:r∈c.R)(hD:¬ D r.i){w':World}{F':Nat→Prop}{σ':Nat→Option Loc}{v:Value}
  (hval:∀ v x,RepV w F c.base σ v x→RepV w' F' c.base σ' v x) (hheap:HeapRel w' F' c.X c.base σ' c.s1.nx c.s.heap) (hglob:GlobRel w' F' c.K.glob) (hle:c.base≤w'.heap.size) (hframe:Frame c.X c.base w w') (hfrz:∀ b,F' b→c.F0 b∨c.base≤b)
  (hnew:∀ d,r.o.dst=some d→r.isWr=false→(Won c.K c.s1 r.ch→∀ x,ev c.K c.s1 r.x=some x→RepV w' F' c.base σ' v x)∧(¬ Won c.K c.s1 r.ch→v=undef))
  (hmade:∀ d m v n0 news,(d,m,v,n0,news)∈c.T→(∃ q∈c.R,plus D r.i q.i∧q.o.dst=some d)→∀ i blk,news[i]? = some blk→BlkRel w' F' c.base σ' (n0+i) blk)
  (hunmade:∀ d m v n0 news,(d,m,v,n0,news)∈c.T→(∀ q∈c.R,plus D r.i q.i→q.o.dst≠some d)→∀ b,n0≤b→b<n0+news.length→σ' b=none) (hstab:∀ b l,σ b=some l→σ' b=some l) (hsub:∀ b,F b→F' b) :
  Inv c (plus D r.i) (a.put r.o.dst v) w' F' σ':=by
 have hget:∀ t,(r.o.dst≠some t)→(a.put r.o.dst v).tmps.getD t undef=a.tmps.getD t undef:=by
  intro t ht
  cases hd:r.o.dst with
  |none=>rfl
  |some d=>
   rw[q4K (by rw[h.size];exact q7K hc hr hd),if_neg (fun e=>ht (by rw[hd,e]))]
 refine⟨hheap,hglob,hle,h.frame.trans hframe,hfrz,by rw[q6b];exact h.size,by rw[q4x];exact h.dfr,fun t x hx hno=>?_,fun q hq hqD d hd hw=>?_,hmade,hunmade,fun b l hb h0 hm=>hstab b l (h.stab b l hb h0 hm),fun b hb=>hsub b (h.sub b hb)⟩
 ·rw[hget t (hno r hr (.inr rfl))]
  exact hval _ _ (h.old t x hx (fun q hq hqD=>hno q hq (.inl hqD)))
 ·rcases hqD with hqD|hqi
  ·have hne:r.i≠q.i:=fun e=>hD (by rw[e];exact hqD)
   have hdn:r.o.dst≠some d:=q5j hc hq hr (fun e=>hne e.symm) hd
   rw[hget d hdn]
   obtain⟨h1,h2⟩:=h.done q hq hqD d hd hw
   exact⟨fun hwon x hx=>hval _ _ (h1 hwon x hx),h2⟩
  ·obtain rfl:=hc.good.inj q hq r hr hqi
   rw[hd,q4K (by rw[h.size];exact q7K hc hr hd),if_pos rfl]
   exact hnew d hd hw
theorem z3l(hc:c.Ok)(h:Inv c D a w F σ)(hnw:∀ q∈c.R,D q.i→q.isWr=false){r:Rec}{later done:List Rec}(hR:c.R=later++r :: done)(hg:Good c.B c.P c.ops c.mds c.ef c.n (r :: done))(hD:¬ D r.i)(hdown:∀ q∈c.R,D q.i→∀ p∈c.R,c.B p.i q.i=true→D p.i)(hpre:∀ q∈c.R,c.B q.i r.i=true→D q.i)
  {x:Operand} {ch:q2t} (hx:(x,ch)∈q7Q c.P (q0Z done) r.o r.ch) (hxo:x∈r.o.op.operands.toList) (hw:Won c.K c.s1 ch):Held c.P c.K c.s1 (q0Z done) w F c.base σ a x:=by
 cases hg with
 |cons _ _ hgd hop hkd hch hn=>
  obtain⟨hneeds,hdst,_,_,hall⟩:=q0P hn
  have hmem:r∈c.R:=by rw[hR];simp
  have hdone:∀ q∈done,q∈c.R:=fun q hq=>by rw[hR];simp [hq]
  cases x with
  |const v=>exact q7l
  |global g=>exact q8V h.glob
  |func f=>exact q8W
  |tmp t=>
   refine z0C fun v hv=>?_
   simp only[z0r,List.all_eq_true] at hneeds
   have hnt:=hneeds (.tmp t,ch) hx
   simp only at hnt
   rcases z4c (done:=done) (t:=t) with⟨q,hq,hqd,hfind,hlook⟩|⟨hno,hfind,hlook⟩
   ·rw[hfind] at hnt
    simp only[Bool.and_eq_true] at hnt
    have hget:Env.get (q0Z done) t=q.x:=by simp [Env.get,hlook]
    rw[hget] at hv
    have hqD:=hpre q (hdone q hq) hnt.1
    have hwon:Won c.K c.s1 q.ch:=fun p hp=>by
     have hsub:=hnt.2
     simp only[q79,List.all_eq_true,decide_eq_true_eq] at hsub
     exact hw p (hsub p hp)
    exact(h.done q (hdone q hq) hqD t hqd (hnw q (hdone q hq) hqD)).1 hwon v hv
   ·have hget:Env.get (q0Z done) t=.sl t:=by simp [Env.get,hlook]
    rw[hget] at hv
    simp only[ev] at hv
    have hreads:t∈reads r.o:=by
     simp only[reads,List.mem_filterMap]
     exact⟨.tmp t,hxo,rfl⟩
    -- who writes t comes later, and makes no memory
    have hlater:∀ q∈c.R,q.o.dst=some t→q.isMk=false∧¬ D q.i:=by
     intro q hq hqd
     rw[hR] at hq
     rcases List.mem_append.1 hq with hq|hq
     ·obtain⟨l1,l2,rfl⟩:=List.append_of_mem hq
      have hg2:Good c.B c.P c.ops c.mds c.ef c.n (q :: (l2++r :: done)):=by
       have:=hc.good
       rw[hR] at this
       simp only[List.append_assoc,List.cons_append] at this
       exact this.suffix
      have hqR:q∈c.R:=by rw[hR];simp
      cases hg2 with
      |cons _ _ _ _ _ _ hn2=>
       have h2:=(q0P hn2).2.1
       simp only[z3c,hqd,Bool.and_eq_true,List.all_eq_true] at h2
       have h3:=(h2.1.2 r (by simp)).2
       simp only[Bool.or_eq_true,Bool.not_eq_true',Bool.and_eq_true] at h3
       rcases h3 with h3|h3
       ·rw[List.contains_eq_mem,decide_eq_false_iff_not] at h3
        exact absurd hreads h3
       ·exact⟨h3.2,fun hqD=>hD (hdown q hqR hqD r hmem h3.1)⟩
     ·rcases List.mem_cons.1 hq with rfl|hq
      ·refine⟨?_,hD⟩
       simp only[z3c,hqd,Bool.and_eq_true,Bool.or_eq_true,Bool.not_eq_true'] at hdst
       rcases hdst.2 with h3|h3
       ·exact h3
       ·rw[List.contains_eq_mem,decide_eq_false_iff_not] at h3
        exact absurd hreads h3
      ·exact absurd hqd (hno q hq)
    have hnm:t∉c.mds:=by
     intro hm
     obtain⟨q,hq,hqd,hqm⟩:=hc.covers t hm
     rw[(hlater q hq hqd).1] at hqm
     cases hqm
    rw[hc.old t hnm] at hv
    exact h.old t v hv fun q hq hqD hqd=>(hlater q hq hqd).2 hqD
end Go.Vm
end

section
namespace Go.Vm
open Go.RowKit
variable {c:Piece}{D:Nat→Prop}{a:Act}{w:World}{F:Nat→Prop}{σ:Nat→Option Loc}
theorem q67{c:Piece}{d:Nat}{r:Rec}(hr:r∈c.R)(hno:∀ q∈c.R,plus D r.i q.i→q.o.dst≠some d):∀ q∈c.R,D q.i→q.o.dst≠some d:=fun q hq hqD=>hno q hq (.inl hqD)
theorem q6W(hc:c.Ok)(h:Inv c D a w F σ)(hnw:∀ q∈c.R,D q.i→q.isWr=false){r:Rec}(hr:r∈c.R)(hpre:∀ q∈c.R,c.B q.i r.i=true→D q.i):Region.wanted r.o (yielded c.ops a.tmps)=true↔Won c.K c.s1 r.ch:=by
 obtain⟨later,done,hR,hg⟩:=hc.good.split hr
 cases hg with
 |cons _ _ hgd hop hkd hch hn=>
  obtain⟨_,_,hgu,_,hall⟩:=q0P hn
  unfold Region.wanted
  cases hgd':r.o.guard with
  |none=>
   simp only[hgd',q53,Option.some.injEq] at hch
   rw[←hch]
   simp [Won]
  |some jb=>
   obtain⟨j,b⟩:=jb
   simp only[hgd',q53] at hch
   simp only[q8H,hgd',Bool.and_eq_true] at hgu
   cases hf:done.find? (·.i==j) with
   |none=>
    simp only[hf] at hch
    rcases hc.gold r hr j b hgd' with⟨q,hq,hqj,hlt⟩|hgo
    ·exfalso
     -- it is among those that are done
     have hqd:q∈done:=by
      rw[hR] at hq
      rcases List.mem_append.1 hq with hq|hq
      ·obtain⟨l1,l2,rfl⟩:=List.append_of_mem hq
       have hg2:Good c.B c.P c.ops c.mds c.ef c.n (q :: (l2++r :: done)):=by
        have:=hc.good
        rw[hR] at this
        simp only[List.append_assoc,List.cons_append] at this
        exact this.suffix
       cases hg2 with
       |cons _ _ _ _ _ _ hn2=>
        have:=((q0P hn2).2.2.2.2 r (by simp)).1
        omega
      ·rcases List.mem_cons.1 hq with rfl|hq
       ·omega
       ·exact hq
     have:=List.find?_eq_none.1 hf q hqd
     simp [hqj] at this
    ·cases hoj:c.ops[j]? with
     |none=>simp [hoj] at hch
     |some oj=>
      cases hdj:oj.dst with
      |none=>simp [hoj,hdj] at hch
      |some d=>
       simp only[hoj,hdj,Option.some.injEq] at hch
       obtain⟨hnw,k,x,hlk⟩:=hgo oj d hoj hdj
       have hv:=(h.old d _ hlk (fun q hq _=>hnw q hq)).bool_inv
       have hnm:d∉c.mds:=fun hm=>by
        obtain⟨q,hq,hqd,_⟩:=hc.covers d hm
        exact hnw q hq hqd
       have hy:yielded c.ops a.tmps j=some x:=by
        unfold yielded
        rw[hoj]
        simp only[Option.bind_some,hdj]
        rw[Array.getD_eq_getD_getElem?] at hv
        cases ht:a.tmps[d]? with
        |none=>rw[ht] at hv;simp [undef] at hv
        |some u=>rw[ht] at hv;simp only[Option.getD_some] at hv;subst hv;rfl
       simp only[hy]
       rw[←hch]
       have hev:ev c.K c.s1 (.sl d)=some (.d k (.bool x)):=by
        simp only[ev]
        rw[hc.old d hnm]
        exact hlk
       constructor
       ·intro hb
        have hxb:x=b:=by simpa using hb
        subst hxb
        intro p hp
        simp only[List.mem_singleton] at hp
        subst hp
        exact⟨k,hev⟩
       ·intro hw
        obtain⟨k',hk'⟩:=hw.head
        rw[hev] at hk'
        simp only[Option.some.injEq,V.d.injEq,Vm.D.bool.injEq] at hk'
        simp [hk'.2]
   |some q=>
    have hqm:=List.mem_of_find?_eq_some hf
    have hqi:q.i=j:=by simpa using List.find?_some hf
    have hqR:q∈c.R:=by rw[hR];simp [hqm]
    simp only[hf] at hch
    cases hk:q.kd with
    |mk m=>simp [hk] at hch
    |wr x=>simp [hk] at hch
    |pure e=>
     cases hd:q.o.dst with
     |none=>simp [hk,hd] at hch
     |some d=>
      simp only[hk,hd,Option.some.injEq] at hch
      have hqD:D q.i:=hpre q hqR (by rw[hqi];exact hgu.1)
      have hopq:c.ops[j]? = some q.o:=by
       obtain⟨l2,d2,_,hg2⟩:=hc.good.split hqR
       cases hg2 with
       |cons _ _ _ ho _ _ _=>rw[←hqi];exact ho
      have hdn:=q7K hc hqR hd
      obtain⟨h1,h2⟩:=h.done q hqR hqD d hd (hnw q hqR hqD)
      have hqx:q.x=e:=by simp [Rec.x,hk]
      have hy:yielded c.ops a.tmps j=match a.tmps.getD d undef with|.bool b=>some b|_=>none:=by
       unfold yielded
       rw[hopq]
       simp only[Option.bind_some,hd]
       have:a.tmps[d]? = some (a.tmps.getD d undef):=by
        rw[Array.getD_eq_getD_getElem?]
        have hlt:d<a.tmps.size:=by rw[h.size];exact hdn
        simp [hlt]
       rw[this]
       cases a.tmps.getD d undef <;> rfl
      simp only[hy]
      rw[←hch]
      by_cases hwon:Won c.K c.s1 q.ch
      ·obtain⟨k,x,hx⟩:=hc.gbool r hr j b hgd' q hqR hqi hwon
       have hv:=(h1 hwon _ hx).bool_inv
       rw[hv]
       rw[hqx] at hx
       constructor
       ·intro hb
        have hxb:x=b:=by simpa using hb
        subst hxb
        intro p hp
        rcases List.mem_cons.1 hp with rfl|hp
        ·exact⟨k,hx⟩
        ·exact hwon p hp
       ·intro hw
        obtain⟨k',hk'⟩:=hw.head
        rw[hx] at hk'
        simp only[Option.some.injEq,V.d.injEq,Vm.D.bool.injEq] at hk'
        simp [hk'.2]
      ·rw[h2 hwon]
       constructor
       ·intro hb;simp [undef] at hb
       ·intro hw;exact absurd hw.tail hwon
theorem z7p{P:Program}{K:Cx}{s:S}{env:Env}{o:Oper}{base:Nat}{a:Act}{cc x y:Operand}{e:E}{r:V}(hop:o.op=.pick cc x y)(he:z27 P env o=some e)(hev:ev K s e=some r){ch:q2t}(hw:Won K s ch)
  (hc:Held P K s env w F base σ a cc) (hx:∀ ec,q0j P env 0 cc=some ec→Won K s ((ec,true) :: ch)→Held P K s env w F base σ a x) (hy:∀ ec,q0j P env 0 cc=some ec→Won K s ((ec,false) :: ch)→Held P K s env w F base σ a y):OpOk P w F base σ a.eval o r:=by
 simp only[z27,hop] at he
 cases hec:q0j P env 0 cc with
 |none=>simp [hec] at he
 |some ec=>
  cases hea:q0j P env o.type x with
  |none=>simp [hec,hea] at he
  |some ea=>
   cases heb:q0j P env o.type y with
   |none=>simp [hec,hea,heb] at he
   |some eb=>
    simp only[hec,hea,heb,Option.some.injEq] at he
    have won:∀ k b,ev K s ec=some (.d k (.bool b))→Won K s ((ec,b) :: ch):=fun k b h p hp=>by
     rcases List.mem_cons.1 hp with rfl|hp
     ·exact⟨k,h⟩
     ·exact hw p hp
    split at he
    ·rename_i ht
     subst he
     obtain⟨k,b,h1,h2,h3⟩:=j25 hev
     refine z3a (x:=b) hop (hc _ _ _ hec h1).bool_inv (fun hb=>?_) (fun hb=>?_)
     ·subst hb
      rw[h3 rfl]
      exact hx ec hec (won k true h1) _ _ _ hea (by rw[ht];rfl)
     ·subst hb
      obtain⟨c',y',hy',rfl⟩:=h2 rfl
      have:=(hy ec hec (won k false h1) _ _ _ heb hy').bool_inv
      rw[this]
      exact .bool
    ·split at he
     ·rename_i hf
      subst he
      obtain⟨k,b,h1,h2,h3⟩:=z8W hev
      refine z3a (x:=b) hop (hc _ _ _ hec h1).bool_inv (fun hb=>?_) (fun hb=>?_)
      ·subst hb
       obtain⟨c',y',hy',rfl⟩:=h2 rfl
       have:=(hx ec hec (won k true h1) _ _ _ hea hy').bool_inv
       rw[this]
       exact .bool
      ·subst hb
       rw[h3 rfl]
       exact hy ec hec (won k false h1) _ _ _ heb (by rw[hf];rfl)
     ·subst he
      obtain⟨k,b,h1,h2,h3⟩:=z3r hev
      refine z3a (x:=b) hop (hc _ _ _ hec h1).bool_inv (fun hb=>?_) (fun hb=>?_)
      ·subst hb
       exact hx ec hec (won k true h1) _ _ _ hea (h2 rfl)
      ·subst hb
       exact hy ec hec (won k false h1) _ _ _ heb (h3 rfl)
set_option maxHeartbeats 1000000 in
theorem z66(hc:c.Ok)(h:Inv c D a w F σ)(hnw:∀ q∈c.R,D q.i→q.isWr=false){r:Rec}(hr:r∈c.R)(hwr:r.isWr=false)(hD:¬ D r.i)(hdown:∀ q∈c.R,D q.i→∀ p∈c.R,c.B p.i q.i=true→D p.i)(hpre:∀ q∈c.R,c.B q.i r.i=true→D q.i)
  {Kn:Act→World→Prop} {Q:Exit→Act→World→Prop} (hK:∀ a w F σ,Inv c (plus D r.i) a w F σ→Kn a w):wpOp c.P c.ops Q r.i Kn a w:=by
 have hwant:=q6W hc h hnw hr hpre
 obtain⟨later,done,hR,hg⟩:=hc.good.split hr
 have hheld:=fun x ch hx hxo hw=>z3l hc h hnw (x:=x) (ch:=ch) hR hg hD hdown hpre hx hxo hw
 cases hg with
 |cons _ _ hgd hop hkd hch hn=>
  unfold wpOp
  rw[hop]
  simp only
  have madeold:∀(w':World) (F':Nat→Prop) (σ':Nat→Option Loc),r.isMk=false→(∀ b,F b→F' b∧w'.heap[b]? = w.heap[b]?)→(∀ b l,σ b=some l→w'.heap[l.blk]? = w.heap[l.blk]?)→σ'=σ→
    (∀ d m v n0 news,(d,m,v,n0,news)∈c.T→(∃ q∈c.R,plus D r.i q.i∧q.o.dst=some d)→∀ i blk,news[i]? = some blk→BlkRel w' F' c.base σ' (n0+i) blk):=by
   rintro w' F' σ' hm hF hblk rfl d m v n0 news hT ⟨q,hq,hqD,hqd⟩ i blk hi
   rcases hqD with hqD|hqi
   ·exact(h.made d m v n0 news hT ⟨q,hq,hqD,hqd⟩ i blk hi).mono hF (fun _ _ h=>h) (fun h=>h) (fun l hl=>hblk _ l hl)
   ·obtain rfl:=hc.good.inj q hq r hr hqi
    -- r writes d, which is one of the new ones
    obtain⟨q2,hq2,hq2d,hq2m⟩:=hc.covers d ((hc.mds d).2 ⟨m,v,n0,news,hT⟩)
    by_cases he:q2.i=q.i
    ·obtain rfl:=hc.good.inj q2 hq2 q hr he
     rw[hm] at hq2m;cases hq2m
    ·exact absurd hqd (q5j hc hq2 hr he hq2d)
  by_cases hwon:Won c.K c.s1 r.ch
  ·rw[if_pos (hwant.2 hwon)]
   refine .inl ?_
   cases hk:r.kd with
   |wr x=>simp [Rec.isWr,hk] at hwr
   |pure e=>
    rw[hk] at hkd
    have hmk:r.isMk=false:=by simp [Rec.isMk,hk]
    have hpe:z27 c.P (q0Z done) r.o=some e:=by
     simp only[kdOf] at hkd
     split at hkd
     ·cases hm:mkK c.P (q0Z done) r.o <;> simp [hm] at hkd
     ·split at hkd
      ·cases hm:effK c.P (q0Z done) r.o <;> simp [hm] at hkd
      ·split at hkd
       ·rename_i h1
        simp only[Option.some.injEq,Kd.pure.injEq] at hkd
        rw[←hkd]
        exact h1
       ·cases hm:wrK c.P (q0Z done) r.o <;> simp [hm] at hkd
    obtain⟨val,hval⟩:=hc.dem r hr e hk hwon
    have hs1:c.s1.heap=c.s.heap:=hc.s1
    have fin:∀ v w' F',After w w' F F'→RepV w' F' c.base σ v val→Kn (a.put r.o.dst v) w':=by
     intro v w' F' haf hR
     have hFw:∀ b,F b→F' b∧w'.heap[b]? = w.heap[b]?:=fun b hb=>⟨haf.sub b hb,haf.below.block b (h.heap.fro b hb)⟩
     refine hK _ _ F' σ (h.advance hc hr hD (fun v x hx=>hx.mono hFw (fun _ _ h=>h)) (h.heap.after haf) (h.glob.mono hFw) (Nat.le_trans h.le haf.below.size) (.of_after haf h.le) (fun b hb=>?_) (fun d hd _=>⟨fun _ x hx=>?_,fun hno=>absurd hwon hno⟩)
      (madeold w' F' σ hmk hFw (fun b l hl=>haf.below.block _ (h.heap.own b l hl).2.2.2) rfl) (fun d m v n0 news hT hno=>h.unmade d m v n0 news hT (q67 hr hno)) (fun _ _ h=>h) (fun b hb=>(hFw b hb).1))
     ·rcases haf.old b hb with hb|hb
      ·exact h.frz b hb
      ·exact .inr (Nat.le_trans h.le hb)
     ·have:r.x=e:=by simp [Rec.x,hk]
      rw[this,hval] at hx
      obtain rfl:=Option.some.inj hx
      exact hR
    by_cases hpick:∃ cc x y,r.o.op=.pick cc x y
    ·obtain⟨cc,x,y,hpk⟩:=hpick
     have hmem:∀ z,z∈[cc,x,y]→z∈r.o.op.operands.toList:=fun z hz=>by rw[hpk];simpa [Op.operands] using hz
     refine z3H (z7p hpk hpe hval hwon ?_ ?_ ?_) fun v hR=>fin v w F (.refl h.heap.fro) hR
     ·refine hheld cc r.ch ?_ (hmem cc (by simp)) hwon
      simp only[q7Q,hpk]
      cases q0j c.P (q0Z done) 0 cc <;> simp
     ·intro ec hec hw
      exact hheld x _ (by simp only[q7Q,hpk,hec];simp) (hmem x (by simp)) hw
     ·intro ec hec hw
      exact hheld y _ (by simp only[q7Q,hpk,hec];simp) (hmem y (by simp)) hw
    ·have hne:∀ cc x y,r.o.op≠.pick cc x y:=fun cc x y hp=>hpick ⟨cc,x,y,hp⟩
     refine z1A (s:=c.s1) hne hpe hval (fun x hx=>hheld x r.ch ?_ hx hwon) (by rw[hs1];exact h.heap) h.glob h.le hc.sound fin
     unfold q7Q
     split
     ·rename_i hp;exact absurd hp (hne _ _ _)
     ·exact List.mem_map.2 ⟨x,hx,rfl⟩
   |mk m=>
    rw[hk] at hkd
    have hmk:r.isMk=true:=by simp [Rec.isMk,hk]
    have hin:∃ d,r.o.dst=some d∧mkK c.P (q0Z done) r.o=some m:=by
     simp only[kdOf] at hkd
     split at hkd
     ·rename_i hi
      cases hd:r.o.dst with
      |none=>rw[hd] at hi;cases hi
      |some d=>
       cases hm:mkK c.P (q0Z done) r.o with
       |none=>simp [hm] at hkd
       |some m'=>
        simp only[hm,Option.map_some,Option.some.injEq,Kd.mk.injEq] at hkd
        exact⟨d,rfl,by rw[hkd]⟩
     ·split at hkd
      ·cases hm:effK c.P (q0Z done) r.o <;> simp [hm] at hkd
      ·split at hkd
       ·cases hkd
       ·cases hm:wrK c.P (q0Z done) r.o <;> simp [hm] at hkd
    obtain⟨d,hd,hmkK⟩:=hin
    obtain⟨v0,n0,news,hT⟩:=hc.rec_ r hr m d hk hd
    obtain⟨hevm,hn0,hn1⟩:=hc.evm d m v0 n0 news hT
    have hnotdone:∀ q∈c.R,D q.i→q.o.dst≠some d:=fun q hq hqD=>q5j hc hr hq (fun e=>hD (by rw[e];exact hqD)) hd
    have hun:=h.unmade d m v0 n0 news hT hnotdone
    have hnp:∀ cc x y,r.o.op≠.pick cc x y:=fun cc x y hp=>by simp [mkK,hp] at hmkK
    have hops:∀ x∈r.o.op.operands.toList,Held c.P c.K ⟨c.s1.rho,c.s.heap,n0,[]⟩ (q0Z done) w F c.base σ a x:=by
     intro x hx t e v he hv
     refine hheld x r.ch ?_ hx hwon t e v he ?_
     ·unfold q7Q
      split
      ·rename_i hp;exact absurd hp (hnp _ _ _)
      ·exact List.mem_map.2 ⟨x,hx,rfl⟩
     ·have:c.s1=⟨c.s1.rho,c.s.heap,c.s1.nx,c.s1.mv⟩:=by rw[←hc.s1]
      rw[this,j4R _ _ _ _ n0 _ []]
      exact hv
    refine j2r (s:=⟨c.s1.rho,c.s.heap,n0,[]⟩) hmkK hevm hops h.heap h.glob h.le hc.sound hun hn1 (fun b blk hb=>Nat.lt_of_lt_of_le (hc.dom b blk hb) hn0) fun vv w' F' σ' hmd hRv=>?_
    have honly:∀ b,¬(n0≤b∧b<n0+news.length)→σ' b=σ b:=hmd.only
    have hFw:∀ b,F b→F' b∧w'.heap[b]? = w.heap[b]?:=fun b hb=>⟨hmd.after.sub b hb,hmd.after.below.block b (h.heap.fro b hb)⟩
    refine hK _ _ F' σ' (h.advance hc hr hD (fun v x hx=>hx.mono hFw hmd.old) hmd.heap (h.glob.mono hFw) (Nat.le_trans h.le hmd.after.below.size) (.of_after hmd.after h.le) (fun b hb=>?_) (fun d' hd' _=>⟨fun _ x hx=>?_,fun hno=>absurd hwon hno⟩) ?_ ?_ hmd.old (fun b hb=>(hFw b hb).1))
    ·rcases hmd.after.old b hb with hb|hb
     ·exact h.frz b hb
     ·exact .inr (Nat.le_trans h.le hb)
    ·have hrx:r.x=.sl d:=by simp [Rec.x,hk,hd]
     rw[hrx] at hx
     simp only[ev] at hx
     rw[hc.put d m v0 n0 news hT] at hx
     obtain rfl:=Option.some.inj hx
     exact hRv
    ·rintro d' m' v' n0' news' hT' ⟨q,hq,hqD,hqd⟩ i blk hi
     by_cases hdd:d=d'
     ·subst hdd
      obtain⟨rfl,rfl,rfl,rfl⟩:=hc.same d m v0 n0 news m' v' n0' news' hT hT'
      exact hmd.blk i blk hi
     ·have hqD':D q.i:=by
       rcases hqD with hqD|hqi
       ·exact hqD
       ·obtain rfl:=hc.good.inj q hq r hr hqi
        rw[hd] at hqd
        exact absurd (Option.some.inj hqd) hdd
      have hdj:=hc.disj d m v0 n0 news d' m' v' n0' news' hT hT' hdd
      have hil:i<news'.length:=(List.getElem?_eq_some_iff.1 hi).1
      exact(h.made d' m' v' n0' news' hT' ⟨q,hq,hqD',hqd⟩ i blk hi).mono hFw hmd.old (fun h0=>by rw[honly _ (by omega)];exact h0) (fun l hl=>hmd.after.below.block _ (h.heap.own _ l hl).2.2.2)
    ·intro d' m' v' n0' news' hT' hno b hb1 hb2
     have hdd:d≠d':=by
      rintro rfl
      exact hno r hr (.inr rfl) hd
     have hdj:=hc.disj d m v0 n0 news d' m' v' n0' news' hT hT' hdd
     rw[honly b (by omega)]
     exact h.unmade d' m' v' n0' news' hT' (q67 hr hno) b hb1 hb2
  ·rw[if_neg (fun hw=>hwon (hwant.1 hw))]
   have hmk:r.isMk=false:=by
    cases hk:r.kd with
    |pure e=>simp [Rec.isMk,hk]
    |wr x=>simp [Rec.isMk,hk]
    |mk m=>
     -- what makes memory has no guard
     obtain⟨_,_,hgu,_,_⟩:=q0P hn
     exfalso
     cases hgd':r.o.guard with
     |none=>
      simp only[hgd',q53,Option.some.injEq] at hch
      rw[←hch] at hwon
      exact hwon (fun p hp=>by simp at hp)
     |some jb=>
      obtain⟨j,b⟩:=jb
      simp only[q8H,hgd',Bool.and_eq_true,Bool.not_eq_true'] at hgu
      simp [Rec.isMk,hk] at hgu
   exact hK _ _ F σ (h.advance hc hr hD (fun _ _ h=>h) h.heap h.glob h.le (.refl _ _ _) h.frz (fun d hd _=>⟨fun hw=>absurd hw hwon,fun _=>rfl⟩)
    (madeold w F σ hmk (fun b hb=>⟨hb,rfl⟩) (fun _ _ _=>rfl) rfl) (fun d m v n0 news hT hno=>h.unmade d m v n0 news hT (q67 hr hno)) (fun _ _ h=>h) (fun _ h=>h))
end Go.Vm
end

section
namespace Go.Vm
open Go.RowKit
structure StRel(K:Cx)(X:Nat→Nat→Prop)(base:Nat)(w0:World)(F0:Nat→Prop)(m:Nat)(σ0:Nat→Option Loc)(n:Nat)(s:S)(a:Act)(w:World)(F:Nat→Prop)(σ:Nat→Option Loc):Prop where
 heap:HeapRel w F X base σ s.nx s.heap
 glob:GlobRel w F K.glob
 le:base≤w.heap.size
 frame:Frame X base w0 w
 frz:∀ b,F b→F0 b∨base≤b
 size:a.tmps.size=n
 dfr:a.defers=K.dfr
 rho:∀ t v,look s.rho t=some v→RepV w F base σ (a.tmps.getD t undef) v
 dom:∀ b blk,look s.heap b=some blk→b<s.nx
 stab:∀ b l,b<m→σ0 b=some l→b∉s.mv→σ b=some l
 nxm:m≤s.nx
 xm:∀ b k,X b k→b<m
 sub:∀ b,F0 b→F b
def E.free(ds:List Nat):E→Bool
 |.sl t=>!ds.contains t
 |.un _ a|.fa _ a|.fld _ _ _ a|.ld _ _ a|.ext _ a|.len _ a|.agg a|.mki _ a|.mkf _ a|.conv _ a|.mlen a|.b2s a|.s2r a|.i2s a|.call _ a=>a.free ds
 |.bin _ a b|.eqs _ _ _ a b|.and a b|.or a b|.ia _ a b|.aa _ _ a b|.ix a b|.sh _ a b|.ax _ _ _ a b|.set _ _ a b|.callv a b|.cons a b=>a.free ds&&b.free ds
 |.cond a b c|.lkp _ _ a b c=>a.free ds&&b.free ds&&c.free ds
 |.cut _ _ _ _ _ a b c d=>a.free ds&&b.free ds&&c.free ds&&d.free ds
 |_=>true
def Mk.free(ds:List Nat):Mk→Bool
 |.box e=>e.free ds
 |.mks _ a b c=>a.free ds&&b.free ds&&c.free ds&&!ds.contains z7R
 |.lits _ e=>e.free ds
 |.callo _ e=>e.free ds
 |.mkm=>true
 |.bld _ _=>true
 |.s2b e=>e.free ds
theorem q5f(K:Cx)(ρ ρ':List (Nat×V))(H:List (Nat×Blk))(n n':Nat)(u u':List Nat){ds:List Nat}(h:∀ t,t∉ds→look ρ' t=look ρ t):∀ e:E,e.free ds=true→ev K ⟨ρ',H,n',u'⟩ e=ev K ⟨ρ,H,n,u⟩ e:=by
 intro e
 induction e with
 |sl t=>
  intro he
  simp only[E.free,Bool.not_eq_true',List.contains_eq_mem,decide_eq_false_iff_not] at he
  simp only[ev]
  exact h t he
 |_=>
  intro he
  simp only[E.free,Bool.and_eq_true] at he
  simp only[ev, *]
theorem z82(K:Cx)(ρ ρ':List (Nat×V))(H:List (Nat×Blk))(n:Nat)(u u':List Nat){ds:List Nat}(h:∀ t,t∉ds→look ρ' t=look ρ t){m:Mk}(hm:m.free ds=true):evMk K ⟨ρ',H,n,u'⟩ m=evMk K ⟨ρ,H,n,u⟩ m:=by
 cases m <;> simp only[Mk.free,Bool.and_eq_true] at hm <;> simp only[evMk]
 ·rw[q5f K ρ ρ' H n n u u' h _ hm]
 ·rw[q5f K ρ ρ' H n n u u' h _ hm.1.1.1,q5f K ρ ρ' H n n u u' h _ hm.1.1.2,q5f K ρ ρ' H n n u u' h _ hm.1.2,q5R,q5R,h z7R (by simpa using hm.2)]
 ·rw[q5f K ρ ρ' H n n u u' h _ hm]
 ·rw[q5f K ρ ρ' H n n u u' h _ hm]
 ·rw[q5f K ρ ρ' H n n u u' h _ hm]
def z7L:List (Nat×Mk)→Bool
 |[]=>true
 |(d,m) :: r=>m.free (d :: r.map (·.1))&&!(r.map (·.1)).contains d&&z7L r
theorem q1S:∀(news:List Blk)(H:List (Nat×Blk))(nx b:Nat),look (addBlks H nx news) b=if nx≤b∧b<nx+news.length then news[b - nx]? else look H b
 |[],H,nx,b=>by simp only[addBlks,List.length_nil];rw[if_neg (by omega)]
 |k :: r,H,nx,b=>by
  simp only[addBlks,List.length_cons]
  rw[q1S r]
  by_cases h:nx+1≤b∧b<nx+1+r.length
  ·rw[if_pos h,if_pos (by omega)]
   obtain⟨m,rfl⟩:∃ m,b=nx+1+m:=⟨b - (nx+1),by omega⟩
   have h1:nx+1+m - (nx+1)=m:=by omega
   have h2:nx+1+m - nx=m+1:=by omega
   rw[h1,h2];rfl
  ·rw[if_neg h]
   simp only[look]
   by_cases hb:nx=b
   ·subst hb
    rw[if_pos rfl,if_pos (by omega)]
    simp
   ·rw[if_neg hb,if_neg (by omega)]
structure Traced(K:Cx)(s s1:S)(news:List Blk)(mks:List (Nat×Mk))(T:Tr):Prop where
 heap:s1.heap=s.heap
 nx:s1.nx=s.nx+news.length
 mv:s1.mv=s.mv
 of:∀ d m,(d,m)∈mks↔∃ v n0 nw,(d,m,v,n0,nw)∈T
 put:∀ d m v n0 nw,(d,m,v,n0,nw)∈T→look s1.rho d=some v
 evm:∀ d m v n0 nw,(d,m,v,n0,nw)∈T→evMk K ⟨s1.rho,s.heap,n0,[]⟩ m=some (v,nw)∧s.nx≤n0∧n0+nw.length≤s1.nx
 old:∀ t,t∉mks.map (·.1)→look s1.rho t=look s.rho t
 disj:∀ d m v n0 nw d' m' v' n0' nw',(d,m,v,n0,nw)∈T→(d',m',v',n0',nw')∈T→d≠d'→n0+nw.length≤n0'∨n0'+nw'.length≤n0
 same:∀ d m v n0 nw m' v' n0' nw',(d,m,v,n0,nw)∈T→(d,m',v',n0',nw')∈T→m=m'∧v=v'∧n0=n0'∧nw=nw'
 news:∀ i blk,news[i]? = some blk→∃ d m v n0 nw j,(d,m,v,n0,nw)∈T∧s.nx+i=n0+j∧nw[j]? = some blk
theorem traced(K:Cx):∀(mks:List (Nat×Mk))(s s1:S)(news:List Blk),z7L mks=true→q2A K s mks=some (s1,news)→∃ T,Traced K s s1 news mks T
 |[],s,s1,news,_,h=>by
  simp only[q2A,Option.some.injEq,Prod.mk.injEq] at h
  obtain⟨rfl,rfl⟩:=h
  exact⟨[],⟨rfl,by simp,rfl,fun d m=>by simp,fun _ _ _ _ _ h=>by simp at h,fun _ _ _ _ _ h=>by simp at h,fun _ _=>rfl,fun _ _ _ _ _ _ _ _ _ _ h=>by simp at h,fun _ _ _ _ _ _ _ _ _ h=>by simp at h,fun i blk h=>by simp at h⟩⟩
 |(d,m) :: r,s,s1,news,hok,h=>by
  simp only[z7L,Bool.and_eq_true,Bool.not_eq_true',List.contains_eq_mem,decide_eq_false_iff_not] at hok
  obtain⟨⟨hfree,hd⟩,hok⟩:=hok
  simp only[q2A] at h
  cases hm:evMk K s m with
  |none=>simp [hm] at h
  |some p=>
   obtain⟨v,nw⟩:=p
   simp only[hm] at h
   cases hr:q2A K ⟨put s.rho d v,s.heap,s.nx+nw.length,s.mv⟩ r with
   |none=>simp [hr] at h
   |some p=>
    obtain⟨s2,more⟩:=p
    simp only[hr,Option.some.injEq,Prod.mk.injEq] at h
    obtain⟨rfl,rfl⟩:=h
    obtain⟨T,hT⟩:=traced K r _ _ _ hok hr
    have inr:∀ d' m' v' n0' nw',(d',m',v',n0',nw')∈T→(d',m')∈r:=fun d' m' v' n0' nw' h=>(hT.of d' m').2 ⟨v',n0',nw',h⟩
    have hdT:∀ m' v' n0' nw',(d,m',v',n0',nw')∉T:=fun m' v' n0' nw' h=>hd (List.mem_map.2 ⟨_,inr _ _ _ _ _ h,rfl⟩)
    have hlook:∀ t,t∉d :: r.map (·.1)→look s2.rho t=look s.rho t:=by
     intro t ht
     simp only[List.mem_cons,not_or] at ht
     rw[hT.old t ht.2,q0u,if_neg (fun e=>ht.1 e.symm)]
    have hnx:=hT.nx
    simp only at hnx
    refine⟨(d,m,v,s.nx,nw) :: T,⟨hT.heap,by rw[hnx];simp;omega,hT.mv,fun d' m'=>?_,?_,?_,fun t ht=>hlook t (by simpa using ht),?_,?_,?_⟩⟩
    ·constructor
     ·intro h
      rcases List.mem_cons.1 h with h|h
      ·simp only[Prod.mk.injEq] at h
       obtain⟨rfl,rfl⟩:=h
       exact⟨v,s.nx,nw,by simp⟩
      ·obtain⟨v',n0',nw',h'⟩:=(hT.of d' m').1 h
       exact⟨v',n0',nw',List.mem_cons_of_mem _ h'⟩
     ·rintro⟨v',n0',nw',h⟩
      rcases List.mem_cons.1 h with h|h
      ·simp only[Prod.mk.injEq] at h
       obtain⟨rfl,rfl,_⟩:=h
       simp
      ·exact List.mem_cons_of_mem _ (inr _ _ _ _ _ h)
    ·intro d' m' v' n0' nw' h
     rcases List.mem_cons.1 h with h|h
     ·simp only[Prod.mk.injEq] at h
      obtain⟨rfl,rfl,rfl,rfl,rfl⟩:=h
      rw[hT.old d' hd,q0u,if_pos rfl]
     ·exact hT.put _ _ _ _ _ h
    ·intro d' m' v' n0' nw' h
     rcases List.mem_cons.1 h with h|h
     ·simp only[Prod.mk.injEq] at h
      obtain⟨rfl,rfl,rfl,rfl,rfl⟩:=h
      refine⟨?_,Nat.le_refl _,by omega⟩
      rw[z82 K s.rho s2.rho s.heap s.nx s.mv [] hlook hfree]
      exact hm
     ·obtain⟨h1,h2,h3⟩:=hT.evm _ _ _ _ _ h
      simp only at h1 h2
      exact⟨h1,by omega,h3⟩
    ·intro d1 m1 v1 n1 w1 d2 m2 v2 n2 w2 h1 h2 hne
     rcases List.mem_cons.1 h1 with k1|k1 <;> rcases List.mem_cons.1 h2 with k2|k2
     ·simp only[Prod.mk.injEq] at k1 k2
      exact absurd (k1.1.trans k2.1.symm) hne
     ·simp only[Prod.mk.injEq] at k1
      obtain⟨rfl,rfl,rfl,rfl,rfl⟩:=k1
      have:=(hT.evm _ _ _ _ _ k2).2.1
      simp only at this
      exact .inl this
     ·simp only[Prod.mk.injEq] at k2
      obtain⟨rfl,rfl,rfl,rfl,rfl⟩:=k2
      have:=(hT.evm _ _ _ _ _ k1).2.1
      simp only at this
      exact .inr this
     ·exact hT.disj _ _ _ _ _ _ _ _ _ _ k1 k2 hne
    ·intro d1 m1 v1 n1 w1 m2 v2 n2 w2 h1 h2
     rcases List.mem_cons.1 h1 with k1|k1 <;> rcases List.mem_cons.1 h2 with k2|k2
     ·simp only[Prod.mk.injEq] at k1 k2
      obtain⟨_,rfl,rfl,rfl,rfl⟩:=k1
      obtain⟨_,rfl,rfl,rfl,rfl⟩:=k2
      exact⟨rfl,rfl,rfl,rfl⟩
     ·simp only[Prod.mk.injEq] at k1
      obtain⟨rfl,_⟩:=k1
      exact absurd k2 (hdT _ _ _ _)
     ·simp only[Prod.mk.injEq] at k2
      obtain⟨rfl,_⟩:=k2
      exact absurd k1 (hdT _ _ _ _)
     ·exact hT.same _ _ _ _ _ _ _ _ _ k1 k2
    ·intro i blk hi
     by_cases hl:i<nw.length
     ·rw[List.getElem?_append_left hl] at hi
      exact⟨d,m,v,s.nx,nw,i,by simp,rfl,hi⟩
     ·rw[List.getElem?_append_right (by omega)] at hi
      obtain⟨d',m',v',n0',nw',j,h1,h2,h3⟩:=hT.news _ _ hi
      simp only at h2
      exact⟨d',m',v',n0',nw',j,List.mem_cons_of_mem _ h1,by omega,h3⟩
def Mk.roots:Mk→List E
 |.box e=>[e]
 |.mks _ a b c=>[a,b,c]
 |.lits _ e=>[e]
 |.callo _ e=>[e]
 |.mkm=>[]
 |.bld _ _=>[]
 |.s2b e=>[e]
def Wr.roots:Wr→List E
 |.store _ a v=>[a,v]
 |.app _ a b=>[a,b]
 |.mset _ a b c=>[a,b,c]
 |.mclr a=>[a]
 |.mark a=>[a]
 |.panic a=>[a]
 |.calle _ e=>[e]
def Seg.ef(g:Seg):Option FuncId:=match g.wr with
 |some (_,.calle f _)=>some f
 |_=>none
def Seg.roots(g:Seg):List E:=g.mks.flatMap (·.2.roots)++(g.lets.map (·.2)++g.chk)
def Seg.wroots(g:Seg):List E:=match g.wr with|some p=>p.2.roots|none=>[]
def z3D:q2t→List (q2t×E)
 |[]=>[]
 |(e,_) :: r=>(r,e) :: z3D r
def q7N(ch:q2t)(l:List (q2t×E)):List (q2t×E):=l.map fun p=>(p.1++ch,p.2)
def Seg.subs(g:Seg):List (q2t×E):=g.roots.flatMap Vm.subs++(q7N g.wg (g.wroots.flatMap Vm.subs)++if g.wr.isSome then(z3D g.wg).flatMap (fun p=>q7N p.1 (Vm.subs p.2)) else [])
def Seg.conds(g:Seg):List (q2t×E):=g.roots.flatMap Vm.conds++(q7N g.wg (g.wroots.flatMap Vm.conds)++if g.wr.isSome then z3D g.wg++(z3D g.wg).flatMap (fun p=>q7N p.1 (Vm.conds p.2)) else [])
def q9i(l:List (q2t×E))(ch:q2t)(e:E):Bool:=l.any fun p=>decide (p.2=e)&&q79 p.1 ch
def z7i(ops:Array Oper)(R:List Rec)(sb cd:List (q2t×E))(r:Rec):Bool:=
 (match r.kd with
 |.pure e=>q9i sb r.ch e
 |_=>true) &&
 (match r.o.guard with
 |some (j,_)=>(R.all fun q=>q.i != j||(q9i cd q.ch q.x&&decide (q.i<r.i)))&&((R.any fun q=>q.i==j)||(match ops[j]? with
   |some o=>match o.dst with
    |some d=>(R.all fun q=>q.o.dst != some d)&&q9i cd [] (.sl d)
    |none=>true
   |none=>true))
 |none=>true)
def mkOf(r:Rec):Option (Nat×Mk):=match r.kd,r.o.dst with
 |.mk m,some d=>some (d,m)
 |_,_=>none
def j2q:Op→Bool
 |.pick ..=>false
 |_=>true
def q30(late:List E)(q:Rec):Bool:=match q.kd with
 |.pure e=>decide (e∈late)&&q.ch.isEmpty&&q.o.guard.isNone&&j2q q.o.op
 |_=>false
def z1U(late:List E)(R:List Rec):Bool:=R.all fun q=>!q30 late q||(reads q.o).all fun t=>R.all fun p=>decide (p.o.dst≠some t)||decide (q.i≤p.i)||q30 late p
def q9y(B:Nat→Nat→Bool)(P:Program)(ops:Array Oper)(n:Nat)(is:List Nat)(g:Seg):Bool:=
 z7L g.mks&&match recs B P ops (g.mks.map (·.1)) g.ef n is [] with
  |none=>false
  |some R=>
   let sb:=g.subs
   let cd:=g.conds
   R.all (z7i ops R sb cd)&&g.mks.all (fun p=>R.any fun r=>decide (mkOf r=some p))&&R.all (fun r=>match r.kd with
    |.mk m=>g.mks.any fun p=>decide (r.o.dst=some p.1)&&decide (p.2=m)
    |_=>true) &&
   g.lets.all (fun p=>R.any fun r=>decide (r.o.dst=some p.1)&&decide (r.kd=.pure p.2)&&r.ch.isEmpty) &&
   g.keep.all (fun t=>(g.mks.map (·.1)).contains t||R.all fun r=>decide (r.o.dst≠some t)) &&
   (match R.find? (·.isWr) with
   |some r=>match r.kd with
    |.wr x=>decide (g.wr=some (r.o.dst,x))&&decide (g.wg=r.ch)&&R.all fun q=>decide (q.i=r.i)||(!q.isWr&&(B q.i r.i||q30 g.late q))
    |_=>false
   |none=>g.wr.isNone)&&z1U g.late R
end Go.Vm
end

section
namespace Go.Vm
open Go.RowKit
structure SegOk(B:Nat→Nat→Bool)(P:Program)(ops:Array Oper)(n:Nat)(is:List Nat)(g:Seg)(R:List Rec):Prop where
 mks:z7L g.mks=true
 recs:recs B P ops (g.mks.map (·.1)) g.ef n is []=some R
 each:∀ r∈R,z7i ops R g.subs g.conds r=true
 made:∀ p∈g.mks,∃ r∈R,mkOf r=some p
 of:∀ r∈R,∀ m d,r.kd=.mk m→r.o.dst=some d→(d,m)∈g.mks
 lets:∀ p∈g.lets,∃ r∈R,r.o.dst=some p.1∧r.kd=.pure p.2∧r.ch=[]
 keep:∀ t∈g.keep,t∈g.mks.map (·.1)∨∀ r∈R,r.o.dst≠some t
 wr:(∀ r∈R,r.isWr=false)∧g.wr=none∨∃ r x,r∈R∧r.kd=.wr x∧g.wr=some (r.o.dst,x)∧g.wg=r.ch∧∀ q∈R,q.i=r.i∨(q.isWr=false∧(B q.i r.i=true∨q30 g.late q=true))
 lateN:∀ q∈R,q30 g.late q=true→∀ t∈reads q.o,∀ p∈R,p.o.dst=some t→p.i<q.i→q30 g.late p=true
theorem q8w{B:Nat→Nat→Bool}{P:Program}{ops:Array Oper}{n:Nat}{is:List Nat}{g:Seg}(h:q9y B P ops n is g=true):∃ R,SegOk B P ops n is g R:=by
 unfold q9y at h
 simp only[Bool.and_eq_true] at h
 obtain⟨h0,h⟩:=h
 cases hr:recs B P ops (g.mks.map (·.1)) g.ef n is [] with
 |none=>simp [hr] at h
 |some R=>
  simp only[hr,Bool.and_eq_true,List.all_eq_true,List.any_eq_true,decide_eq_true_eq,Bool.or_eq_true,List.contains_eq_mem] at h
  obtain⟨⟨⟨⟨⟨⟨h1,h2⟩,h3⟩,h4⟩,h5⟩,h6⟩,h7⟩:=h
  have hg:=(q40 is [] R .nil hr).1
  refine⟨R,⟨h0,hr,h1,h2,fun r hr m d hk hd=>?_,fun p hp=>?_,h5,?_,fun q hq hl t ht p hp hd hi=>?_⟩⟩
  ·have:=h3 r hr
   rw[hk] at this
   simp only[List.any_eq_true,Bool.and_eq_true,decide_eq_true_eq] at this
   obtain⟨p,hp,h1,h2⟩:=this
   rw[hd] at h1
   obtain rfl:=Option.some.inj h1
   subst h2
   exact hp
  ·obtain⟨r,hr,⟨h1,h2⟩,h3⟩:=h4 p hp
   exact⟨r,hr,h1,h2,by simpa using h3⟩
  ·cases hf:R.find? (·.isWr) with
   |none=>
    rw[hf] at h6
    exact .inl ⟨fun r hr=>by simpa using List.find?_eq_none.1 hf r hr,by simpa using h6⟩
   |some r=>
    rw[hf] at h6
    simp only at h6
    cases hk:r.kd with
    |wr x=>
     simp only[hk,Bool.and_eq_true,decide_eq_true_eq,List.all_eq_true,Bool.or_eq_true,Bool.not_eq_true'] at h6
     exact .inr ⟨r,x,List.mem_of_find?_eq_some hf,hk,h6.1.1,h6.1.2,h6.2⟩
    |pure e=>simp [hk] at h6
    |mk m=>simp [hk] at h6
  ·simp only[z1U,List.all_eq_true,Bool.or_eq_true,Bool.not_eq_true',decide_eq_true_eq] at h7
   rcases h7 q hq with h|h
   ·rw[hl] at h;cases h
   ·rcases h t ht p hp with(h|h)|h
    ·exact absurd hd h
    ·omega
    ·exact h
theorem q4v(f:V→V):∀(l:List (Nat×V))(t:Nat),look (l.map fun(t,v)=>(t,f v)) t=(look l t).map f
 |[],t=>rfl
 |(k,v) :: l,t=>by
  simp only[List.map_cons,look]
  split
  ·rfl
  ·exact q4v f l t
theorem z4b{α:Type}:∀(l:List (Nat×α))(t:Nat)(v:α),look l t=some v→(t,v)∈l
 |[],t,v,h=>by simp [look] at h
 |(k,u) :: l,t,v,h=>by
  simp only[look] at h
  split at h
  ·rename_i he;subst he;obtain rfl:=Option.some.inj h;simp
  ·exact List.mem_cons_of_mem _ (z4b l t v h)
theorem q3b(K:Cx)(s:S):∀(l:List (Nat×E))(r:List (Nat×V)),q2U K s l=some r→(∀ t v,look r t=some v→∃ e,(t,e)∈l∧ev K s e=some v)∧∀ t e,(t,e)∈l→∃ v,ev K s e=some v
 |[],r,h=>by
  obtain rfl:=Option.some.inj h
  exact⟨fun t v h=>by simp [look] at h,fun t e h=>by simp at h⟩
 |(d,e) :: l,r,h=>by
  simp only[q2U] at h
  cases he:ev K s e with
  |none=>simp [he] at h
  |some v=>
   cases hl:q2U K s l with
   |none=>simp [he,hl] at h
   |some r'=>
    simp only[he,hl,Option.some.injEq] at h
    subst h
    obtain⟨h1,h2⟩:=q3b K s l r' hl
    refine⟨fun t u hu=>?_,fun t e' h'=>?_⟩
    ·simp only[look] at hu
     split at hu
     ·rename_i ht
      subst ht
      obtain rfl:=Option.some.inj hu
      exact⟨e,by simp,he⟩
     ·obtain⟨e',h1,h2⟩:=h1 t u hu
      exact⟨e',List.mem_cons_of_mem _ h1,h2⟩
    ·rcases List.mem_cons.1 h' with h'|h'
     ·simp only[Prod.mk.injEq] at h'
      obtain⟨rfl,rfl⟩:=h'
      exact⟨v,he⟩
     ·exact h2 t e' h'
theorem z2n(K:Cx)(s:S):∀(l:List E),q6E K s l=true→∀ e∈l,∃ v,ev K s e=some v
 |[],_,e,h=>by simp at h
 |x :: l,h,e,he=>by
  simp only[q6E,Bool.and_eq_true] at h
  rcases List.mem_cons.1 he with rfl|he
  ·exact Option.isSome_iff_exists.1 h.1
  ·exact z2n K s l h.2 e he
theorem q3Y{α:Type}(a b:List (Nat×α))(t:Nat):look (a++b) t=match look a t with|some v=>some v|none=>look b t:=by
 induction a with
 |nil=>simp [look]
 |cons p a ih=>
  obtain⟨k,v⟩:=p
  simp only[List.cons_append,look]
  split
  ·rfl
  ·exact ih
theorem q0I{α:Type}(l:List (Nat×α)):∀(ts:List Nat)(t:Nat)(v:α),look (q0e l ts) t=some v→t∈ts∧look l t=some v
 |[],t,v,h=>by simp [q0e,look] at h
 |u :: ts,t,v,h=>by
  simp only[q0e] at h
  cases hu:look l u with
  |none=>
   simp only[hu] at h
   obtain⟨h1,h2⟩:=q0I l ts t v h
   exact⟨List.mem_cons_of_mem _ h1,h2⟩
  |some x=>
   simp only[hu,look] at h
   split at h
   ·rename_i he
    subst he
    exact⟨by simp,by rw[hu];exact h⟩
   ·obtain⟨h1,h2⟩:=q0I l ts t v h
    exact⟨List.mem_cons_of_mem _ h1,h2⟩
theorem q46(p:Lost)(ρ:List (Nat×V))(t:Nat)(x:V)(h:look (lose p ρ) t=some x):∃ y,look ρ t=some y∧x=q5S p y:=by
 cases p with
 |none=>exact⟨x,h,rfl⟩
 |many l=>
  cases l with
  |nil=>exact⟨x,h,rfl⟩
  |cons c r=>
   simp only[lose,forgetR] at h
   induction ρ with
   |nil=>simp [look] at h
   |cons q ρ ih=>
    obtain⟨k,v⟩:=q
    simp only[List.map_cons,look] at h ⊢
    split
    ·rename_i hk
     rw[if_pos hk] at h
     exact⟨v,rfl,(Option.some.inj h).symm⟩
    ·rename_i hk
     rw[if_neg hk] at h
     exact ih h
 |some b=>
  simp only[lose,forgetR] at h
  induction ρ with
  |nil=>simp [look] at h
  |cons q ρ ih=>
   obtain⟨k,v⟩:=q
   simp only[List.map_cons,look] at h ⊢
   split
   ·rename_i hk
    rw[if_pos hk] at h
    exact⟨v,rfl,(Option.some.inj h).symm⟩
   ·rename_i hk
    rw[if_neg hk] at h
    exact ih h
theorem q7d(p:Lost)(H:List (Nat×Blk))(b:Nat)(x:Blk)(h:look (loseH p H) b=some x):∃ y,look H b=some y:=by
 cases p with
 |none=>exact⟨x,h⟩
 |many l=>exact⟨x,h⟩
 |some c=>
  simp only[loseH,forgetH] at h
  induction H with
  |nil=>simp [look] at h
  |cons q H ih=>
   obtain⟨k,v⟩:=q
   simp only[List.map_cons,look] at h ⊢
   split
   ·exact⟨v,rfl⟩
   ·rename_i hk
    rw[if_neg hk] at h
    exact ih h
theorem z86{K:Cx}{n0:Nat}{H H':List (Nat×Blk)}{f:FuncId}{vs:List V}{bs:List Nat}{v:V}{p:Lost}{nx:Nat}(h:q9z K n0 H f vs bs=some (H',v,p,nx))(hd:∀ b blk,look H b=some blk→b<n0):(∀ b blk,look H' b=some blk→b<nx)∧n0≤nx:=by
 unfold q9z at h
 split at h
 case isFalse=>cases h
 rename_i hc
 simp only[Bool.and_eq_true,decide_eq_true_eq,List.all_eq_true] at hc
 obtain⟨_,hcl⟩:=hc
 cases h1:handed H bs with
 |none=>simp [h1] at h
 |some blks=>
  simp only[h1] at h
  cases h2:K.eff f (vs.map fun v=>v.dim.ren bs.idxOf) blks with
  |none=>simp [h2] at h
  |some q=>
   obtain⟨r0,blks',mv⟩:=q
   simp only[h2] at h
   split at h
   case isFalse=>cases h
   rename_i hle
   simp only[Option.some.injEq,Prod.mk.injEq] at h
   obtain⟨rfl,_,_,rfl⟩:=h
   refine⟨fun b blk hb=>?_,by omega⟩
   simp only[closedB,List.all_eq_true] at hcl
   by_cases him:∃ j,j<blks'.length∧q1L bs n0 j=b
   ·obtain⟨j,hj,rfl⟩:=him
    by_cases hjb:j<bs.length
    ·rw[q2x hjb]
     have:=hcl _ (List.getElem_mem hjb)
     split at this
     ·rename_i k hk
      have:=hd _ _ hk
      omega
     ·cases this
    ·rw[q3D (by omega)]
     omega
   ·rw[q3h _ _ _ _ _ (fun j hj he=>him ⟨j,hj,by rw[Nat.zero_add] at he;exact he⟩)] at hb
    obtain⟨k0,h1,_⟩:=q7c _ _ _ hb
    have:=hd _ _ h1
    omega
theorem z0J{K:Cx}{s:S}{H H':List (Nat×Blk)}{wr:Wr}{v:V}{p:Lost}{nx:Nat}(h:evWr K s H wr=some (H',v,p,nx))(hd:∀ b blk,look H b=some blk→b<s.nx):(∀ b blk,look H' b=some blk→b<nx)∧s.nx≤nx:=by
 have put_dom:∀ {c:Nat} {x y:Blk},look H c=some x→∀ b blk,look (put H c y) b=some blk→b<s.nx:=by
  intro c x y hc b blk hb
  rw[q0u] at hb
  split at hb
  ·rename_i hcb;subst hcb;exact hd _ _ hc
  ·exact hd _ _ hb
 cases wr with
 |store n a e=>
  simp only[evWr] at h
  split at h
  ·rename_i b i j x _ _
   split at h
   ·split at h
    ·rename_i blk hb
     split at h
     ·simp only[Option.some.injEq,Prod.mk.injEq] at h
      obtain⟨rfl,_,_,rfl⟩:=h
      exact⟨put_dom hb,Nat.le_refl _⟩
     ·cases h
    ·cases h
   ·cases h
  ·cases h
 |calle f e=>
  simp only[evWr] at h
  split at h
  ·split at h
   ·exact z86 h hd
   ·cases h
  ·cases h
 |mset kk m k e=>
  simp only[evWr] at h
  split at h
  ·split at h
   ·split at h
    ·rename_i blk hb
     split at h
     ·split at h
      ·simp only[Option.some.injEq,Prod.mk.injEq] at h
       obtain⟨rfl,_,_,rfl⟩:=h
       exact⟨put_dom hb,Nat.le_refl _⟩
      ·cases h
     ·cases h
    ·cases h
   ·cases h
  ·cases h
 |mark m=>
  simp only[evWr] at h
  split at h
  ·split at h
   ·split at h
    ·split at h
     ·simp only[Option.some.injEq,Prod.mk.injEq] at h
      obtain⟨rfl,_,_,rfl⟩:=h
      exact⟨hd,Nat.le_refl _⟩
     ·cases h
    ·cases h
   ·cases h
  ·cases h
 |panic m=>simp [evWr] at h
 |mclr m=>
  simp only[evWr] at h
  split at h
  ·split at h
   ·rename_i blk hb
    split at h
    ·split at h
     ·cases h
     ·simp only[Option.some.injEq,Prod.mk.injEq] at h
      obtain⟨rfl,_,_,rfl⟩:=h
      exact⟨put_dom hb,Nat.le_refl _⟩
    ·cases h
   ·cases h
  ·cases h
 |app k a e=>
  simp only[evWr] at h
  split at h
  ·split at h
   ·split at h
    ·split at h
     ·rename_i blk hb
      split at h
      ·simp only[Option.some.injEq,Prod.mk.injEq] at h
       obtain⟨rfl,_,_,rfl⟩:=h
       exact⟨put_dom hb,Nat.le_refl _⟩
      ·cases h
     ·cases h
    ·split at h
     ·simp only[Option.some.injEq,Prod.mk.injEq] at h
      obtain⟨rfl,_,_,rfl⟩:=h
      refine⟨fun b blk hb=>?_,by omega⟩
      simp only[look] at hb
      split at hb
      ·omega
      ·have:=hd _ _ hb;omega
     ·cases h
    ·cases h
   ·cases h
  ·cases h
structure Ended(K:Cx)(s s':S)(g:Seg)(s1:S)(news:List Blk)(l:List (Nat×V)):Prop where
 mks:q2A K s g.mks=some (s1,news)
 lets:q2U K s1 g.lets=some l
 chk:q6E K s1 g.chk=true
 late:z1T K s (q1V s s') s'.heap g
 wr:g.wr=none∧s'=⟨l++q0e s1.rho g.keep,addBlks s.heap s.nx news,s1.nx,s.mv⟩∨
  (∃ d wr,g.wr=some (d,wr)∧wonB K s1 g.wg=some false∧s'=⟨l++q0e s1.rho g.keep,addBlks s.heap s.nx news,s1.nx,s.mv⟩)∨
  ∃ d wr H v p nx,g.wr=some (d,wr)∧wonB K s1 g.wg=some true∧evWr K s1 (addBlks s.heap s.nx news) wr=some (H,v,p,nx)∧
   s'=⟨(match d with|some d=>(d,v) :: lose p (l++q0e s1.rho g.keep)|none=>lose p (l++q0e s1.rho g.keep)),loseH p H,nx,p.ids++s.mv⟩
theorem z3t{K:Cx}{s s':S}{g:Seg}(h:q04 K s g=some s'):∃ s1 news l,Ended K s s' g s1 news l:=by
 unfold q04 at h
 split at h
 case h_2=>cases h
 rename_i s2 hs2
 split at h
 case isFalse=>cases h
 rename_i h0
 obtain rfl:=Option.some.inj h
 have h:=hs2
 clear hs2
 unfold q5h at h
 cases h1:q2A K s g.mks with
 |none=>simp [h1] at h
 |some p=>
  obtain⟨s1,news⟩:=p
  simp only[h1] at h
  cases h2:q2U K s1 g.lets with
  |none=>simp [h2] at h
  |some l=>
   simp only[h2] at h
   split at h
   case isFalse=>cases h
   rename_i h3
   refine⟨s1,news,l,⟨h1,h2,h3,h0,?_⟩⟩
   cases h4:g.wr with
   |none=>
    simp only[h4,Option.some.injEq] at h
    exact .inl ⟨rfl,h.symm⟩
   |some q=>
    obtain⟨d,wr⟩:=q
    simp only[h4] at h
    cases hwb:wonB K s1 g.wg with
    |none=>simp [hwb] at h
    |some wb=>
    cases wb with
    |false=>
     simp only[hwb,Option.some.injEq] at h
     exact .inr (.inl ⟨d,wr,rfl,rfl,h.symm⟩)
    |true=>
    simp only[hwb] at h
    cases h5:evWr K s1 (addBlks s.heap s.nx news) wr with
    |none=>simp [h5] at h
    |some r=>
     obtain⟨H,v,p,nx⟩:=r
     simp only[h5] at h
     refine .inr (.inr ⟨d,wr,H,v,p,nx,rfl,rfl,h5,?_⟩)
     cases d with
     |none=>simp only[Option.some.injEq] at h;exact h.symm
     |some d=>simp only[Option.some.injEq] at h;exact h.symm
theorem z1w{K:Cx}{s s1:S}{g:Seg}{news:List Blk}{l:List (Nat×V)}{T:Tr}(hl:q2U K s1 g.lets=some l)(hc:q6E K s1 g.chk=true)(hT:Traced K s s1 news g.mks T):∀ e∈g.roots,∃ v,ev K s1 e=some v:=by
 intro e he
 simp only[Seg.roots,List.mem_append,List.mem_flatMap,List.mem_map] at he
 rcases he with⟨⟨d,m⟩,hp,he⟩|⟨⟨t,e'⟩,hp,rfl⟩|he
 ·obtain⟨v,n0,nw,hm⟩:=(hT.of d m).1 hp
  have hev:=(hT.evm d m v n0 nw hm).1
  have back:∀ x v,ev K ⟨s1.rho,s.heap,n0,[]⟩ x=some v→ev K s1 x=some v:=by
   intro x v hx
   have:s1=⟨s1.rho,s.heap,s1.nx,s1.mv⟩:=by rw[←hT.heap]
   rw[this,j4R _ _ _ _ n0 _ []]
   exact hx
  cases m with
  |mkm=>simp [Mk.roots] at he
  |bld t e=>simp [Mk.roots] at he
  |s2b x=>
   simp only[Mk.roots,List.mem_singleton] at he
   subst he
   simp only[evMk] at hev
   split at hev
   ·rename_i h1;exact⟨_,back _ _ h1⟩
   ·cases hev
  |box x=>
   simp only[Mk.roots,List.mem_singleton] at he
   subst he
   simp only[evMk] at hev
   cases hx:ev K ⟨s1.rho,s.heap,n0,[]⟩ e with
   |none=>simp [hx] at hev
   |some v=>exact⟨v,back _ _ hx⟩
  |mks k a b c=>
   simp only[evMk] at hev
   split at hev
   ·rename_i h1 h2 h3
    simp only[Mk.roots,List.mem_cons,List.not_mem_nil,or_false] at he
    rcases he with rfl|rfl|rfl
    ·exact⟨_,back _ _ h1⟩
    ·exact⟨_,back _ _ h2⟩
    ·exact⟨_,back _ _ h3⟩
   ·cases hev
  |lits k x=>
   simp only[Mk.roots,List.mem_singleton] at he
   subst he
   simp only[evMk] at hev
   split at hev
   ·rename_i h1;exact⟨_,back _ _ h1⟩
   ·cases hev
  |callo f x=>
   simp only[Mk.roots,List.mem_singleton] at he
   subst he
   simp only[evMk] at hev
   split at hev
   ·rename_i h1;exact⟨_,back _ _ h1⟩
   ·cases hev
 ·exact(q3b K s1 g.lets l hl).2 t e' hp
 ·exact z2n K s1 g.chk hc e he
theorem z98{K:Cx}{s s' s1:S}{g:Seg}{news:List Blk}{l:List (Nat×V)}{T:Tr}(h:Ended K s s' g s1 news l)(hT:Traced K s s1 news g.mks T):∀ e∈g.roots,∃ v,ev K s1 e=some v:=z1w h.lets h.chk hT
theorem q8h{K:Cx}{s:S}:∀ {ch:q2t},wonB K s ch=some true→Won K s ch
 |[],_=>fun p hp=>by simp at hp
 |(e,b) :: r,h=>by
  simp only[wonB] at h
  cases hr:wonB K s r with
  |none=>simp [hr] at h
  |some x=>
   cases x with
   |false=>simp [hr] at h
   |true=>
    simp only[hr] at h
    split at h
    ·rename_i k x hx
     have hxb:x=b:=by simpa using h
     subst hxb
     intro p hp
     rcases List.mem_cons.1 hp with rfl|hp
     ·exact⟨k,hx⟩
     ·exact q8h hr p hp
    ·cases h
theorem q5q{K:Cx}{s:S}:∀ {ch:q2t},wonB K s ch=some false→¬ Won K s ch
 |[],h=>by simp [wonB] at h
 |(e,b) :: r,h=>by
  simp only[wonB] at h
  intro hw
  cases hr:wonB K s r with
  |none=>simp [hr] at h
  |some x=>
   cases x with
   |false=>exact q5q hr hw.tail
   |true=>
    simp only[hr] at h
    obtain⟨k,hk⟩:=hw.head
    simp only at hk
    rw[hk] at h
    simp at h
theorem q8c{K:Cx}{s:S}:∀ {ch:q2t}{b:Bool},wonB K s ch=some b→∀ c e,(c,e)∈z3D ch→Won K s c→∃ k x,ev K s e=some (.d k (.bool x))
 |[],b,_,c,e,hm,_=>by simp [z3D] at hm
 |(e0,b0) :: r,b,h,c,e,hm,hw=>by
  simp only[wonB] at h
  simp only[z3D,List.mem_cons,Prod.mk.injEq] at hm
  cases hr:wonB K s r with
  |none=>simp [hr] at h
  |some x=>
   rcases hm with⟨rfl,rfl⟩|hm
   ·cases x with
    |false=>exact absurd hw (q5q hr)
    |true=>
     simp only[hr] at h
     split at h
     ·rename_i k x hx;exact⟨k,x,hx⟩
     ·cases h
   ·exact q8c hr c e hm hw
theorem z6U{K:Cx}{s s' s1:S}{g:Seg}{news:List Blk}{l:List (Nat×V)}(h:Ended K s s' g s1 news l)(hw:Won K s1 g.wg):∀ e∈g.wroots,∃ v,ev K s1 e=some v:=by
 intro e he
 unfold Seg.wroots at he
 rcases h.wr with⟨hwn,_⟩|⟨d,wr,hwn,hwb,_⟩|⟨d,wr,H,v,p,nx,hwn,hwb,hev,_⟩
 ·rw[hwn] at he;simp at he
 ·exact absurd hw (q5q hwb)
 ·rw[hwn] at he
  cases wr with
  |store n a b=>
   simp only[Wr.roots,List.mem_cons,List.not_mem_nil,or_false] at he
   simp only[evWr] at hev
   split at hev
   ·rename_i h1 h2
    rcases he with rfl|rfl
    ·exact⟨_,h1⟩
    ·exact⟨_,h2⟩
   ·cases hev
  |mset kk a b c=>
   simp only[Wr.roots,List.mem_cons,List.not_mem_nil,or_false] at he
   simp only[evWr] at hev
   split at hev
   ·rename_i h1 h2 h3
    rcases he with rfl|rfl|rfl
    ·exact⟨_,h1⟩
    ·exact⟨_,h2⟩
    ·exact⟨_,h3⟩
   ·cases hev
  |mark a=>
   simp only[Wr.roots,List.mem_singleton] at he
   subst he
   simp only[evWr] at hev
   split at hev
   ·rename_i h1;exact⟨_,h1⟩
   ·cases hev
  |panic a=>simp [evWr] at hev
  |mclr a=>
   simp only[Wr.roots,List.mem_singleton] at he
   subst he
   simp only[evWr] at hev
   split at hev
   ·rename_i h1;exact⟨_,h1⟩
   ·cases hev
  |calle f x=>
   simp only[Wr.roots,List.mem_singleton] at he
   subst he
   simp only[evWr] at hev
   split at hev
   ·rename_i h1;exact⟨_,h1⟩
   ·cases hev
  |app k a b=>
   simp only[Wr.roots,List.mem_cons,List.not_mem_nil,or_false] at he
   simp only[evWr] at hev
   split at hev
   ·rename_i h1 h2
    rcases he with rfl|rfl
    ·exact⟨_,h1⟩
    ·exact⟨_,h2⟩
   ·cases hev
theorem q52{K:Cx}{s:S}{l:List (q2t×E)}{ch:q2t}{e:E}(h:q9i l ch e=true)(hw:Won K s ch):∃ ch',(ch',e)∈l∧Won K s ch':=by
 simp only[q9i,List.any_eq_true,Bool.and_eq_true,decide_eq_true_eq] at h
 obtain⟨⟨ch',e'⟩,hm,rfl,hs⟩:=h
 simp only[q79,List.all_eq_true,decide_eq_true_eq] at hs
 exact⟨ch',hm,fun p hp=>hw p (hs p hp)⟩
def q0F(P:Program)(K:Cx)(ops:Array Oper)(B:Nat→Nat→Bool)(n:Nat)(R:List Rec)(g:Seg)(s s1:S)(T:Tr)(X:Nat→Nat→Prop)(base:Nat)(w0:World)(F0:Nat→Prop)(m:Nat)(σ0:Nat→Option Loc):Piece:=
 ⟨P,K,ops,B,g.mks.map (·.1),g.ef,n,R,s,s1,T,X,base,w0,F0,m,σ0⟩
theorem z1B{P:Program}{K:Cx}{ops:Array Oper}{B:Nat→Nat→Bool}{n:Nat}{is:List Nat}{R:List Rec}{g:Seg}{s s1:S}{news:List Blk}{T:Tr}{X:Nat→Nat→Prop}{base:Nat}{w0:World}{F0:Nat→Prop}{m0:Nat}{σ0:Nat→Option Loc}
  (hs:SegOk B P ops n is g R) (hroots:∀ e∈g.roots,∃ v,ev K s1 e=some v) (asks:g.wr.isSome=true→∃ b,wonB K s1 g.wg=some b) (wroots:Won K s1 g.wg→∀ e∈g.wroots,∃ v,ev K s1 e=some v) (hT:Traced K s s1 news g.mks T) (hK:K.Sound P) (hdom:∀ b blk,look s.heap b=some blk→b<s.nx):(q0F P K ops B n R g s s1 T X base w0 F0 m0 σ0).Ok:=by
 have won_app:∀ {a b:q2t},Won K s1 (a++b)→Won K s1 a∧Won K s1 b:=fun h=>⟨fun p hp=>h p (List.mem_append_left _ hp),fun p hp=>h p (List.mem_append_right _ hp)⟩
 have key:∀ ch e,(ch,e)∈g.subs→Won K s1 ch→∃ v,ev K s1 e=some v:=by
  intro ch e hm hw
  unfold Seg.subs at hm
  simp only[List.mem_append] at hm
  rcases hm with hm|hm|hm
  ·obtain⟨root,hr,hm⟩:=List.mem_flatMap.1 hm
   obtain⟨v,hv⟩:=hroots root hr
   exact z2W root v hv ch e hm hw
  ·simp only[q7N,List.mem_map] at hm
   obtain⟨⟨c1,e1⟩,hm,he⟩:=hm
   simp only[Prod.mk.injEq] at he
   obtain⟨rfl,rfl⟩:=he
   obtain⟨w1,w2⟩:=won_app hw
   obtain⟨root,hr,hm⟩:=List.mem_flatMap.1 hm
   obtain⟨v,hv⟩:=wroots w2 root hr
   exact z2W root v hv c1 e1 hm w1
  ·split at hm
   ·rename_i hs'
    obtain⟨b,hb⟩:=asks hs'
    obtain⟨⟨c0,e0⟩,h0,hm2⟩:=List.mem_flatMap.1 hm
    simp only[q7N,List.mem_map] at hm2
    obtain⟨⟨c1,e1⟩,hm3,he⟩:=hm2
    simp only[Prod.mk.injEq] at he
    obtain⟨rfl,rfl⟩:=he
    obtain⟨w1,w2⟩:=won_app hw
    obtain⟨k,x,hx⟩:=q8c hb c0 e0 h0 w2
    exact z2W e0 _ hx c1 e1 hm3 w1
   ·simp at hm
 have keyc:∀ ch e,(ch,e)∈g.conds→Won K s1 ch→∃ k b,ev K s1 e=some (.d k (.bool b)):=by
  intro ch e hm hw
  unfold Seg.conds at hm
  simp only[List.mem_append] at hm
  rcases hm with hm|hm|hm
  ·obtain⟨root,hr,hm⟩:=List.mem_flatMap.1 hm
   obtain⟨v,hv⟩:=hroots root hr
   exact z0R root v hv ch e hm hw
  ·simp only[q7N,List.mem_map] at hm
   obtain⟨⟨c1,e1⟩,hm,he⟩:=hm
   simp only[Prod.mk.injEq] at he
   obtain⟨rfl,rfl⟩:=he
   obtain⟨w1,w2⟩:=won_app hw
   obtain⟨root,hr,hm⟩:=List.mem_flatMap.1 hm
   obtain⟨v,hv⟩:=wroots w2 root hr
   exact z0R root v hv c1 e1 hm w1
  ·split at hm
   ·rename_i hs'
    obtain⟨b,hb⟩:=asks hs'
    rcases List.mem_append.1 hm with hm|hm
    ·exact q8c hb ch e hm hw
    ·obtain⟨⟨c0,e0⟩,h0,hm2⟩:=List.mem_flatMap.1 hm
     simp only[q7N,List.mem_map] at hm2
     obtain⟨⟨c1,e1⟩,hm3,he⟩:=hm2
     simp only[Prod.mk.injEq] at he
     obtain⟨rfl,rfl⟩:=he
     obtain⟨w1,w2⟩:=won_app hw
     obtain⟨k,x,hx⟩:=q8c hb c0 e0 h0 w2
     exact z0R e0 _ hx c1 e1 hm3 w1
   ·simp at hm
 refine⟨(q40 is [] R .nil hs.recs).1,hK,hT.heap,fun d=>?_,hT.put,fun d m v n0 nw hm=>hT.evm d m v n0 nw hm,hT.old,fun r hr m d hk hd=>(hT.of d m).1 (hs.of r hr m d hk hd),hT.disj,hT.same,fun r hr e hk hw=>?_,fun r hr j b hg q hq hqj hw=>?_,fun r hr j b hg=>?_,hdom,fun d hd=>?_⟩
 ·constructor
  ·intro hd
   obtain⟨⟨d',m⟩,hp,rfl⟩:=List.mem_map.1 hd
   obtain⟨v,n0,nw,hm⟩:=(hT.of d' m).1 hp
   exact⟨m,v,n0,nw,hm⟩
  ·rintro⟨m,v,n0,nw,hm⟩
   exact List.mem_map.2 ⟨(d,m),(hT.of d m).2 ⟨v,n0,nw,hm⟩,rfl⟩
 ·have:=hs.each r hr
  simp only[z7i,hk,Bool.and_eq_true] at this
  obtain⟨ch',hm,hw'⟩:=q52 this.1 hw
  exact key ch' e hm hw'
 ·have:=hs.each r hr
  simp only[z7i,hg,Bool.and_eq_true,List.all_eq_true,Bool.or_eq_true,bne_iff_ne,ne_eq] at this
  rcases this.2.1 q hq with h1|h1
  ·exact absurd hqj h1
  ·obtain⟨ch',hm,hw'⟩:=q52 h1.1 hw
   exact keyc ch' q.x hm hw'
 ·have:=hs.each r hr
  simp only[z7i,hg,Bool.and_eq_true,List.all_eq_true,Bool.or_eq_true,bne_iff_ne,ne_eq,List.any_eq_true,beq_iff_eq,decide_eq_true_eq] at this
  obtain⟨_,h1,h2⟩:=this
  rcases h2 with⟨q,hq,hqj⟩|h2
  ·exact .inl ⟨q,hq,hqj,((h1 q hq).resolve_left (fun h=>h hqj)).2⟩
  ·refine .inr fun o d ho hd=>?_
   have ho':ops[j]? = some o:=ho
   simp only[ho',hd,Bool.and_eq_true,List.all_eq_true,bne_iff_ne,ne_eq] at h2
   obtain⟨h3,h4⟩:=h2
   refine⟨h3,?_⟩
   obtain⟨ch',hm,hw'⟩:=q52 h4 (fun p hp=>by simp at hp)
   obtain⟨k,x,hx⟩:=keyc ch' _ hm hw'
   simp only[ev] at hx
   refine⟨k,x,?_⟩
   show look s.rho d=some (.d k (.bool x))
   rw[←hT.old d (fun hmm=>by
    obtain⟨p,hp,hpd⟩:=List.mem_map.1 hmm
    obtain⟨r2,hr2,hm2⟩:=hs.made p hp
    unfold mkOf at hm2
    split at hm2
    ·rename_i m2 d2 hk2 hd2
     simp only[Option.some.injEq] at hm2
     subst hm2
     simp only at hpd
     subst hpd
     exact h3 r2 hr2 hd2
    ·cases hm2)]
   exact hx
 ·obtain⟨p,hp,rfl⟩:=List.mem_map.1 hd
  obtain⟨r,hr,hm⟩:=hs.made p hp
  unfold mkOf at hm
  split at hm
  ·rename_i m d hk hdd
   simp only[Option.some.injEq] at hm
   subst hm
   exact⟨r,hr,hdd,by simp [Rec.isMk,hk]⟩
  ·cases hm
theorem j0e{P:Program}{K:Cx}{ops:Array Oper}{B:Nat→Nat→Bool}{n:Nat}{is:List Nat}{R:List Rec}{g:Seg}{s s' s1:S}{news:List Blk}{l:List (Nat×V)}{T:Tr}{X:Nat→Nat→Prop}{base:Nat}{w0:World}{F0:Nat→Prop}{m0:Nat}{σ0:Nat→Option Loc}
  (hs:SegOk B P ops n is g R) (h:Ended K s s' g s1 news l) (hT:Traced K s s1 news g.mks T) (hK:K.Sound P) (hdom:∀ b blk,look s.heap b=some blk→b<s.nx):(q0F P K ops B n R g s s1 T X base w0 F0 m0 σ0).Ok:=by
 refine z1B hs (z98 h hT) (fun hw=>?_) (fun w=>z6U h w) hT hK hdom
 rcases h.wr with⟨hn,_⟩|⟨d,wr,_,hb,_⟩|⟨d,wr,H,v,p,nx,_,hb,_⟩
 ·rw[hn] at hw;cases hw
 ·exact⟨_,hb⟩
 ·exact⟨_,hb⟩
end Go.Vm
end

section
namespace Go.Vm
open Go.RowKit
variable {c:Piece}{D:Nat→Prop}{a:Act}{w:World}{F:Nat→Prop}{σ:Nat→Option Loc}{g:Seg}{s':S}{news:List Blk}{l:List (Nat×V)}{is:List Nat}
structure Full(c:Piece)(is:List Nat)(g:Seg)(s':S)(news:List Blk)(l:List (Nat×V)):Prop where
 ok:c.Ok
 seg:SegOk c.B c.P c.ops c.n is g c.R
 ended:Ended c.K c.s s' g c.s1 news l
 traced:Traced c.K c.s c.s1 news g.mks c.T
 mds:c.mds=g.mks.map (·.1)
 ef:c.ef=g.ef
 nxm:c.m≤c.s.nx
 xm:∀ b k,c.X b k→b<c.m
structure Wrt(c:Piece)(g:Seg)(s':S)(D:Nat→Prop)(a:Act)(w:World)(F:Nat→Prop)(σ:Nat→Option Loc):Prop where
 rest:∀ r∈c.R,¬ D r.i→q30 g.late r=true
 heap:HeapRel w F c.X c.base σ s'.nx s'.heap
 glob:GlobRel w F c.K.glob
 le:c.base≤w.heap.size
 frame:Frame c.X c.base c.w0 w
 frz:∀ b,F b→c.F0 b∨c.base≤b
 size:a.tmps.size=c.n
 dfr:a.defers=c.K.dfr
 rho:∀ t v,look s'.rho t=some v→(∀ r∈c.R,¬ D r.i→r.o.dst≠some t)→RepV w F c.base σ (a.tmps.getD t undef) v
 dom:∀ b blk,look s'.heap b=some blk→b<s'.nx
 stab:∀ b l,b<c.m→c.σ0 b=some l→b∉s'.mv→σ b=some l
 nxm:c.m≤s'.nx
 xm:∀ b k,c.X b k→b<c.m
 sub:∀ b,c.F0 b→F b
 ldone:∀ q∈c.R,D q.i→q30 g.late q=true→∀ d,q.o.dst=some d→∀ v,ev c.K (q3r (q1V c.s s') (q36 c.K c.s g (q1V c.s s') s'.heap) c.s1) q.x=some v→RepV w F c.base σ (a.tmps.getD d undef) v
 lold:∀ t v,look (q3r (q1V c.s s') (q36 c.K c.s g (q1V c.s s') s'.heap) c.s1).rho t=some v→(∀ r∈c.R,D r.i→r.o.dst≠some t)→RepV w F c.base σ (a.tmps.getD t undef) v
def Stage(c:Piece)(g:Seg)(s':S)(D:Nat→Prop)(a:Act)(w:World):Prop:=
 ((∀ r∈c.R,D r.i→r.isWr=false)∧∃ F σ,Inv c D a w F σ)∨((∃ r∈c.R,D r.i∧r.isWr=true)∧∃ F σ,Wrt c g s' D a w F σ)
theorem q2C{late:List E}{q:Rec}(h:q30 late q=true):∃ e,q.kd=.pure e∧q.x=e∧e∈late∧q.ch=[]∧q.o.guard=none∧(∀ c x y,q.o.op≠.pick c x y)∧q.isWr=false∧q.isMk=false:=by
 unfold q30 at h
 split at h
 ·rename_i e hk
  simp only[Bool.and_eq_true,decide_eq_true_eq,List.isEmpty_iff,Option.isNone_iff_eq_none] at h
  obtain⟨⟨⟨h1,h2⟩,h3⟩,h4⟩:=h
  refine⟨e,hk,by simp [Rec.x,hk],h1,h2,h3,fun c x y hp=>?_,by simp [Rec.isWr,hk],by simp [Rec.isMk,hk]⟩
  rw[hp] at h4
  cases h4
 ·cases h
theorem z7V(p:Lost){x:V}(h:x.own=false):q5S p x=x:=by
 have one:∀(P:Nat→Bool) (x:V),x.own1=false→x.drop1 P=x:=by
  intro P x hx
  cases x <;> first|rfl|(simp [V.own1] at hx)
 have all:∀(P:Nat→Bool) (x:V),x.own=false→x.forget P=x:=by
  intro P x hx
  cases x with
  |agg cs=>
   simp only[V.own,List.any_eq_false] at hx
   simp only[V.forget,V.agg.injEq]
   have:cs.map (V.drop1 P)=cs.map id:=List.map_congr_left fun v hv=>one P v (by simpa using hx v hv)
   rw[this,List.map_id]
  |d c y=>rfl
  |fs c k rows=>rfl
  |fn f cs=>
   simp only[V.own,List.any_eq_false] at hx
   simp only[V.forget,V.drop1]
   rw[if_neg]
   simp only[List.any_eq_true,not_exists,not_and]
   intro v hv hr
   have:=hx v hv
   cases v <;> simp [V.own1,V.ref0] at this hr
  |_=>simp [V.own,V.own1] at hx
 cases p with
 |none=>rfl
 |some b=>exact all _ _ h
 |many l=>cases l <;> first|rfl|exact all _ _ h
theorem q7b{p:Lost}{mv:List Nat}{x:V}(hp:∀ b∈p.ids,b∈mv)(h:q5U mv x):q5S p x=x:=by
 cases x with
 |ptr b i j=>
  simp only[q5U,List.contains_eq_mem,decide_eq_false_iff_not] at h
  cases p with
  |none=>rfl
  |some id=>
   have:b≠id:=fun e=>h (hp b (by simp [Lost.ids,e]))
   simp [q5S,V.forget,V.drop1,this]
  |many l=>
   cases l with
   |nil=>rfl
   |cons a r=>
    have:¬ b∈a :: r:=fun e=>h (hp b e)
    simp [q5S,V.forget,V.drop1,this]
 |bsl b i n=>
  simp only[q5U,List.contains_eq_mem,decide_eq_false_iff_not] at h
  cases p with
  |none=>rfl
  |some id=>
   have:b≠id:=fun e=>h (hp b (by simp [Lost.ids,e]))
   simp [q5S,V.forget,V.drop1,this]
  |many l=>
   cases l with
   |nil=>rfl
   |cons a r=>
    have:¬ b∈a :: r:=fun e=>h (hp b e)
    simp [q5S,V.forget,V.drop1,this]
 |bsx b i n=>
  simp only[q5U,List.contains_eq_mem,decide_eq_false_iff_not] at h
  cases p with
  |none=>rfl
  |some id=>
   have:b≠id:=fun e=>h (hp b (by simp [Lost.ids,e]))
   simp [q5S,V.forget,V.drop1,this]
  |many l=>
   cases l with
   |nil=>rfl
   |cons a r=>
    have:¬ b∈a :: r:=fun e=>h (hp b e)
    simp [q5S,V.forget,V.drop1,this]
 |map b=>
  simp only[q5U,List.contains_eq_mem,decide_eq_false_iff_not] at h
  cases p with
  |none=>rfl
  |some id=>
   have:b≠id:=fun e=>h (hp b (by simp [Lost.ids,e]))
   simp [q5S,V.forget,V.drop1,this]
  |many l=>
   cases l with
   |nil=>rfl
   |cons a r=>
    have:¬ b∈a :: r:=fun e=>h (hp b e)
    simp [q5S,V.forget,V.drop1,this]
 |_=>exact z7V p h
theorem q4c(p:Nat→Bool):∀(H:List (Nat×Blk))(b:Nat)(blk:Blk),look (H.filter fun q=>p q.1) b=some blk→p b=true∧look H b=some blk
 |[],b,blk,h=>by simp [look] at h
 |(k,v) :: H,b,blk,h=>by
  simp only[List.filter_cons] at h
  split at h
  ·rename_i hk
   simp only[look] at h ⊢
   split at h
   ·rename_i e
    subst e
    exact⟨hk,by rw[if_pos rfl];exact h⟩
   ·rename_i e
    obtain⟨h1,h2⟩:=q4c p H b blk h
    exact⟨h1,by rw[if_neg e];exact h2⟩
  ·rename_i hk
   obtain⟨h1,h2⟩:=q4c p H b blk h
   refine⟨h1,?_⟩
   simp only[look]
   rw[if_neg (fun e=>hk (by rw[e];exact h1))]
   exact h2
theorem BlkRel.common{w:World}{F:Nat→Prop}{base:Nat}{σ:Nat→Option Loc}{b:Nat}{x y z:Blk}(h:BlkRel w F base σ b y)(hc:x.common y=some z):BlkRel w F base σ b z:=by
 unfold Blk.common at hc
 split at hc
 case h_2=>cases hc
 rename_i k rows k' rows'
 split at hc
 case isFalse=>cases hc
 obtain rfl:=Option.some.inj hc
 rcases h with⟨h1,h2⟩|⟨l,es,ck,ds,hbad,_⟩|⟨l,cs,T,h1,h2,h3,h4,h5,h6,h7⟩
 ·exact .inl ⟨by simpa [Blk.n] using h1,h2⟩
 ·cases hbad
 ·refine .inr <| .inr ⟨l,cs,T,h1,h2,h3,by simpa [Blk.n] using h4,h5,fun i row hr=>?_,rfl⟩
  simp only[Blk.row?,List.getElem?_map,Option.map_eq_some_iff] at hr
  obtain⟨q,hq,rfl⟩:=hr
  obtain⟨r,i'⟩:=q
  have hq2:rows'[i]? = some r:=by
   rw[List.getElem?_zipIdx,Option.map_eq_some_iff] at hq
   obtain⟨a,ha,he⟩:=hq
   simp only[Prod.mk.injEq] at he
   rw[ha,he.1]
  obtain⟨g1,g2⟩:=h6 i r hq2
  refine⟨by simpa [Blk.k] using g1,fun j v hv=>?_⟩
  simp only[List.getElem?_map,Option.map_eq_some_iff] at hv
  obtain⟨p,hp,rfl⟩:=hv
  obtain⟨y,j'⟩:=p
  have hp2:r[j]? = some y:=by
   rw[List.getElem?_zipIdx,Option.map_eq_some_iff] at hp
   obtain⟨a,ha,he⟩:=hp
   simp only[Prod.mk.injEq] at he
   rw[ha,he.1]
  obtain⟨v,v1,v2,v3⟩:=g2 j y hp2
  refine⟨v,v1,v2,?_⟩
  simp only
  split
  ·split
   ·exact v3
   ·exact .junk _
  ·exact .junk _
theorem z5z{K:Cx}{s s' s1:S}{g:Seg}{news:List Blk}{l:List (Nat×V)}(h:Ended K s s' g s1 news l)(hnx:s.nx≤s1.nx)(hdom:∀ b blk,look s.heap b=some blk→b<s.nx){b:Nat}{blk:Blk}(hb:look (q36 K s g (q1V s s') s'.heap) b=some blk):∃ blk0,look s'.heap b=some blk0∧(blk=blk0∨∃ x:Blk,x.common blk0=some blk):=by
 unfold q36 at hb
 have none:∀ {b:Nat} {blk:Blk},look ([]:List (Nat×Blk)) b=some blk→False:=fun h=>by simp [look] at h
 split at hb
 case h_3=>exact(none hb).elim
 case h_2=>
  rename_i d0 nn ea ee s2 news2 hg hm
  rw[h.mks] at hm
  obtain⟨rfl,rfl⟩:=Prod.mk.inj (Option.some.inj hm)
  split at hb
  case isFalse=>exact(none hb).elim
  split at hb
  case h_2=>exact(none hb).elim
  rename_i bt it jt hpt
  obtain⟨hne,hl⟩:=q4c (fun b=>b != bt) _ _ _ hb
  have hbn:=hdom _ _ hl
  have hadd:look (addBlks s.heap s.nx news) b=some blk:=by rw[q1S,if_neg (by omega)];exact hl
  have hne':b≠bt:=by simpa using hne
  rcases h.wr with⟨hw0,_⟩|⟨d,wr,hw0,_,he⟩|⟨d,wr,H,v,p,nx,hw0,_,hev,he⟩
  ·rw[hg] at hw0;cases hw0
  ·subst he;exact⟨blk,hadd,.inl rfl⟩
  ·rw[hg] at hw0
   simp only[Option.some.injEq,Prod.mk.injEq] at hw0
   obtain⟨rfl,rfl⟩:=hw0
   simp only[evWr,hpt] at hev
   split at hev
   case h_2=>cases hev
   rename_i hx1 hx2
   simp only[Option.some.injEq,V.ptr.injEq] at hx1
   obtain⟨rfl,rfl,rfl⟩:=hx1
   split at hev
   case isFalse=>cases hev
   split at hev
   case h_2=>cases hev
   split at hev
   case h_2=>cases hev
   simp only[Option.some.injEq,Prod.mk.injEq] at hev
   obtain⟨rfl,_,rfl,_⟩:=hev
   rw[he]
   simp only[loseH]
   rw[q0u,if_neg (fun e=>hne' e.symm)]
   exact⟨blk,hadd,.inl rfl⟩
 rename_i d0 f args s2 news2 hg hm
 rw[h.mks] at hm
 obtain⟨rfl,rfl⟩:=Prod.mk.inj (Option.some.inj hm)
 split at hb
 case h_2=>exact(none hb).elim
 rename_i vs hvs
 split at hb
 case h_2=>exact(none hb).elim
 rename_i f' ws hcal
 have hf:=q48 (fun b=>z1V s.heap s'.heap (!(q03 (addBlks s.heap s.nx news) (refN (addBlks s.heap s.nx news)+64) [] (refsL ws)).contains b&&(decide (q1V s s'=[])||q4X s.heap b)) b) _ _ _ hb
 simp only[z1V] at hf
 split at hf
 case isFalse=>
  split at hf
  ·rename_i x y hx hy
   exact⟨y,hy,.inr ⟨x,hf⟩⟩
  ·cases hf
 rename_i hnc
 have hl:=hf
 rw[Bool.and_eq_true,Bool.or_eq_true,decide_eq_true_eq] at hnc
 obtain⟨hnc,hst⟩:=hnc
 refine⟨blk,?_,.inl rfl⟩
 have hbn:=hdom _ _ hl
 have hadd:look (addBlks s.heap s.nx news) b=some blk:=by rw[q1S,if_neg (by omega)];exact hl
 rcases h.wr with⟨hw0,_⟩|⟨d,wr,hw0,_,he⟩|⟨d,wr,H,v,p,nx,hw0,_,hev,he⟩
 ·rw[hg] at hw0;cases hw0
 ·subst he;exact hadd
 ·rw[hg] at hw0
  simp only[Option.some.injEq,Prod.mk.injEq] at hw0
  obtain⟨rfl,rfl⟩:=hw0
  simp only[evWr,hvs,hcal] at hev
  unfold q9z at hev
  split at hev
  case isFalse=>cases hev
  split at hev
  case h_2=>cases hev
  split at hev
  case h_2=>cases hev
  rename_i r blks' mv' heff
  split at hev
  case isFalse=>cases hev
  simp only[Option.some.injEq,Prod.mk.injEq] at hev
  obtain⟨rfl,_,rfl,rfl⟩:=hev
  have hids:mv'.map (q1L (q03 (addBlks s.heap s.nx news) (refN (addBlks s.heap s.nx news)+64) [] (refsL ws)) s1.nx)=[]∨blk.still=true:=by
   rcases hst with hmv|hst
   ·rw[he,z7F] at hmv
    exact .inl hmv
   ·right
    unfold q4X at hst
    rw[hl] at hst
    exact hst
  rw[he]
  simp only[loseH]
  rw[q3h _ _ _ _ _ (fun j hj e=>?_)]
  ·exact q7R hadd hids
  ·rw[Nat.zero_add] at e
   by_cases hj2:j<(q03 (addBlks s.heap s.nx news) (refN (addBlks s.heap s.nx news)+64) [] (refsL ws)).length
   ·rw[q2x hj2] at e
    have:(q03 (addBlks s.heap s.nx news) (refN (addBlks s.heap s.nx news)+64) [] (refsL ws)).contains b=true:=by
     rw[←e];simp [List.contains_eq_mem]
    rw[this] at hnc
    cases hnc
   ·rw[q3D (by omega)] at e
    omega
theorem z3y{l:List Nat}{H:List (Nat×Blk)}{s:S}{t:Nat}{v:V}(h:look (q3r l H s).rho t=some v):∃ u,look s.rho t=some u∧(v=u∧q5U l u∨v=.junk):=by
 simp only[q3r] at h
 rw[q4v,Option.map_eq_some_iff] at h
 obtain⟨u,hu,rfl⟩:=h
 refine⟨u,hu,?_⟩
 cases u with
 |ptr b i j=>
  simp only[q35]
  split
  ·exact .inr rfl
  ·rename_i hb;exact .inl ⟨rfl,by simpa [q5U] using hb⟩
 |bsl b i n=>
  simp only[q35]
  split
  ·exact .inr rfl
  ·rename_i hb;exact .inl ⟨rfl,by simpa [q5U] using hb⟩
 |bsx b i n=>
  simp only[q35]
  split
  ·exact .inr rfl
  ·rename_i hb;exact .inl ⟨rfl,by simpa [q5U] using hb⟩
 |map b=>
  simp only[q35]
  split
  ·exact .inr rfl
  ·rename_i hb;exact .inl ⟨rfl,by simpa [q5U] using hb⟩
 |_=>first|exact .inl ⟨rfl,rfl⟩|exact .inr rfl
theorem Full.nx(h:Full c is g s' news l):c.s.nx≤c.s1.nx:=by rw[h.traced.nx];omega
theorem z2A(hok:c.Ok)(hT0:Traced c.K c.s c.s1 news g.mks c.T)(hi:Inv c D a w F σ)(hall:∀ r∈c.R,r.isMk=true→D r.i):HeapRel w F c.X c.base σ c.s1.nx (addBlks c.s.heap c.s.nx news):=by
 refine⟨fun b blk hb=>?_,hi.heap.inj,hi.heap.own,hi.heap.fro⟩
 rw[q1S] at hb
 split at hb
 ·rename_i hr
  obtain⟨d,m,v,n0,nw,j,hT,he,hj⟩:=hT0.news _ _ hb
  have:b=n0+j:=by omega
  subst this
  have hmd:d∈c.mds:=(hok.mds d).2 ⟨m,v,n0,nw,hT⟩
  obtain⟨r,hr,hd,hm⟩:=hok.covers d hmd
  exact hi.made d m v n0 nw hT ⟨r,hr,hall r hr hm,hd⟩ j blk hj
 ·exact hi.heap.blk b blk hb
theorem z4C(h:Full c is g s' news l)(hi:Inv c D a w F σ)(hall:∀ r∈c.R,r.isMk=true→D r.i):HeapRel w F c.X c.base σ c.s1.nx (addBlks c.s.heap c.s.nx news):=z2A h.ok h.traced hi hall
theorem z0Z(h:Full c is g s' news l):∀ b blk,look (addBlks c.s.heap c.s.nx news) b=some blk→b<c.s1.nx:=by
 intro b blk hb
 rw[q1S] at hb
 split at hb
 ·have:=h.traced.nx;omega
 ·have:=h.ok.dom b blk hb;have:=h.nx;omega
theorem z9o(h:Full c is g s' news l)(hi:Inv c D a w F σ)(hall:∀ r∈c.R,r.isMk=true→D r.i)(hwr:∀ r∈c.R,D r.i→r.isWr=false) :
  ∀ t v,look (l++q0e c.s1.rho g.keep) t=some v→(∀ r∈c.R,¬ D r.i→r.isWr=false→r.o.dst≠some t)→RepV w F c.base σ (a.tmps.getD t undef) v:=by
 intro t v hv hnp
 rw[q3Y] at hv
 cases hl:look l t with
 |some u=>
  rw[hl] at hv
  obtain rfl:=Option.some.inj hv
  obtain⟨e,he,hev⟩:=(q3b _ _ _ _ h.ended.lets).1 t u hl
  obtain⟨r,hr,hd,hk,hch⟩:=h.seg.lets _ he
  have hw:r.isWr=false:=by simp [Rec.isWr,hk]
  have hrD:D r.i:=Classical.byContradiction fun hn=>hnp r hr hn hw hd
  refine(hi.done r hr hrD t hd hw).1 (by rw[hch];exact fun p hp=>by simp at hp) u ?_
  have:r.x=e:=by simp [Rec.x,hk]
  rw[this]
  exact hev
 |none=>
  rw[hl] at hv
  simp only at hv
  obtain⟨hk,hv⟩:=q0I _ _ _ _ hv
  by_cases hm:t∈c.mds
  ·obtain⟨r,hr,hd,hmk⟩:=h.ok.covers t hm
   obtain⟨later,done,_,hg⟩:=h.ok.good.split hr
   cases hg with
   |cons _ _ _ _ _ hch hn=>
    obtain⟨_,_,hgu,_,_⟩:=q0P hn
    have hgn:r.o.guard=none:=by
     cases hgd:r.o.guard with
     |none=>rfl
     |some jb=>simp [q8H,hgd,hmk] at hgu
    rw[hgn] at hch
    simp only[q53,Option.some.injEq] at hch
    have hw:r.isWr=false:=by
     unfold Rec.isMk at hmk
     unfold Rec.isWr
     split at hmk
     ·rename_i hk;rw[hk]
     ·cases hmk
    refine(hi.done r hr (hall r hr hmk) t hd hw).1 (by rw[←hch];exact fun p hp=>by simp at hp) v ?_
    have:r.x=.sl t:=by
     unfold Rec.isMk at hmk
     unfold Rec.x
     split at hmk
     ·rename_i hk;rw[hk];simp [hd]
     ·cases hmk
    rw[this]
    simpa only[ev] using hv
  ·rcases h.seg.keep t hk with h1|h1
   ·exact absurd (by rw[h.mds];exact h1) hm
   ·exact hi.old t v (by rw[←h.ok.old t hm];exact hv) (fun r hr _=>h1 r hr)
theorem q4Y(h:Full c is g s' news l)(hs:Stage c g s' D a w)(hall:∀ r∈c.R,D r.i):∃ F σ,StRel c.K c.X c.base c.w0 c.F0 c.m c.σ0 c.n s' a w F σ:=by
 rcases hs with⟨hno,F,σ,hi⟩|⟨_,hst⟩
 ·refine⟨F,σ,?_⟩
  have hnone:g.wr=none:=by
   rcases h.seg.wr with⟨_,hw⟩|⟨r,x,hr,hk,_,_⟩
   ·exact hw
   ·have:=hno r hr (hall r hr)
    simp [Rec.isWr,hk] at this
  rcases h.ended.wr with⟨_,he⟩|⟨d,wr,hw,_⟩|⟨d,wr,H,v,p,nx,hw,_⟩
  ·have hall':∀ r∈c.R,r.isMk=true→D r.i:=fun r hr _=>hall r hr
   subst he
   exact⟨z4C h hi hall',hi.glob,hi.le,hi.frame,hi.frz,hi.size,hi.dfr,fun t v hv=>z9o h hi hall' hno t v hv (fun r hr hn=>absurd (hall r hr) hn),z0Z h,hi.stab,Nat.le_trans h.nxm h.nx,h.xm,hi.sub⟩
  ·rw[hnone] at hw;cases hw
  ·rw[hnone] at hw;cases hw
 ·obtain⟨F,σ,hw⟩:=hst
  exact⟨F,σ,hw.heap,hw.glob,hw.le,hw.frame,hw.frz,hw.size,hw.dfr,fun t v hv=>hw.rho t v hv (fun r hr hn=>absurd (hall r hr) hn),hw.dom,hw.stab,hw.nxm,hw.xm,hw.sub⟩
theorem z8b(h:Full c is g s' news l){r:Rec}(hr:r∈c.R)(hl:q30 g.late r=true){t:Nat}(hd:r.o.dst=some t){u:V}(hu:look s'.rho t=some u):ev c.K (q3r (q1V c.s s') (q36 c.K c.s g (q1V c.s s') s'.heap) c.s1) r.x=some u:=by
 obtain⟨e,hk,hx,hel,hch0,hgn,hnp,hwr,hmk⟩:=q2C hl
 obtain⟨val,hv1,hv2,hvo⟩:=h.ended.late e hel _ _ h.ended.mks
 have same:∀ r2∈c.R,r2.o.dst=some t→r2=r:=by
  intro r2 hr2 hd2
  by_cases hri:r2.i=r.i
  ·exact h.ok.good.inj r2 hr2 r hr hri
  ·exact absurd hd (q5j h.ok hr2 hr hri hd2)
 have base:∀ u,look (l++q0e c.s1.rho g.keep) t=some u→u=val:=by
  intro u hu
  rw[q3Y] at hu
  cases hl2:look l t with
  |some u2=>
   rw[hl2] at hu
   obtain rfl:=Option.some.inj hu
   obtain⟨e2,he2,hev⟩:=(q3b _ _ _ _ h.ended.lets).1 t u2 hl2
   obtain⟨r2,hr2,hd2,hk2,_⟩:=h.seg.lets _ he2
   obtain rfl:=same r2 hr2 hd2
   rw[hk] at hk2
   simp only[Kd.pure.injEq] at hk2
   subst hk2
   rw[hv2] at hev
   exact(Option.some.inj hev).symm
  |none=>
   rw[hl2] at hu
   obtain⟨hkp,_⟩:=q0I _ _ _ _ hu
   rcases h.seg.keep t hkp with h1|h1
   ·obtain⟨r2,hr2,hd2,hm2⟩:=h.ok.covers t (by rw[h.mds];exact h1)
    obtain rfl:=same r2 hr2 hd2
    rw[hmk] at hm2;cases hm2
   ·exact absurd hd (h1 r hr)
 have fin:∀ u,u=val→ev c.K (q3r (q1V c.s s') (q36 c.K c.s g (q1V c.s s') s'.heap) c.s1) r.x=some u:=fun u hu=>by rw[hu,hx];exact hv1
 have keepv:∀ p:Lost,(∀ b∈p.ids,b∈q1V c.s s')→q5S p val=val:=fun p hp=>q7b hp hvo
 rcases h.ended.wr with⟨_,he⟩|⟨d,wr,hw0,_,he⟩|⟨d,wr,H,v,p,nx,hw0,_,_,he⟩
 ·subst he;exact fin u (base u hu)
 ·subst he;exact fin u (base u hu)
 ·subst he
  have old:look (lose p (l++q0e c.s1.rho g.keep)) t=some u→u=val:=by
   intro hu
   obtain⟨y,hy,rfl⟩:=q46 _ _ _ _ hu
   obtain rfl:=base y hy
   exact keepv p fun b hb=>by simpa [q1V] using hb
  cases d with
  |none=>exact fin u (old hu)
  |some d=>
   simp only[look] at hu
   split at hu
   ·rename_i hdt
    subst hdt
    rcases h.seg.wr with⟨_,hn⟩|⟨r0,x0,hR0,hk0,hg0,_⟩
    ·rw[hn] at hw0;cases hw0
    ·rw[hg0] at hw0
     simp only[Option.some.injEq,Prod.mk.injEq] at hw0
     have h0:r0∈c.R:=hR0
     obtain rfl:=same r0 h0 hw0.1
     rw[hk0] at hk;cases hk
   ·exact fin u (old hu)
theorem z8m(h:Full c is g s' news l)(hw:Wrt c g s' D a w F σ){r:Rec}{later done:List Rec}(hR:c.R=later++r :: done)(hg:Good c.B c.P c.ops c.mds c.ef c.n (r :: done))(hD:¬ D r.i)(hl:q30 g.late r=true)(hdown:∀ q∈c.R,D q.i→∀ p∈c.R,c.B p.i q.i=true→D p.i)(hpre:∀ q∈c.R,c.B q.i r.i=true→D q.i)
  {x:Operand} (hx:(x,r.ch)∈q7Q c.P (q0Z done) r.o r.ch) (hxo:x∈r.o.op.operands.toList):Held c.P c.K (q3r (q1V c.s s') (q36 c.K c.s g (q1V c.s s') s'.heap) c.s1) (q0Z done) w F c.base σ a x:=by
 have hmem:r∈c.R:=by rw[hR];simp
 have hlN:=h.seg.lateN r hmem hl
 cases hg with
 |cons _ _ hgd hop hkd hch hn=>
  obtain⟨hneeds,hdst,_,_,hall⟩:=q0P hn
  have hdone:∀ q∈done,q∈c.R:=fun q hq=>by rw[hR];simp [hq]
  cases x with
  |const v=>exact q7l
  |global g=>exact q8V hw.glob
  |func f=>exact q8W
  |tmp t=>
   have hreads:t∈reads r.o:=by
    simp only[reads,List.mem_filterMap]
    exact⟨.tmp t,hxo,rfl⟩
   refine z0C fun v hv=>?_
   simp only[z0r,List.all_eq_true] at hneeds
   have hnt:=hneeds (.tmp t,r.ch) hx
   simp only at hnt
   rcases z4c (done:=done) (t:=t) with⟨q,hq,hqd,hfind,hlook⟩|⟨hno,hfind,hlook⟩
   ·rw[hfind] at hnt
    simp only[Bool.and_eq_true] at hnt
    have hget:Env.get (q0Z done) t=q.x:=by simp [Env.get,hlook]
    rw[hget] at hv
    have hqD:=hpre q (hdone q hq) hnt.1
    exact hw.ldone q (hdone q hq) hqD (hlN t hreads q (hdone q hq) hqd (hall q hq).1) t hqd v hv
   ·have hget:Env.get (q0Z done) t=.sl t:=by simp [Env.get,hlook]
    rw[hget] at hv
    simp only[ev] at hv
    refine hw.lold t v hv fun q hq hqD hqd=>?_
    rw[hR] at hq
    rcases List.mem_append.1 hq with hq|hq
    ·obtain⟨l1,l2,rfl⟩:=List.append_of_mem hq
     have hg2:Good c.B c.P c.ops c.mds c.ef c.n (q :: (l2++r :: done)):=by
      have:=h.ok.good
      rw[hR] at this
      simp only[List.append_assoc,List.cons_append] at this
      exact this.suffix
     have hqR:q∈c.R:=by rw[hR];simp
     cases hg2 with
     |cons _ _ _ _ _ _ hn2=>
      have h2:=(q0P hn2).2.1
      simp only[z3c,hqd,Bool.and_eq_true,List.all_eq_true] at h2
      have h3:=(h2.1.2 r (by simp)).2
      simp only[Bool.or_eq_true,Bool.not_eq_true',Bool.and_eq_true] at h3
      rcases h3 with h3|h3
      ·rw[List.contains_eq_mem,decide_eq_false_iff_not] at h3
       exact absurd hreads h3
      ·exact hD (hdown q hqR hqD r hmem h3.1)
    ·rcases List.mem_cons.1 hq with rfl|hq
     ·exact hD hqD
     ·exact hno q hq hqd
theorem q4n(h:Full c is g s' news l)(hs:Stage c g s' D a w){r:Rec}(hr:r∈c.R)(hD:¬ D r.i)(hdown:∀ q∈c.R,D q.i→∀ p∈c.R,c.B p.i q.i=true→D p.i)(hpre:∀ q∈c.R,c.B q.i r.i=true→D q.i)
  {Kn:Act→World→Prop} {Q:Exit→Act→World→Prop} (hK:∀ a w,Stage c g s' (plus D r.i) a w→Kn a w):wpOp c.P c.ops Q r.i Kn a w:=by
 -- a write comes last
 have lastwr:∀ q∈c.R,q.isWr=true→∀ p∈c.R,p≠q→p.isWr=false∧(c.B p.i q.i=true∨q30 g.late p=true):=by
  intro q hq hqw p hp hne
  rcases h.seg.wr with⟨hn,_⟩|⟨r0,x,hR,hk,_,_,hb⟩
  ·rw[hn q hq] at hqw;cases hqw
  ·have hq0:q=r0:=by
    rcases hb q hq with e|⟨e,_⟩
    ·exact h.ok.good.inj q hq r0 hR e
    ·rw[e] at hqw;cases hqw
   subst hq0
   rcases hb p hp with e|e
   ·exact absurd (h.ok.good.inj p hp q hq e) hne
   ·exact e
 rcases hs with⟨hno,F,σ,hi⟩|⟨⟨q,hq,hqD,hqw⟩,F,σ,hw⟩
 ·cases hw:r.isWr with
  |false=>
   refine z66 h.ok hi hno hr hw hD hdown hpre fun a w F σ hi'=>hK a w (.inl ⟨fun q hq hqD=>?_,F,σ,hi'⟩)
   rcases hqD with hqD|hqi
   ·exact hno q hq hqD
   ·obtain rfl:=h.ok.good.inj q hq r hr hqi
    exact hw
  |true=>
   have hall:∀ q∈c.R,q.isMk=true→D q.i:=by
    intro q hq hqm
    have hne:q≠r:=by
     rintro rfl
     unfold Rec.isMk at hqm
     unfold Rec.isWr at hw
     split at hqm
     ·rename_i hk;rw[hk] at hw;cases hw
     ·cases hqm
    rcases(lastwr r hr hw q hq hne).2 with hb|hb
    ·exact hpre q hq hb
    ·rw[(q2C hb).choose_spec.2.2.2.2.2.2.2] at hqm;cases hqm
   have hrest:∀ q∈c.R,¬ plus D r.i q.i→q30 g.late q=true:=by
    intro q hq hqn
    have hne:q≠r:=by rintro rfl;exact hqn (.inr rfl)
    rcases(lastwr r hr hw q hq hne).2 with hb|hb
    ·exact absurd (.inl (hpre q hq hb)) hqn
    ·exact hb
   have hnr:∀ t,(∀ q∈c.R,¬ plus D r.i q.i→q.o.dst≠some t)→∀ q∈c.R,¬ D q.i→q.isWr=false→q.o.dst≠some t:=by
    intro t ht q hq hqD hqw
    refine ht q hq ?_
    rintro(h1|h1)
    ·exact hqD h1
    ·obtain rfl:=h.ok.good.inj q hq r hr h1
     rw[hw] at hqw;cases hqw
   have ldI:∀ q∈c.R,plus D r.i q.i→q30 g.late q=true→∀ d,q.o.dst=some d→r.o.dst≠some d∧∀ v,ev c.K (q3r (q1V c.s s') (q36 c.K c.s g (q1V c.s s') s'.heap) c.s1) q.x=some v→RepV w F c.base σ (a.tmps.getD d undef) v∧q5U (q1V c.s s') v:=by
    intro q hq hqD hl d hd
    obtain⟨e,hk,hx,hel,hch0,hgn,hnp,hwr,hmk⟩:=q2C hl
    have hne:q.i≠r.i:=fun he=>by
     obtain rfl:=h.ok.good.inj q hq r hr he
     rw[hw] at hwr;cases hwr
    refine⟨q5j h.ok hq hr hne hd,fun v hv=>?_⟩
    obtain⟨val,hv1,hv2,hvo⟩:=h.ended.late e hel _ _ h.ended.mks
    rw[hx,hv1] at hv
    obtain rfl:=Option.some.inj hv
    exact⟨(hi.done q hq (hqD.resolve_right hne) d hd hwr).1 (by rw[hch0];exact fun p hp=>by simp at hp) _ (by rw[hx];exact hv2),hvo⟩
   have loI:∀ t v,look (q3r (q1V c.s s') (q36 c.K c.s g (q1V c.s s') s'.heap) c.s1).rho t=some v→(∀ q∈c.R,plus D r.i q.i→q.o.dst≠some t)→RepV w F c.base σ (a.tmps.getD t undef) v∧(q5U (q1V c.s s') v∨v=.junk):=by
    intro t v hv hno'
    obtain⟨u,hu,hvu⟩:=z3y hv
    rcases hvu with⟨rfl,huo⟩|rfl
    ·refine⟨hi.old t v ?_ (fun q hq hqD=>hno' q hq (.inl hqD)),.inl huo⟩
     rw[←h.ok.old t fun hm=>?_]
     ·exact hu
     ·obtain⟨q,hq,hqd,hqm⟩:=h.ok.covers t hm
      exact hno' q hq (.inl (hall q hq hqm)) hqd
    ·exact⟨.junk _,.inr rfl⟩
   have hput:∀(vv:Value) t,r.o.dst≠some t→(a.put r.o.dst vv).tmps.getD t undef=a.tmps.getD t undef:=by
    intro vv t hne
    cases hd:r.o.dst with
    |none=>rfl
    |some d=>rw[q4K (by rw[hi.size];exact q7K h.ok hr hd),if_neg (fun e=>hne (by rw[hd,e]))]
   have hheap:=z4C h hi hall
   have hrho:=z9o h hi hall hno
   have hdom:=z0Z h
   obtain⟨later,done,hR,hg⟩:=h.ok.good.split hr
   have hheld:=fun x ch hx hxo hw=>z3l h.ok hi hno (x:=x) (ch:=ch) hR hg hD hdown hpre hx hxo hw
   have hwant:=q6W h.ok hi hno hr hpre
   cases hg with
   |cons _ _ hgd hop hkd hch hn=>
    obtain⟨_,hdst,hgu,_,_⟩:=q0P hn
    unfold wpOp
    rw[hop]
    simp only
    obtain⟨x,hk⟩:∃ x,r.kd=.wr x:=by
     unfold Rec.isWr at hw
     split at hw
     ·rename_i x hk;exact⟨x,hk⟩
     ·cases hw
    have hgw2:g.wr=some (r.o.dst,x)∧g.wg=r.ch:=by
     rcases h.seg.wr with⟨hn,_⟩|⟨r0,x0,hR0,hk0,hg0,hg1,_⟩
     ·rw[hn r hr] at hw;cases hw
     ·have h0:r0∈c.R:=hR0
      by_cases he:r0=r
      ·subst he
       rw[hk] at hk0
       simp only[Kd.wr.injEq] at hk0
       rw[hk0]
       exact⟨hg0,hg1⟩
      ·have:=(lastwr r hr hw r0 h0 he).1
       simp [Rec.isWr,hk0] at this
    obtain⟨hgw,hgc⟩:=hgw2
    rcases h.ended.wr with⟨hn,_⟩|⟨d,wr,hw0,hwb,he⟩|⟨d,wr,H,v,p,nx,hw0,hwb,hev,he⟩
    ·rw[hgw] at hn;cases hn
    ·-- the write is not asked for
     rw[hgc] at hwb
     rw[if_neg (fun hh=>q5q hwb (hwant.1 hh))]
     refine hK _ _ (.inr ⟨⟨r,hr,.inr rfl,hw⟩,F,σ,?_⟩)
     subst he
     refine⟨hrest,hheap,hi.glob,hi.le,hi.frame,hi.frz,by rw[q6b];exact hi.size,by rw[q4x];exact hi.dfr,fun t u hu hnq=>?_,hdom,hi.stab,Nat.le_trans h.nxm h.nx,h.xm,hi.sub,fun q hq hqD hl d hd v hv=>?_,fun t v hv hno'=>?_⟩
     ·have hne:r.o.dst≠some t:=by
       intro hdt
       rw[q3Y] at hu
       cases hl:look l t with
       |some u2=>
        obtain⟨e,he2,_⟩:=(q3b _ _ _ _ h.ended.lets).1 t u2 hl
        obtain⟨r2,hr2,hd2,hk2,_⟩:=h.seg.lets _ he2
        have:r2=r:=by
         by_cases hri:r2.i=r.i
         ·exact h.ok.good.inj r2 hr2 r hr hri
         ·exact absurd hdt (q5j h.ok hr2 hr hri hd2)
        rw[this,hk] at hk2
        cases hk2
       |none=>
        rw[hl] at hu
        obtain⟨hkp,_⟩:=q0I _ _ _ _ hu
        rcases h.seg.keep t hkp with h1|h1
        ·obtain⟨r2,hr2,hd2,hm2⟩:=h.ok.covers t (by rw[h.mds];exact h1)
         have:r2=r:=by
          by_cases hri:r2.i=r.i
          ·exact h.ok.good.inj r2 hr2 r hr hri
          ·exact absurd hdt (q5j h.ok hr2 hr hri hd2)
         rw[this] at hm2
         simp [Rec.isMk,hk] at hm2
        ·exact h1 r hr hdt
      rw[hput _ t hne]
      exact hrho t u hu (hnr t hnq)
     ·obtain⟨h1,h2⟩:=ldI q hq hqD hl d hd
      rw[hput _ d h1]
      exact(h2 v hv).1
     ·rw[hput _ t (hno' r hr (.inr rfl))]
      exact(loI t v hv hno').1
    ·rw[hgw] at hw0
     have hwon:Won c.K c.s1 r.ch:=by rw[←hgc];exact q8h hwb
     rw[if_pos (hwant.2 hwon)]
     refine .inl ?_
     simp only[Option.some.injEq,Prod.mk.injEq] at hw0
     obtain⟨rfl,rfl⟩:=hw0
     have hops:∀ y∈r.o.op.operands.toList,Held c.P c.K c.s1 (q0Z done) w F c.base σ a y:=by
      intro y hy
      refine hheld y r.ch ?_ hy hwon
      have hnp:∀ cc x y,r.o.op≠.pick cc x y:=by
       intro cc x y hp
       rw[hk] at hkd
       simp only[kdOf] at hkd
       split at hkd
       ·cases hm:mkK c.P (q0Z done) r.o <;> simp [hm] at hkd
       ·split at hkd
        ·simp [effK,hp] at hkd
        ·split at hkd
         ·simp at hkd
         ·simp [wrK,q6a,appK,z1M,panK,mapK,hp] at hkd
      unfold q7Q
      split
      ·rename_i hp;exact absurd hp (hnp _ _ _)
      ·exact List.mem_map.2 ⟨y,hy,rfl⟩
     have hwk:(∃ f e,x=.calle f e∧effK c.P (q0Z done) r.o=some (f,e))∨wrK c.P (q0Z done) r.o=some x:=by
      rw[hk] at hkd
      simp only[kdOf] at hkd
      split at hkd
      ·cases hm:mkK c.P (q0Z done) r.o <;> simp [hm] at hkd
      ·split at hkd
       ·cases hm:effK c.P (q0Z done) r.o with
        |none=>simp [hm] at hkd
        |some y=>
         obtain⟨f,e⟩:=y
         simp only[hm,Option.map_some,Option.some.injEq,Kd.wr.injEq] at hkd
         exact .inl ⟨f,e,hkd.symm,rfl⟩
       ·split at hkd
        ·simp at hkd
        ·cases hm:wrK c.P (q0Z done) r.o with
         |none=>simp [hm] at hkd
         |some y=>
          simp only[hm,Option.map_some,Option.some.injEq,Kd.wr.injEq] at hkd
          exact .inr (by rw[hkd])
     obtain⟨hdom',hnx'⟩:=z0J hev hdom
     have fin:∀ vv w' F' σ',Wrote w w' F F' c.X c.base σ σ' p nx H→(r.o.dst.isSome→RepV w' F' c.base σ' vv v)→Kn (a.put r.o.dst vv) w':=by
      intro vv w' F' σ' hwr hres
      refine hK _ _ (.inr ⟨⟨r,hr,.inr rfl,hw⟩,F',σ',?_⟩)
      subst he
      have hFw:∀ b,F b→F' b∧w'.heap[b]? = w.heap[b]?:=hwr.froz
      refine⟨hrest,hwr.heap,hi.glob.mono hFw,Nat.le_trans hi.le hwr.frame.size,hi.frame.trans hwr.frame,fun b hb=>(hwr.newf b hb).elim (hi.frz b) .inr,by rw[q6b];exact hi.size,by rw[q4x];exact hi.dfr,?_,?_,fun b l hb h0 hm=>?_,Nat.le_trans h.nxm (Nat.le_trans h.nx hnx'),h.xm,fun b hb=>(hwr.froz b (hi.sub b hb)).1,fun q hq hqD hl d hd v hv=>?_,fun t v hv hno'=>?_⟩
      ·intro t u hu hnq
       have old:∀ u,r.o.dst≠some t→look (lose p (l++q0e c.s1.rho g.keep)) t=some u→RepV w' F' c.base σ' ((a.put r.o.dst vv).tmps.getD t undef) u:=by
        intro u hne hu
        obtain⟨y,hy,rfl⟩:=q46 _ _ _ _ hu
        have hget:(a.put r.o.dst vv).tmps.getD t undef=a.tmps.getD t undef:=by
         cases hd:r.o.dst with
         |none=>rfl
         |some d=>rw[q4K (by rw[hi.size];exact q7K h.ok hr hd),if_neg (fun e=>hne (by rw[hd,e]))]
        rw[hget]
        exact hwr.val _ _ (hrho t y hy (hnr t hnq))
       cases hd:r.o.dst with
       |none=>
        simp only[hd] at hu
        rw[hd] at old
        exact old u (by simp) hu
       |some d=>
        simp only[hd,look] at hu
        split at hu
        ·rename_i hdt
         subst hdt
         obtain rfl:=Option.some.inj hu
         rw[q4K (by rw[hi.size];exact q7K h.ok hr hd),if_pos rfl]
         exact hres (by rw[hd];rfl)
        ·rename_i hdt
         rw[hd] at old
         exact old u (by simpa using hdt) hu
      ·intro b blk hb
       obtain⟨y,hy⟩:=q7d _ _ _ _ hb
       exact hdom' b y hy
      ·simp only[List.mem_append,not_or] at hm
       exact hwr.stab b l (hi.stab b l hb h0 hm.2) hm.1
      ·obtain⟨h1,h2⟩:=ldI q hq hqD hl d hd
       obtain⟨h3,h4⟩:=h2 v hv
       rw[hput _ d h1,←q7b (p:=p) (fun b hb=>by simpa [q1V] using hb) h4]
       exact hwr.val _ _ h3
      ·obtain⟨h3,h4⟩:=loI t v hv hno'
       rw[hput _ t (hno' r hr (.inr rfl))]
       rcases h4 with h4|rfl
       ·rw[←q7b (p:=p) (fun b hb=>by simpa [q1V] using hb) h4]
        exact hwr.val _ _ h3
       ·exact .junk _
     rcases hwk with⟨f,e,rfl,hek⟩|hwk
     ·exact j0W hek hev hops h.ok.sound hheap hi.glob hi.le hdom fun vv w' F' σ' hwr hv=>fin vv w' F' σ' hwr fun _=>hv
     unfold wrK at hwk
     cases hsk:q6a c.P (q0Z done) r.o with
     |some q=>
      obtain⟨n,ea,ee⟩:=q
      simp only[hsk,Option.some.injEq] at hwk
      subst hwk
      obtain rfl:c.s1.nx=nx:=by
       have hev':=hev
       simp only[evWr] at hev'
       split at hev'
       ·split at hev'
        ·split at hev'
         ·split at hev'
          ·simp only[Option.some.injEq,Prod.mk.injEq] at hev'
           exact hev'.2.2.2
          ·cases hev'
         ·cases hev'
        ·cases hev'
       ·cases hev'
      refine z5f hsk hev hops hheap fun w' hwr=>fin undef w' F σ hwr fun hs=>?_
      -- a store has no result
      have:r.o.dst=none:=by
       unfold q6a at hsk
       split at hsk
       ·split at hsk
        ·split at hsk
         ·rename_i hd;exact hd
         ·cases hsk
        ·cases hsk
       ·cases hsk
      rw[this] at hs;cases hs
     |none=>
      simp only[hsk] at hwk
      cases hak:appK c.P (q0Z done) r.o with
      |none=>
       simp only[hak] at hwk
       cases hmk:z1M c.P (q0Z done) r.o with
       |some em=>
        simp only[hmk,Option.some.injEq] at hwk
        subst hwk
        obtain rfl:c.s1.nx=nx:=by
         have hev':=hev
         simp only[evWr] at hev'
         split at hev'
         ·split at hev'
          ·split at hev'
           ·split at hev'
            ·simp only[Option.some.injEq,Prod.mk.injEq] at hev'
             exact hev'.2.2.2
            ·cases hev'
           ·cases hev'
          ·cases hev'
         ·cases hev'
        exact z7Q hmk hev hops hheap fun vv w' hwr hv=>fin vv w' F σ hwr fun _=>hv
       |none=>
       simp only[hmk] at hwk
       cases hpk:panK c.P (q0Z done) r.o with
       |some ep=>
        simp only[hpk,Option.some.injEq] at hwk
        subst hwk
        simp [evWr] at hev
       |none=>
       simp only[hpk] at hwk
       obtain⟨hp0,hnx0,hd0⟩:=z1O hwk hev
       subst hnx0
       exact j0n hwk hev hops hheap fun w' hwr=>fin undef w' F σ hwr fun hs=>by rw[hd0] at hs;cases hs
      |some q=>
       obtain⟨k,ea,eb⟩:=q
       simp only[hak,Option.some.injEq] at hwk
       subst hwk
       exact j1h hak hev hops hheap hi.le hdom fun vv w' σ' hwr hv=>fin vv w' F σ' hwr fun _=>hv
 ·-- the write has been: what is left looks into nothing that was written
  have hl:=hw.rest r hr hD
  obtain⟨e,hk,hx,hel,hch0,hgn,hnp,hwr,hmk⟩:=q2C hl
  obtain⟨val,hv1,hv2,hvo⟩:=h.ended.late e hel _ _ h.ended.mks
  obtain⟨later,done,hR,hg⟩:=h.ok.good.split hr
  have hheld:=fun x hx hxo=>z8m h hw (x:=x) hR hg hD hl hdown hpre hx hxo
  cases hg with
  |cons _ _ hgd hop hkd hch hn=>
   unfold wpOp
   rw[hop]
   simp only
   have hwant:Region.wanted r.o (yielded c.ops a.tmps)=true:=by unfold Region.wanted;rw[hgn]
   rw[if_pos hwant]
   refine .inl ?_
   have hpe:z27 c.P (q0Z done) r.o=some e:=by
    rw[hk] at hkd
    simp only[kdOf] at hkd
    split at hkd
    ·cases hm:mkK c.P (q0Z done) r.o <;> simp [hm] at hkd
    ·split at hkd
     ·cases hm:effK c.P (q0Z done) r.o <;> simp [hm] at hkd
     ·split at hkd
      ·rename_i h1
       simp only[Option.some.injEq,Kd.pure.injEq] at hkd
       rw[←hkd]
       exact h1
      ·cases hm:wrK c.P (q0Z done) r.o <;> simp [hm] at hkd
   have hH:HeapRel w F c.X c.base σ s'.nx (q3r (q1V c.s s') (q36 c.K c.s g (q1V c.s s') s'.heap) c.s1).heap:=⟨fun b blk hb=>by
    obtain⟨blk0,q1,q2⟩:=z5z h.ended h.nx h.ok.dom hb
    rcases q2 with rfl|⟨x,q2⟩
    ·exact hw.heap.blk b _ q1
    ·exact(hw.heap.blk b blk0 q1).common q2,hw.heap.inj,hw.heap.own,hw.heap.fro⟩
   refine z1A (s:=q3r (q1V c.s s') (q36 c.K c.s g (q1V c.s s') s'.heap) c.s1) hnp hpe hv1 (fun x hx=>hheld x ?_ hx) hH hw.glob hw.le h.ok.sound fun v w' F' haf hRv=>?_
   ·unfold q7Q
    split
    ·rename_i hp;exact absurd hp (hnp _ _ _)
    ·exact List.mem_map.2 ⟨x,hx,rfl⟩
   ·have hFw:∀ b,F b→F' b∧w'.heap[b]? = w.heap[b]?:=fun b hb=>⟨haf.sub b hb,haf.below.block b (hw.heap.fro b hb)⟩
    have hval:∀ v x,RepV w F c.base σ v x→RepV w' F' c.base σ v x:=fun v x hx=>hx.mono hFw (fun _ _ h=>h)
    have hput:∀ t,r.o.dst≠some t→(a.put r.o.dst v).tmps.getD t undef=a.tmps.getD t undef:=by
     intro t hne
     cases hd:r.o.dst with
     |none=>rfl
     |some d=>rw[q4K (by rw[hw.size];exact q7K h.ok hr hd),if_neg (fun e=>hne (by rw[hd,e]))]
    have hhas:∀ t,r.o.dst=some t→(a.put r.o.dst v).tmps.getD t undef=v:=by
     intro t hd
     rw[hd,q4K (by rw[hw.size];exact q7K h.ok hr hd),if_pos rfl]
    refine hK _ _ (.inr ⟨⟨q,hq,.inl hqD,hqw⟩,F',σ,⟨fun p hp hn=>hw.rest p hp (fun hd=>hn (.inl hd)),hw.heap.after haf,hw.glob.mono hFw,Nat.le_trans hw.le haf.below.size,hw.frame.trans (.of_after haf hw.le),fun b hb=>?_,by rw[q6b];exact hw.size,by rw[q4x];exact hw.dfr,fun t u hu hnq=>?_,hw.dom,hw.stab,hw.nxm,hw.xm,fun b hb=>(hFw b (hw.sub b hb)).1,fun p hp hpD hlp d hd u hu=>?_,fun t u hu hno'=>?_⟩⟩)
    ·rcases haf.old b hb with hb|hb
     ·exact hw.frz b hb
     ·exact .inr (Nat.le_trans hw.le hb)
    ·by_cases hd:r.o.dst=some t
     ·rw[hhas t hd]
      have:=z8b h hr hl hd hu
      rw[hx,hv1] at this
      obtain rfl:=Option.some.inj this
      exact hRv
     ·rw[hput t hd]
      refine hval _ _ (hw.rho t u hu fun p hp hpD=>?_)
      by_cases hpr:p.i=r.i
      ·obtain rfl:=h.ok.good.inj p hp r hr hpr
       exact hd
      ·exact hnq p hp (fun h2=>h2.elim hpD hpr)
    ·by_cases hpr:p.i=r.i
     ·obtain rfl:=h.ok.good.inj p hp r hr hpr
      rw[hhas d hd]
      rw[hx,hv1] at hu
      obtain rfl:=Option.some.inj hu
      exact hRv
     ·rw[hput d (q5j h.ok hp hr hpr hd)]
      exact hval _ _ (hw.ldone p hp (hpD.resolve_right hpr) hlp d hd u hu)
    ·rw[hput t (hno' r hr (.inr rfl))]
     exact hval _ _ (hw.lold t u hu fun p hp hpD=>hno' p hp (.inl hpD))
end Go.Vm
end

section
namespace Go.Vm
open Go.RowKit
def q3Q(P:Program)(ops:Array Oper)(n:Nat):Nat→List Seg→Bool
 |k,[]=>k==ops.size
 |k,g :: r=>q9y (fun i j=>decide (i<j)) P ops n (List.range' k g.cnt) g&&q3Q P ops n (k+g.cnt) r
def q4k(o:Oper):List Nat:=(o.after.toList.filter (Region.binds .any)).map (·.on)
def tabB(tab:List (List Nat))(i j:Nat):Bool:=(tab.getD j []).contains i
def z64(ops:List Oper)(tab:List (List Nat)):Bool:=
 (ops.zipIdx).all fun(o,i)=>(q4k o).all (fun j=>decide (j<i))&&(tab.getD i []).all fun j=>(q4k o).any fun e=>e==j||(tab.getD e []).contains j
def q1G(P:Program)(ops:Array Oper)(n:Nat)(tab:List (List Nat)):Nat→List Seg→Bool
 |k,[]=>k==ops.size
 |k,g :: r=>q9y (tabB tab) P ops n (List.range' k g.cnt) g&&((List.range' k (ops.size - k)).all fun i=>(List.range k).all fun j=>tabB tab j i)&&q1G P ops n tab (k+g.cnt) r
def z1h:List Seg→List (List Nat)
 |g :: _=>g.aux
 |[]=>[]
def q9g(P:Program)(ops:Array Oper)(n:Nat)(gs:List Seg):Bool:=q1G P ops n (z1h gs) 0 gs&&z64 ops.toList (z1h gs)
theorem q0w{B:Nat→Nat→Bool}{P:Program}{ops:Array Oper}{n:Nat}{is:List Nat}{g:Seg}{R:List Rec}(h:SegOk B P ops n is g R)(i:Nat):(∃ r∈R,r.i=i)↔i∈is:=by
 have:=(q40 is [] R .nil h.recs).2
 simp only[List.map_nil,List.append_nil] at this
 constructor
 ·rintro⟨r,hr,rfl⟩
  have:r.i∈R.map (·.i):=List.mem_map.2 ⟨r,hr,rfl⟩
  rw[‹R.map (·.i)=_›] at this
  simpa using this
 ·intro hi
  have:i∈R.map (·.i):=by rw[this];simpa using hi
  obtain⟨r,hr,he⟩:=List.mem_map.1 this
  exact⟨r,hr,he⟩
variable {P:Program}{K:Cx}{ops:Array Oper}{n:Nat}{X:Nat→Nat→Prop}{base:Nat}{w0:World}{F0:Nat→Prop}{m0:Nat}{σ0:Nat→Option Loc}{Q:Exit→Act→World→Prop}
theorem q0L{B:Nat→Nat→Bool}{g:Seg}{R:List Rec}{s s' s1:S}{news:List Blk}{T:Tr}{a:Act}{w:World}{F:Nat→Prop}{σ:Nat→Option Loc}
  (hT:Traced K s s1 news g.mks T) (hst:StRel K X base w0 F0 m0 σ0 n s a w F σ) :
  Stage (q0F P K ops B n R g s s1 T X base w0 F0 m0 σ0) g s' (fun _=>False) a w:=by
 refine .inl ⟨fun _ _ h=>h.elim,F,σ,⟨⟨hst.heap.blk,hst.heap.inj,fun b l hb=>?_,hst.heap.fro⟩,hst.glob,hst.le,hst.frame,hst.frz,hst.size,hst.dfr,fun t v hv _=>hst.rho t v hv,fun _ _ h=>h.elim,fun _ _ _ _ _ _ h=>by obtain⟨_,_,h,_⟩:=h;exact h.elim,fun d m v n0 nw hm _ b h1 h2=>?_,hst.stab,hst.sub⟩⟩
 ·obtain⟨h1,h2⟩:=hst.heap.own b l hb
  have:=hT.nx
  exact⟨show b<s1.nx by omega,h2⟩
 ·have h0:=(hT.evm d m v n0 nw hm).2.1
  cases hb:σ b with
  |none=>rfl
  |some l=>
   have:=(hst.heap.own b l hb).1
   omega
theorem q32{B:Nat→Nat→Bool}{is:List Nat}{g:Seg}{s s':S}(hok:q9y B P ops n is g=true)(hK:K.Sound P)(hev:q04 K s g=some s')(hdom:∀ b blk,look s.heap b=some blk→b<s.nx)(hnm:m0≤s.nx)(hxm:∀ b k,X b k→b<m0) :
  ∃ R s1 T news l,Full (q0F P K ops B n R g s s1 T X base w0 F0 m0 σ0) is g s' news l:=by
 obtain⟨R,hs⟩:=q8w hok
 obtain⟨s1,news,l,he⟩:=z3t hev
 obtain⟨T,hT⟩:=traced K g.mks s s1 news hs.mks he.mks
 exact⟨R,s1,T,news,l,⟨j0e hs he hT hK hdom,hs,he,hT,rfl,rfl,hnm,hxm⟩⟩
theorem z9e{ops:Array Oper}{g:Seg}{c:Piece}{k:Nat}{s':S}{news:List Blk}{l:List (Nat×V)}(hc:Full c (List.range' k g.cnt) g s' news l)(hB:c.B=fun i j=>decide (i<j)){ys:List Nat}
  (hop:∀ D a w i Kn,Stage c g s' D a w→wpOp c.P c.ops Q i Kn a w→wpOp c.P ops Q i Kn a w)
  (hys:∀ a w F σ,StRel c.K c.X c.base c.w0 c.F0 c.m c.σ0 c.n s' a w F σ→wpOps c.P ops Q ys a w):∀(m j:Nat) (a:Act) (w:World),j+m=g.cnt→Stage c g s' (fun i=>k≤i∧i<k+j) a w→wpOps c.P ops Q (List.range' (k+j) m++ys) a w
 |0,j,a,w,hj,hs=>by
  obtain⟨F,σ,hst⟩:=q4Y hc hs (fun r hr=>by
   have:=(q0w hc.seg r.i).1 ⟨r,hr,rfl⟩
   rw[List.mem_range'_1] at this
   constructor
   ·exact this.1
   ·have:=this.2;omega)
  simpa using hys a w F σ hst
 |m+1,j,a,w,hj,hs=>by
  rw[List.range'_succ,List.cons_append,wpOps_cons]
  obtain⟨r,hr,hri⟩:=(q0w hc.seg (k+j)).2 (by rw[List.mem_range'_1];omega)
  have hmem:∀ q∈c.R,k≤q.i∧q.i<k+g.cnt:=fun q hq=>by
   have:=(q0w hc.seg q.i).1 ⟨q,hq,rfl⟩
   rwa [List.mem_range'_1] at this
  have:=q4n (Q:=Q) (Kn:=wpOps c.P ops Q (List.range' (k+j+1) m++ys)) hc hs hr (by rw[hri];omega) (fun q hq hqD p hp hpq=>by
    rw[hB] at hpq
    simp only[decide_eq_true_eq] at hpq
    have:=hmem p hp
    omega) (fun q hq hqr=>by
    rw[hB] at hqr
    simp only[decide_eq_true_eq] at hqr
    have:=hmem q hq
    omega) (fun a' w' hs'=>by
    refine z9e hc hB hop hys m (j+1) a' w' (by omega) ?_
    have:(fun i=>k≤i∧i<k+(j+1))=plus (fun i=>k≤i∧i<k+j) r.i:=by
     funext i
     simp only[plus,hri,eq_iff_iff]
     omega
    rw[this]
    exact hs')
  rw[hri] at this
  exact hop _ a w _ _ hs this
theorem z3K(hK:K.Sound P):∀(gs:List Seg)(k:Nat)(s s':S)(a:Act)(w:World)(F:Nat→Prop)(σ:Nat→Option Loc),q3Q P ops n k gs=true→k≤ops.size→q3t K s gs=some s'→StRel K X base w0 F0 m0 σ0 n s a w F σ→
  (∀ a w F σ,StRel K X base w0 F0 m0 σ0 n s' a w F σ→Q .normal a w)→wpOps P ops Q (List.range' k (ops.size - k)) a w
 |[],k,s,s',a,w,F,σ,hok,hk,hev,hst,hQ=>by
  simp only[q3Q,beq_iff_eq] at hok
  subst hok
  obtain rfl:=Option.some.inj hev
  simp only[Nat.sub_self,List.range'_zero,wpOps]
  exact hQ _ _ _ _ hst
 |g :: gs,k,s,s',a,w,F,σ,hok,hk,hev,hst,hQ=>by
  simp only[q3Q,Bool.and_eq_true] at hok
  simp only[q3t] at hev
  cases hg:q04 K s g with
  |none=>simp [hg] at hev
  |some s2=>
   simp only[hg] at hev
   obtain⟨R,s1,T,news,l,hf⟩:=q32 (X:=X) (base:=base) (w0:=w0) (F0:=F0) (m0:=m0) (σ0:=σ0) hok.1 hK hg hst.dom hst.nxm hst.xm
   have hle:∀(gs:List Seg) (k:Nat),q3Q P ops n k gs=true→k≤ops.size:=by
    intro gs
    induction gs with
    |nil=>intro k h;simp only[q3Q,beq_iff_eq] at h;omega
    |cons g gs ih=>
     intro k h
     simp only[q3Q,Bool.and_eq_true] at h
     have:=ih _ h.2
     omega
   have hk2:=hle gs _ hok.2
   have hsplit:List.range' k (ops.size - k)=List.range' (k+0) g.cnt++List.range' (k+g.cnt) (ops.size - (k+g.cnt)):=by
    have:ops.size - k=g.cnt+(ops.size - (k+g.cnt)):=by omega
    rw[this,←List.range'_append_1]
    simp
   rw[hsplit]
   refine z9e hf rfl (fun _ _ _ _ _ _ h=>h) (fun a w F σ hst2=>z3K hK gs (k+g.cnt) s2 s' a w F σ hok.2 hk2 hev hst2 hQ) g.cnt 0 a w (by omega) ?_
   have:(fun i=>k≤i∧i<k+0)=fun _=>False:=by
    funext i
    simp only[eq_iff_iff,iff_false]
    omega
   rw[this]
   exact q0L hf.traced hst
theorem z2R{id:Nat}{gs:List Seg}{s s':S}{a:Act}{w:World}{F:Nat→Prop}{σ:Nat→Option Loc}(hK:K.Sound P)(hok:q3Q P ops n 0 gs=true)(hev:q3t K s gs=some s')(hst:StRel K X base w0 F0 m0 σ0 n s a w F σ)
  (hQ:∀ a w F σ,StRel K X base w0 F0 m0 σ0 n s' a w F σ→Q .normal a w):(Code.region id ops false).wp P Q a w:=by
 refine wp_region ?_
 have:=z3K (Q:=Q) hK gs 0 s s' a w F σ hok (Nat.zero_le _) hev hst hQ
 rw[List.range_eq_range']
 simpa using this
theorem StRel.drawn{s:S}{a:Act}{w:World}{F:Nat→Prop}{σ:Nat→Option Loc}(h:StRel K X base w0 F0 m0 σ0 n s a w F σ)(m:Nat):StRel K X base w0 F0 m0 σ0 n s a { w with drawn:=m } F σ:=by
 have hF:∀ b,F b→F b∧({ w with drawn:=m }:World).heap[b]? = w.heap[b]?:=fun b hb=>⟨hb,rfl⟩
 exact⟨⟨fun b blk hb=>(h.heap.blk b blk hb).mono hF (fun _ _ h=>h) (fun h=>h) (fun _ _=>rfl),h.heap.inj,h.heap.own,h.heap.fro⟩,h.glob.mono hF,h.le,⟨h.frame.os,h.frame.tape,h.frame.output,h.frame.size,h.frame.block⟩,h.frz,h.size,h.dfr,fun t v hv=>(h.rho t v hv).mono hF (fun _ _ h=>h),h.dom,h.stab,h.nxm,h.xm,h.sub⟩
theorem q6l{listed:Array Bool}{i:Nat}:i∈Region.ready .any ops listed↔i<ops.size∧listed.getD i true=false∧∃ o,ops[i]? = some o∧∀ j∈q4k o,listed.getD j false=true:=by
 unfold Region.ready
 simp only[List.mem_filter,List.mem_range,Bool.and_eq_true,Bool.not_eq_true']
 constructor
 ·rintro⟨h1,h2,h3⟩
  refine⟨h1,h2,ops[i],by simp [h1],fun j hj=>?_⟩
  simp only[q4k,List.mem_map,List.mem_filter] at hj
  obtain⟨e,⟨he,hb⟩,rfl⟩:=hj
  simp only[h1,getElem?_pos,Option.map_some,Option.getD_some] at h3
  rw[Array.all_eq_true'] at h3
  have:=h3 e (by simpa using he)
  simpa [hb] using this
 ·rintro⟨h1,h2,o,ho,h3⟩
  refine⟨h1,h2,?_⟩
  rw[ho]
  simp only[Option.map_some,Option.getD_some]
  rw[Array.all_eq_true']
  intro e he
  cases hb:Region.binds .any e with
  |false=>simp
  |true=>
   simp only[Bool.not_true,Bool.false_or]
   exact h3 e.on (by simp only[q4k,List.mem_map,List.mem_filter];exact⟨e,⟨by simpa using he,hb⟩,rfl⟩)
structure Tab(ops:Array Oper)(tab:List (List Nat)):Prop where
 lt:∀ i o,ops[i]? = some o→∀ j∈q4k o,j<i
 clo:∀ i o,ops[i]? = some o→∀ j∈tab.getD i [],∃ e∈q4k o,e=j∨j∈tab.getD e []
theorem q8n{tab:List (List Nat)}(h:z64 ops.toList tab=true):Tab ops tab:=by
 simp only[z64,List.all_eq_true,Bool.and_eq_true,decide_eq_true_eq,List.any_eq_true,Bool.or_eq_true,beq_iff_eq,List.contains_eq_mem] at h
 have get:∀ i o,ops[i]? = some o→(o,i)∈ops.toList.zipIdx:=fun i o ho=>by
  rw[List.mem_iff_getElem?]
  refine⟨i,?_⟩
  rw[List.getElem?_zipIdx]
  simp [ho]
 exact⟨fun i o ho j hj=>(h (o,i) (get i o ho)).1 j hj,fun i o ho j hj=>(h (o,i) (get i o ho)).2 j hj⟩
def q0A(listed:Array Bool)(m:Nat):Nat:=((List.range m).filter fun i=>!listed.getD i true).length
theorem q3c(listed:Array Bool)(i j:Nat)(hi:i<listed.size)(d:Bool):(listed.setIfInBounds i true).getD j d=if j=i then true else listed.getD j d:=by
 simp only[Array.getD_eq_getD_getElem?]
 by_cases h:j=i
 ·subst h;simp [hi]
 ·rw[if_neg h,Array.getElem?_setIfInBounds_ne (fun e=>h e.symm)]
theorem q6K(listed:Array Bool)(i:Nat)(h1:listed.size=ops.size)(h2:i<ops.size):listed.getD i true=listed.getD i false:=by
 simp only[Array.getD_eq_getD_getElem?]
 have:i<listed.size:=by omega
 simp [this]
theorem z7D{tab:List (List Nat)}(ht:Tab ops tab)(listed:Array Bool)(hsz:listed.size=ops.size)(hr:Region.ready .any ops listed=[]):∀ i,i<ops.size→listed.getD i false=true:=by
 intro i
 induction i using Nat.strongRecOn with
 |_ i ih=>
  intro hi
  cases hl:listed.getD i false with
  |true=>rfl
  |false=>
   have hm:i∈Region.ready .any ops listed:=q6l.2 ⟨hi,by rw[q6K listed i hsz hi];exact hl,ops[i],by simp [hi],fun j hj=>by
    have:=ht.lt i ops[i] (by simp [hi]) j hj
    exact ih j this (by omega)⟩
   rw[hr] at hm
   simp at hm
theorem Stage.congr{c:Piece}{g:Seg}{s':S}{D D':Nat→Prop}{a:Act}{w:World}(h:∀ r∈c.R,D r.i↔D' r.i)(hs:Stage c g s' D a w):Stage c g s' D' a w:=by
 rcases hs with⟨hno,F,σ,hi⟩|⟨⟨r,hr,hD,hw⟩,hst⟩
 ·refine .inl ⟨fun r hr hD=>hno r hr ((h r hr).2 hD),F,σ,⟨hi.heap,hi.glob,hi.le,hi.frame,hi.frz,hi.size,hi.dfr,fun t v hv hn=>hi.old t v hv (fun r hr hD=>hn r hr ((h r hr).1 hD)),fun r hr hD=>hi.done r hr ((h r hr).2 hD),?_,?_,hi.stab,hi.sub⟩⟩
  ·rintro d m v n0 nw hT ⟨r,hr,hD,hd⟩
   exact hi.made d m v n0 nw hT ⟨r,hr,(h r hr).2 hD,hd⟩
  ·intro d m v n0 nw hT hn
   exact hi.unmade d m v n0 nw hT (fun r hr hD=>hn r hr ((h r hr).1 hD))
 ·obtain⟨F,σ,hi⟩:=hst
  exact .inr ⟨⟨r,hr,(h r hr).1 hD,hw⟩,F,σ,⟨fun r hr hD=>hi.rest r hr (fun hD'=>hD ((h r hr).1 hD')),hi.heap,hi.glob,hi.le,hi.frame,hi.frz,hi.size,hi.dfr,fun t v hv hn=>hi.rho t v hv (fun r hr hD=>hn r hr (fun hD'=>hD ((h r hr).2 hD'))),hi.dom,hi.stab,hi.nxm,hi.xm,hi.sub,fun q hq hD=>hi.ldone q hq ((h q hq).2 hD),fun t v hv hn=>hi.lold t v hv (fun r hr hD=>hn r hr ((h r hr).1 hD))⟩⟩
theorem q7x{tab:List (List Nat)}(ht:Tab ops tab){k cnt:Nat}(St:(Nat→Prop)→Act→World→Prop)
  (hstep:∀(D:Nat→Prop) (a:Act) (w:World) (i:Nat) (Kn:Act→World→Prop),k≤i→i<k+cnt→¬ D i→(∀ q,k≤q→q<k+cnt→D q→∀ p,tabB tab p q=true→D p)→(∀ q,tabB tab q i=true→D q)→St D a w→(∀ a' w',St (plus D i) a' w'→Kn a' w')→wpOp P ops Q i Kn a w)
  (hbar:∀ i,k+cnt≤i→i<ops.size→∀ j,j<k+cnt→tabB tab j i=true) (hkc:k+cnt≤ops.size)
  (hrest:∀(fuel:Nat) (listed:Array Bool) (a:Act) (w:World),listed.size=ops.size→q0A listed ops.size≤fuel→(∀ i,i<k+cnt→listed.getD i false=true)→(∀ i,k+cnt≤i→listed.getD i false=false)→
   (∃ D,(∀ i,k≤i→i<k+cnt→D i)∧St D a w)→wpAny P .any ops Q fuel listed a w) :
  ∀(fuel:Nat) (listed:Array Bool) (a:Act) (w:World),listed.size=ops.size→q0A listed ops.size≤fuel→(∀ i,i<k→listed.getD i false=true)→(∀ i,k+cnt≤i→listed.getD i false=false)→
   (∀ i,i<ops.size→listed.getD i false=true→∀ j,tabB tab j i=true→listed.getD j false=true)→St (fun i=>listed.getD i false=true) a w→wpAny P .any ops Q fuel listed a w:=by
 intro fuel
 induction fuel with
 |zero=>
  intro listed a w hsz hfuel hlo hhi hdown hs
  have hall:∀ i,i<ops.size→listed.getD i false=true:=by
   intro i hi
   cases hl:listed.getD i false with
   |true=>rfl
   |false=>
    have hm:i∈(List.range ops.size).filter fun i=>!listed.getD i true:=by
     simp only[List.mem_filter,List.mem_range,Bool.not_eq_true']
     exact⟨hi,by rw[q6K listed i hsz hi];exact hl⟩
    have:0<q0A listed ops.size:=List.length_pos_of_mem hm
    omega
  exact hrest 0 listed a w hsz hfuel (fun i hi=>hall i (by omega)) hhi ⟨_,fun i h1 h2=>hall i (by omega),hs⟩
 |succ fuel ih=>
  intro listed a w hsz hfuel hlo hhi hdown hs
  by_cases hall:∀ i,i<k+cnt→listed.getD i false=true
  ·exact hrest (fuel+1) listed a w hsz hfuel hall hhi ⟨_,fun i _ h=>hall i h,hs⟩
  ·refine⟨fun hr=>absurd (fun i hi=>z7D ht listed hsz hr i (by omega)) hall,fun i hi=>?_⟩
   obtain⟨h1,h2,o,ho,h3⟩:=q6l.1 hi
   rw[q6K listed i hsz h1] at h2
   have hpre:∀ j,tabB tab j i=true→listed.getD j false=true:=by
    intro j hj
    simp only[tabB,List.contains_eq_mem,decide_eq_true_eq] at hj
    obtain⟨e,he,h4⟩:=ht.clo i o ho j hj
    rcases h4 with rfl|h4
    ·exact h3 _ he
    ·exact hdown e (by have:=ht.lt i o ho e he;omega) (h3 e he) j (by simpa [tabB] using h4)
   have hki:k≤i:=by
    rcases Nat.lt_or_ge i k with h|h
    ·rw[hlo i h] at h2;cases h2
    ·exact h
   have hik:i<k+cnt:=by
    rcases Nat.lt_or_ge i (k+cnt) with h|h
    ·exact h
    ·exact absurd (fun j hj=>hpre j (hbar i h h1 j hj)) hall
   have hlt:i<listed.size:=by omega
   exact hstep _ a w i (wpAny P .any ops Q fuel (listed.setIfInBounds i true)) hki hik (by simp only[h2];simp) (fun q hq1 hq2 hqD p hpq=>hdown q (by omega) hqD p hpq) hpre hs (fun a' w' hs'=>by
     refine ih _ a' w' (by simpa using hsz) ?_ (fun x hx=>?_) (fun x hx=>?_) ?_ ?_
     ·have:q0A (listed.setIfInBounds i true) ops.size<q0A listed ops.size:=by
       unfold q0A
       have hsub:((List.range ops.size).filter fun x=>!(listed.setIfInBounds i true).getD x true)=((List.range ops.size).filter fun x=>!listed.getD x true).filter fun x=>decide (x≠i):=by
        rw[List.filter_filter]
        refine List.filter_congr fun x _=>?_
        rw[q3c listed i x hlt]
        by_cases hx:x=i
        ·simp [hx]
        ·simp [hx]
       rw[hsub]
       have hm:i∈(List.range ops.size).filter fun i=>!listed.getD i true:=by
        simp only[List.mem_filter,List.mem_range,Bool.not_eq_true']
        exact⟨h1,by rw[q6K listed i hsz h1];exact h2⟩
       exact List.length_filter_lt_length_iff_exists.2 ⟨i,hm,by simp⟩
      omega
     ·rw[q3c listed i x hlt]
      split
      ·rfl
      ·exact hlo x hx
     ·rw[q3c listed i x hlt,if_neg (by omega)]
      exact hhi x hx
     ·intro x hx hxl j hj
      rw[q3c listed i x hlt] at hxl
      rw[q3c listed i j hlt]
      split
      ·rfl
      ·split at hxl
       ·rename_i hxr
        subst hxr
        exact hpre j hj
       ·exact hdown x hx hxl j hj
     ·have:(fun x=>(listed.setIfInBounds i true).getD x false=true)=plus (fun x=>listed.getD x false=true) i:=by
       funext x
       rw[q3c listed i x hlt]
       simp only[plus,eq_iff_iff]
       by_cases hx:x=i <;> simp [hx]
      rw[this]
      exact hs')
theorem q6U{tab:List (List Nat)}(ht:Tab ops tab){g:Seg}{c:Piece}{k:Nat}{s':S}{news:List Blk}{l:List (Nat×V)}(hc:Full c (List.range' k g.cnt) g s' news l)(hop:∀ D a w i Kn,Stage c g s' D a w→wpOp c.P c.ops Q i Kn a w→wpOp c.P ops Q i Kn a w)(hB:c.B=tabB tab)
  (hbar:∀ i,k+g.cnt≤i→i<ops.size→∀ j,j<k+g.cnt→tabB tab j i=true) (hkc:k+g.cnt≤ops.size)
  (hrest:∀(fuel:Nat) (listed:Array Bool) (a:Act) (w:World) (F:Nat→Prop) (σ:Nat→Option Loc),listed.size=ops.size→q0A listed ops.size≤fuel→(∀ i,i<k+g.cnt→listed.getD i false=true)→(∀ i,k+g.cnt≤i→listed.getD i false=false)→
   StRel c.K c.X c.base c.w0 c.F0 c.m c.σ0 c.n s' a w F σ→wpAny c.P .any ops Q fuel listed a w)
  (fuel:Nat) (listed:Array Bool) (a:Act) (w:World) (h1:listed.size=ops.size) (h2:q0A listed ops.size≤fuel) (h3:∀ i,i<k→listed.getD i false=true) (h4:∀ i,k+g.cnt≤i→listed.getD i false=false)
  (h5:∀ i,i<ops.size→listed.getD i false=true→∀ j,tabB tab j i=true→listed.getD j false=true) (h6:Stage c g s' (fun i=>listed.getD i false=true) a w):wpAny c.P .any ops Q fuel listed a w:=by
 have hmem:∀ q∈c.R,k≤q.i∧q.i<k+g.cnt:=fun q hq=>by
  have:=(q0w hc.seg q.i).1 ⟨q,hq,rfl⟩
  rwa [List.mem_range'_1] at this
 refine q7x (cnt:=g.cnt) ht (Stage c g s') (fun D a w i Kn hi1 hi2 hD hdown hpre hs hK=>?_) hbar hkc (fun fuel listed a w q1 q2 q3 q4 ⟨D,hall,hs⟩=>?_) fuel listed a w h1 h2 h3 h4 h5 h6
 ·obtain⟨r,hr,hri⟩:=(q0w hc.seg i).2 (by rw[List.mem_range'_1];omega)
  subst hri
  exact hop D a w r.i Kn hs (q4n hc hs hr hD (fun q hq hqD p hp hpq=>by
   rw[hB] at hpq
   exact hdown q.i (hmem q hq).1 (hmem q hq).2 hqD p.i hpq) (fun q hq hqr=>by
   rw[hB] at hqr
   exact hpre q.i hqr) hK)
 ·obtain⟨F,σ,hst⟩:=q4Y hc hs (fun r hr=>hall r.i (hmem r hr).1 (hmem r hr).2)
  exact hrest fuel listed a w F σ q1 q2 q3 q4 hst
theorem z9n(hK:K.Sound P){tab:List (List Nat)}(ht:Tab ops tab):∀(gs:List Seg)(k:Nat)(s s':S),q1G P ops n tab k gs=true→q3t K s gs=some s'→(∀ a w F σ,StRel K X base w0 F0 m0 σ0 n s' a w F σ→Q .normal a w)→
  ∀(fuel:Nat) (listed:Array Bool) (a:Act) (w:World) (F:Nat→Prop) (σ:Nat→Option Loc),listed.size=ops.size→q0A listed ops.size≤fuel→(∀ i,i<k→listed.getD i false=true)→(∀ i,k≤i→listed.getD i false=false)→StRel K X base w0 F0 m0 σ0 n s a w F σ→wpAny P .any ops Q fuel listed a w
 |[],k,s,s',hok,hev,hQ,fuel,listed,a,w,F,σ,hsz,hfuel,hlo,hhi,hst=>by
  simp only[q1G,beq_iff_eq] at hok
  subst hok
  obtain rfl:=Option.some.inj hev
  have hr:Region.ready .any ops listed=[]:=by
   cases hr:Region.ready .any ops listed with
   |nil=>rfl
   |cons i t=>
    have:i∈Region.ready .any ops listed:=by rw[hr];simp
    obtain⟨h1,h2,_⟩:=q6l.1 this
    rw[q6K listed i hsz h1,hlo i h1] at h2
    cases h2
  cases fuel with
  |zero=>exact⟨hr,hQ _ _ _ _ hst⟩
  |succ fuel=>exact⟨fun _=>hQ _ _ _ _ hst,fun i hi=>by rw[hr] at hi;simp at hi⟩
 |g :: gs,k,s,s',hok,hev,hQ,fuel,listed,a,w,F,σ,hsz,hfuel,hlo,hhi,hst=>by
  simp only[q1G,Bool.and_eq_true] at hok
  obtain⟨⟨hok1,hok2⟩,hok3⟩:=hok
  simp only[q3t] at hev
  cases hg:q04 K s g with
  |none=>simp [hg] at hev
  |some s2=>
   simp only[hg] at hev
   obtain⟨R,s1,T,news,l,hf⟩:=q32 (X:=X) (base:=base) (w0:=w0) (F0:=F0) (m0:=m0) (σ0:=σ0) hok1 hK hg hst.dom hst.nxm hst.xm
   have hle:∀(gs:List Seg) (k:Nat),q1G P ops n tab k gs=true→k≤ops.size:=by
    intro gs
    induction gs with
    |nil=>intro k h;simp only[q1G,beq_iff_eq] at h;omega
    |cons g gs ih=>
     intro k h
     simp only[q1G,Bool.and_eq_true] at h
     have:=ih _ h.2
     omega
   have hbar:∀ i,k+g.cnt≤i→i<ops.size→∀ j,j<k+g.cnt→tabB tab j i=true:=by
    intro i h1 h2 j hj
    cases gs with
    |nil=>
     simp only[q1G,beq_iff_eq] at hok3
     omega
    |cons g2 gs2=>
     simp only[q1G,Bool.and_eq_true,List.all_eq_true] at hok3
     exact hok3.1.2 i (by rw[List.mem_range'_1];omega) j (by simpa using hj)
   refine q6U ht hf (fun _ _ _ _ _ _ h=>h) rfl hbar (hle _ _ hok3) (fun fuel listed a w F σ h1 h2 h3 h4 hst2=>z9n hK ht gs (k+g.cnt) s2 s' hok3 hev hQ fuel listed a w F σ h1 h2 h3 h4 hst2) fuel listed a w hsz hfuel hlo (fun i hi=>hhi i (by omega)) (fun i hi hil j hj=>?_) ?_
   ·-- what is listed is of earlier chunks: so is all ahead of it
    have hik:i<k:=by
     rcases Nat.lt_or_ge i k with h|h
     ·exact h
     ·rw[hhi i h] at hil;cases hil
    have hclo:∀ i,i<ops.size→∀ j,tabB tab j i=true→j<i:=by
     intro i
     induction i using Nat.strongRecOn with
     |_ i ih=>
      intro hi j hj
      simp only[tabB,List.contains_eq_mem,decide_eq_true_eq] at hj
      obtain⟨e,he,h4⟩:=ht.clo i ops[i] (by simp [hi]) j hj
      have hei:=ht.lt i ops[i] (by simp [hi]) e he
      rcases h4 with rfl|h4
      ·exact hei
      ·have:=ih e hei (by omega) j (by simpa [tabB] using h4)
       omega
    exact hlo j (by have:=hclo i hi j hj;omega)
   ·refine(q0L (P:=P) (ops:=ops) (B:=tabB tab) (R:=R) (s':=s2) hf.traced hst).congr (fun r hr=>?_)
    have:=(q0w hf.seg r.i).1 ⟨r,hr,rfl⟩
    rw[List.mem_range'_1] at this
    rw[hhi r.i this.1]
    simp
theorem z2s{id:Nat}{gs:List Seg}{s s':S}{a:Act}{w:World}{F:Nat→Prop}{σ:Nat→Option Loc}(hm:P.follows .mixedOrders=true)(hK:K.Sound P)(hok:q9g P ops n gs=true)(hev:q3t K s gs=some s')(hst:StRel K X base w0 F0 m0 σ0 n s a w F σ)
  (hQ:∀ a w F σ,StRel K X base w0 F0 m0 σ0 n s' a w F σ→Q .normal a w):(Code.region id ops true).wp P Q a w:=by
 simp only[q9g,Bool.and_eq_true] at hok
 refine wp_region_any hm ?_
 have hno:∀ i,(Array.replicate ops.size false).getD i false=false:=by
  intro i
  simp only[Array.getD_eq_getD_getElem?,Array.getElem?_replicate]
  split <;> rfl
 refine z9n hK (q8n hok.2) gs 0 s s' hok.1 hev hQ ops.size _ a _ F σ (by simp) ?_ (fun i hi=>by omega) (fun i _=>hno i) (hst.drawn _)
 unfold q0A
 refine Nat.le_trans (List.length_filter_le _ _) ?_
 simp
end Go.Vm
end

section
namespace Go.Vm
open Go.RowKit
variable {P:Program}{K:Cx}{ops:Array Oper}{n:Nat}{X:Nat→Nat→Prop}{base:Nat}{w0:World}{F0:Nat→Prop}{m0:Nat}{σ0:Nat→Option Loc}
theorem z8v{w:World}{F:Nat→Prop}{σ σ':Nat→Option Loc}{nx:Nat}{H:List (Nat×Blk)}(hH:HeapRel w F X base σ nx H){b n k:Nat}{c:Bool}{rows:List (List D)}{l:Loc}(hb:look H b=some (.dat c k rows))(hl:σ b=some l)(hn:n=rows.length)(h0:0<n)(hbase:base≤l.blk){v:Value}(hv:RepV w F base σ v (.bsl b 0 n)) :
  RepV w (fun x=>F x∨x=l.blk) base σ' v (.d c (.sl k rows)):=by
 have hin:col (fun x=>F x∨x=l.blk) base c l.blk:=by
  cases c
  ·exact .inr rfl
  ·exact⟨.inr rfl,hbase⟩
 refine .d _ _ _ ?_
 cases hv with
 |bsl0=>omega
 |bsl _ _ _ cap l' hl' h1 h2=>
  obtain rfl:l=l':=by rw[hl] at hl';exact Option.some.inj hl'
  have cells:∀ i r,rows[i]? = some r→l.k=k∧r.length=k∧∀(j:Nat) (d:D),r[j]? = some d→∃ u,w.cell? ⟨l.blk,i*l.k+j,none⟩=some u∧RepV w F base σ u (mkd c d):=by
   intro i r hr
   obtain⟨e1,e2,e3⟩:=q3T hH hb hl (i:=i) (row:=r.map (mkd c)) (by simp [Blk.row?,hr])
   simp only[Blk.k] at e1
   refine⟨e1,by simpa [e1] using e2,fun j d hd=>?_⟩
   obtain⟨u,hu,_,hR⟩:=e3 j (mkd c d) (by simp [hd])
   exact⟨u,hu,hR⟩
  refine .sl _ _ _ _ k _ (fun i j=>(w.cell? ⟨l.blk,i*l.k+j,none⟩).getD undef) hn.symm h1 hin (fun r hr=>?_) (fun i j r d hr hd=>?_) (fun i j r d hr hd=>?_)
  ·obtain⟨i,hi⟩:=List.getElem?_of_mem hr
   exact(cells i r hi).2.1
  ·obtain⟨e1,_,e3⟩:=cells i r hr
   obtain⟨u,hu,_⟩:=e3 j d hd
   rw[hu,←e1]
   simp only[Option.getD_some]
   rw[←hu]
   congr 2
   omega
  ·obtain⟨e1,_,e3⟩:=cells i r hr
   obtain⟨u,hu,hR⟩:=e3 j d hd
   rw[hu]
   simp only[Option.getD_some]
   unfold mkd at hR
   split at hR
   ·rename_i hf
    cases hR with
    |d _ _ _ h=>exact h.flat hf
   ·cases hR with
    |d _ _ _ h=>exact h.mono fun a ha=>⟨by
      cases c
      ·exact .inl ha
      ·exact⟨.inl ha.1,ha.2⟩,rfl⟩
theorem StRel.freeze{s:S}{a:Act}{w:World}{F:Nat→Prop}{σ:Nat→Option Loc}(t j:Nat)(h:StRel K X base w0 F0 m0 σ0 n s a w F σ):∃ F' σ',StRel K X base w0 F0 m0 σ0 n (frzS m0 t j s) a w F' σ':=by
 unfold frzS
 split
 case h_2=>exact⟨F,σ,h⟩
 rename_i b hb
 split
 case h_2=>exact⟨F,σ,h⟩
 rename_i k row hrow
 split
 case h_2=>exact⟨F,σ,h⟩
 rename_i b' nn hj
 split
 case h_2=>exact⟨F,σ,h⟩
 rename_i c k' rows hb'
 split
 case isFalse=>exact⟨F,σ,h⟩
 rename_i hc
 obtain⟨hn,h0,hm,hne⟩:=hc
 have hl:∃ l,σ b'=some l:=by
  rcases h.heap.blk b' _ hb' with⟨hz,_⟩|⟨l,_,_,_,_,hl,_⟩|⟨l,_,_,hl,_⟩
  ·simp [Blk.n] at hz;rw[hz] at hn;simp at hn;omega
  ·exact⟨l,hl⟩
  ·exact⟨l,hl⟩
 obtain⟨l,hl⟩:=hl
 obtain⟨o1,o2,o3,o4⟩:=h.heap.own b' l hl
 have hbase:base≤l.blk:=by
  rcases o3 with o3|o3
  ·exact o3
  ·have:=h.xm _ _ o3;omega
 have hF:∀ x,F x→(F x∨x=l.blk)∧w.heap[x]? = w.heap[x]?:=fun x hx=>⟨.inl hx,rfl⟩
 let σ':Nat→Option Loc:=fun i=>if i=b' then none else σ i
 have hσ:∀ i l,σ i=some l→(i==b')=false→σ' i=some l:=fun i l hi hp=>by
  show(if i=b' then none else σ i)=_
  rw[if_neg (by simpa using hp)];exact hi
 have hσ':∀ i l0,σ' i=some l0→i≠b'∧σ i=some l0:=fun i l0 hi=>by
  change (if i=b' then none else σ i)=_ at hi
  split at hi
  ·cases hi
  ·exact⟨‹_›,hi⟩
 have hσn:∀ i,i≠b'→σ' i=σ i:=fun i hi=>by
  show(if i=b' then none else σ i)=_
  rw[if_neg hi]
 refine⟨fun x=>F x∨x=l.blk,σ',⟨fun i blk hi=>?_,fun i i' l1 l2 h1 h2 he=>?_,fun i l1 h1=>?_,fun x hx=>?_⟩,h.glob.mono hF,h.le,h.frame,fun x hx=>?_,h.size,h.dfr,fun u v hv=>?_,fun i blk hi=>?_,fun i l1 h1 h2 h3=>?_,h.nxm,h.xm,fun x hx=>.inl (h.sub x hx)⟩
 ·rw[q0u] at hi
  split at hi
  ·rename_i he
   subst he
   obtain rfl:=Option.some.inj hi
   rcases h.heap.blk b _ hrow with⟨hz,_⟩|⟨_,_,_,_,hmap,_⟩|⟨lb,cs,T,q1,q2,q3,q4,q5,q6,q7⟩
   ·simp [Blk.n] at hz
   ·cases hmap
   ·refine .inr (.inr ⟨lb,cs,T,by rw[hσn b (fun e=>hne e.symm)];exact q1,q2,q3,q4,q5,fun i r hr=>?_,rfl⟩)
    cases i with
    |succ i=>simp [Blk.row?] at hr
    |zero=>
     simp only[Blk.row?,List.getElem?_cons_zero,Option.some.injEq] at hr
     subst hr
     obtain⟨g1,g2⟩:=q6 0 row rfl
     refine⟨by simpa [Blk.k] using g1,fun jj x hx=>?_⟩
     by_cases hjj:j=jj
     ·subst hjj
      have hlt:j<row.length:=(List.getElem?_eq_some_iff.1 hj).1
      rw[List.getElem?_set_self (by simpa using hlt)] at hx
      obtain rfl:=Option.some.inj hx
      obtain⟨v,g3,g4,g5⟩:=g2 j _ hj
      exact⟨v,g3,g4,z8v h.heap hb' hl hn h0 hbase g5⟩
     ·rw[List.getElem?_set_ne hjj,List.getElem?_map,Option.map_eq_some_iff] at hx
      obtain⟨y,hy,rfl⟩:=hx
      obtain⟨v,g3,g4,g5⟩:=g2 jj y hy
      exact⟨v,g3,g4,g5.drop1 hF hσ⟩
  ·rw[q0u] at hi
   split at hi
   ·rename_i he
    subst he
    obtain rfl:=Option.some.inj hi
    exact .inl ⟨rfl,if_pos rfl⟩
   ·rename_i he
    simp only[forgetH,q3k,Option.map_eq_some_iff] at hi
    obtain⟨blk0,hi,rfl⟩:=hi
    have hib:i≠b':=fun e=>he e.symm
    exact(h.heap.blk i blk0 hi).forget (·== b') hF hσ (fun l hl=>by rw[hσn i hib];exact hl) (fun hl=>by rw[hσn i hib];exact hl) (fun _ _=>rfl)
 ·exact h.heap.inj i i' l1 l2 (hσ' i l1 h1).2 (hσ' i' l2 h2).2 he
 ·obtain⟨hi,h1⟩:=hσ' i l1 h1
  obtain⟨p1,p2,p3,p4⟩:=h.heap.own i l1 h1
  refine⟨p1,fun hx=>?_,p3,p4⟩
  rcases hx with hx|hx
  ·exact p2 hx
  ·exact hi (h.heap.inj i b' l1 l h1 hl hx)
 ·rcases hx with hx|hx
  ·exact h.heap.fro x hx
  ·rw[hx];exact o4
 ·rcases hx with hx|hx
  ·exact h.frz x hx
  ·rw[hx];exact .inr hbase
 ·simp only[forgetR] at hv
  rw[q4v,Option.map_eq_some_iff] at hv
  obtain⟨v0,h1,rfl⟩:=hv
  exact(h.rho u v0 h1).forget hF hσ
 ·rw[q0u] at hi
  split at hi
  ·rename_i he;subst he;exact h.dom _ _ hrow
  ·rw[q0u] at hi
   split at hi
   ·rename_i he;subst he;exact h.dom _ _ hb'
   ·simp only[forgetH,q3k,Option.map_eq_some_iff] at hi
    obtain⟨blk0,hi,rfl⟩:=hi
    exact h.dom i blk0 hi
 ·rw[hσn i (by omega)]
  exact h.stab i l1 h1 h2 h3
def less(σ:Nat→Option Loc)(b:Nat):Nat→Option Loc:=fun i=>if i=b then none else σ i
theorem StRel.gone{s:S}{a:Act}{w:World}{F:Nat→Prop}{σ:Nat→Option Loc}{t b k:Nat}{l:Loc}{x:V}{blk:Blk}(hl:σ b=some l)(hblk:look s.heap b=some blk)(hm:m0≤b)
  (hx:base≤l.blk→RepV w (fun y=>F y∨y=l.blk) base (less σ b) (a.tmps.getD t undef) x) (h:StRel K X base w0 F0 m0 σ0 n s a w F σ) :
  ∃ F' σ',StRel K X base w0 F0 m0 σ0 n ⟨put (forgetR (·== b) s.rho) t x,put (forgetH (·== b) s.heap) b (.dat true k []),s.nx,s.mv⟩ a w F' σ':=by
 obtain⟨o1,o2,o3,o4⟩:=h.heap.own b l hl
 have hbase:base≤l.blk:=by
  rcases o3 with o3|o3
  ·exact o3
  ·have:=h.xm _ _ o3;omega
 have hF:∀ y,F y→(F y∨y=l.blk)∧w.heap[y]? = w.heap[y]?:=fun y hy=>⟨.inl hy,rfl⟩
 have hσ:∀ i l,σ i=some l→(i==b)=false→less σ b i=some l:=fun i l hi hp=>by
  show(if i=b then none else σ i)=_
  rw[if_neg (by simpa using hp)];exact hi
 have hσ':∀ i l0,less σ b i=some l0→i≠b∧σ i=some l0:=fun i l0 hi=>by
  change (if i=b then none else σ i)=_ at hi
  split at hi
  ·cases hi
  ·exact⟨‹_›,hi⟩
 have hσn:∀ i,i≠b→less σ b i=σ i:=fun i hi=>by
  show(if i=b then none else σ i)=_
  rw[if_neg hi]
 refine⟨fun y=>F y∨y=l.blk,less σ b,⟨fun i bk hi=>?_,fun i i' l1 l2 h1 h2 he=>?_,fun i l1 h1=>?_,fun y hy=>?_⟩,h.glob.mono hF,h.le,h.frame,fun y hy=>?_,h.size,h.dfr,fun u v hv=>?_,fun i bk hi=>?_,fun i l1 h1 h2 h3=>?_,h.nxm,h.xm,fun y hy=>.inl (h.sub y hy)⟩
 ·rw[q0u] at hi
  split at hi
  ·rename_i he
   subst he
   obtain rfl:=Option.some.inj hi
   exact .inl ⟨rfl,if_pos rfl⟩
  ·rename_i he
   simp only[forgetH,q3k,Option.map_eq_some_iff] at hi
   obtain⟨blk0,hi,rfl⟩:=hi
   have hib:i≠b:=fun e=>he e.symm
   exact(h.heap.blk i blk0 hi).forget (·== b) hF hσ (fun l hl=>by rw[hσn i hib];exact hl) (fun hl=>by rw[hσn i hib];exact hl) (fun _ _=>rfl)
 ·exact h.heap.inj i i' l1 l2 (hσ' i l1 h1).2 (hσ' i' l2 h2).2 he
 ·obtain⟨hi,h1⟩:=hσ' i l1 h1
  obtain⟨p1,p2,p3,p4⟩:=h.heap.own i l1 h1
  refine⟨p1,fun hy=>?_,p3,p4⟩
  rcases hy with hy|hy
  ·exact p2 hy
  ·exact hi (h.heap.inj i b l1 l h1 hl hy)
 ·rcases hy with hy|hy
  ·exact h.heap.fro y hy
  ·rw[hy];exact o4
 ·rcases hy with hy|hy
  ·exact h.frz y hy
  ·rw[hy];exact .inr hbase
 ·rw[q0u] at hv
  split at hv
  ·rename_i he
   subst he
   obtain rfl:=Option.some.inj hv
   exact hx hbase
  ·simp only[forgetR] at hv
   rw[q4v,Option.map_eq_some_iff] at hv
   obtain⟨v0,h1,rfl⟩:=hv
   exact(h.rho u v0 h1).forget hF hσ
 ·rw[q0u] at hi
  split at hi
  ·rename_i he;subst he;exact h.dom _ _ hblk
  ·simp only[forgetH,q3k,Option.map_eq_some_iff] at hi
   obtain⟨blk0,hi,rfl⟩:=hi
   exact h.dom i blk0 hi
 ·rw[hσn i (by omega)]
  exact h.stab i l1 h1 h2 h3
theorem StRel.freezeV{s:S}{a:Act}{w:World}{F:Nat→Prop}{σ:Nat→Option Loc}(t:Nat)(h:StRel K X base w0 F0 m0 σ0 n s a w F σ):∃ F' σ',StRel K X base w0 F0 m0 σ0 n (frzV m0 t s) a w F' σ':=by
 unfold frzV
 split
 ·rename_i b nn hb
  split
  case h_2=>exact⟨F,σ,h⟩
  rename_i c k rows hb'
  split
  case isFalse=>exact⟨F,σ,h⟩
  rename_i hc
  obtain⟨hn,h0,hm⟩:=hc
  have hl:∃ l,σ b=some l:=by
   rcases h.heap.blk b _ hb' with⟨hz,_⟩|⟨l,_,_,_,_,hl,_⟩|⟨l,_,_,hl,_⟩
   ·simp [Blk.n] at hz;rw[hz] at hn;simp at hn;omega
   ·exact⟨l,hl⟩
   ·exact⟨l,hl⟩
  obtain⟨l,hl⟩:=hl
  exact h.gone hl hb' hm fun hbase=>z8v h.heap hb' hl hn h0 hbase (h.rho t _ hb)
 ·rename_i b hb
  split
  case h_2=>exact⟨F,σ,h⟩
  rename_i k row hb'
  split
  case h_2=>exact⟨F,σ,h⟩
  rename_i ds hds
  split
  case isFalse=>exact⟨F,σ,h⟩
  rename_i hc
  obtain⟨hm,h0⟩:=hc
  have hr:=h.rho t _ hb
  generalize hvv:a.tmps.getD t undef=vv at hr
  cases hr with
  |ptr _ _ _ l hl=>
   refine h.gone hl hb' hm fun hbase=>?_
   rw[hvv]
   obtain⟨e1,e2,e3⟩:=q3T h.heap hb' hl (i:=0) (row:=row) (by simp [Blk.row?])
   obtain⟨d1,d2⟩:=q0n hds
   refine .d _ _ _ ?_
   have hin:col (fun x=>F x∨x=l.blk) base (row.all V.new1) l.blk:=by
    cases row.all V.new1
    ·exact .inr rfl
    ·exact⟨.inr rfl,hbase⟩
   have cells:∀ j d,ds[j]? = some d→∃ x u,row[j]? = some x∧w.cell? ⟨l.blk,j,none⟩=some u∧RepV w F base σ u x∧asD x=some d:=by
    intro j d hd
    obtain⟨x,hx,hxd⟩:=q6o hds hd
    obtain⟨u,hu,_,hR⟩:=e3 j x hx
    exact⟨x,u,hx,by simpa using hu,hR,hxd⟩
   have:=RepD.ptr (w:=w) (F:=col (fun x=>F x∨x=l.blk) base (row.all V.new1)) l.blk (0*l.k+0) ds (fun j=>(w.cell? ⟨l.blk,j,none⟩).getD undef) hin (fun j d hd=>?_) (fun j d hd=>?_)
   ·exact this
   ·obtain⟨x,u,_,hu,_,_⟩:=cells j d hd
    simp only[Nat.zero_mul,Nat.zero_add]
    rw[hu];rfl
   ·obtain⟨x,u,hx,hu,hR,hxd⟩:=cells j d hd
    rw[hu]
    simp only[Option.getD_some]
    obtain⟨r1,r2⟩:=q6S hxd hR
    cases hnew:row.all V.new1 with
    |false=>exact r1.mono fun y hy=>⟨.inl hy,rfl⟩
    |true=>
     rw[List.all_eq_true] at hnew
     exact(r2 (hnew x (List.mem_of_getElem? hx))).mono fun y hy=>⟨⟨.inl hy.1,hy.2⟩,rfl⟩
 ·exact⟨F,σ,h⟩
theorem StRel.freezeL{a:Act}{w:World}:∀(l:List Nat){s:S}{F:Nat→Prop}{σ:Nat→Option Loc},StRel K X base w0 F0 m0 σ0 n s a w F σ→∃ F' σ',StRel K X base w0 F0 m0 σ0 n (frzL m0 l s) a w F' σ'
 |[],s,F,σ,h=>⟨F,σ,h⟩
 |t :: l,s,F,σ,h=>by
  obtain⟨F',σ',h'⟩:=h.freezeV t
  exact StRel.freezeL l h'
end Go.Vm
end

section
namespace Go.Vm
open Go.RowKit
def q5c(ops:Array Oper)(t:Nat)(b:Bool)(o:Oper):Bool:=match o.guard with
 |some (j,b')=>b'==b&&(match ops[j]? with
  |some q=>q.dst==some t
  |none=>false)
 |none=>false
def inR(lo n i:Nat):Bool:=decide (lo≤i)&&decide (i<lo+n)
def z1k(ops:Array Oper)(t:Nat)(b:Bool)(lo n:Nat):Array Oper:=ops.mapIdx fun i o=>if inR lo n i&&q5c ops t b o then { o with guard:=none } else o
def z1q(ops:Array Oper)(t:Nat)(b:Bool)(k:Nat)(g:Seg):Bool:=(List.range' k g.cnt).all fun i=>match ops[i]? with
 |some o=>q5c ops t b o&&o.dst != some t&&(match o.dst with|some d=>!(q1l g).contains d|none=>true)
 |none=>true
def q7Z(B:Nat→Nat→Bool)(P:Program)(ops:Array Oper)(n k:Nat)(p:Pre)(g:Seg):Bool:=match p.sg with
 |none=>q9y B P ops n (List.range' k g.cnt) g
 |some (t,b)=>q9y B P (z1k ops t b k g.cnt) n (List.range' k g.cnt) g&&z1q ops t b k g
def q4B(P:Program)(ops:Array Oper)(n:Nat):Nat→List (Pre×Seg)→Bool
 |k,[]=>k==ops.size
 |k,(p,g) :: r=>q7Z (fun i j=>decide (i<j)) P ops n k p g&&q4B P ops n (k+g.cnt) r
def q2v(P:Program)(ops:Array Oper)(n:Nat)(tab:List (List Nat)):Nat→List (Pre×Seg)→Bool
 |k,[]=>k==ops.size
 |k,(p,g) :: r=>q7Z (tabB tab) P ops n k p g&&((List.range' k (ops.size - k)).all fun i=>(List.range k).all fun j=>tabB tab j i)&&q2v P ops n tab (k+g.cnt) r
def j1l:List (Pre×Seg)→List (List Nat)
 |(_,g) :: _=>g.aux
 |[]=>[]
def z0P(P:Program)(ops:Array Oper)(n:Nat)(gs:List (Pre×Seg)):Bool:=q2v P ops n (j1l gs) 0 gs&&z64 ops.toList (j1l gs)
variable {P:Program}{K:Cx}{ops:Array Oper}{n:Nat}{X:Nat→Nat→Prop}{base:Nat}{w0:World}{F0:Nat→Prop}{m0:Nat}{σ0:Nat→Option Loc}{Q:Exit→Act→World→Prop}
theorem q8o(t:Nat)(b:Bool)(lo n i:Nat):(z1k ops t b lo n)[i]? = (ops[i]?).map fun o=>if inR lo n i&&q5c ops t b o then { o with guard:=none } else o:=by
 unfold z1k
 rw[Array.getElem?_mapIdx]
theorem z65(t:Nat)(b:Bool)(lo n i:Nat):((z1k ops t b lo n)[i]?).bind (·.dst)=(ops[i]?).bind (·.dst):=by
 rw[q8o]
 cases ops[i]? with
 |none=>rfl
 |some o=>simp only[Option.map_some,Option.bind_some];split <;> rfl
theorem z1j(t:Nat)(b:Bool)(lo n:Nat)(tmps:Array Value):yielded (z1k ops t b lo n) tmps=yielded ops tmps:=by
 funext j
 unfold yielded
 rw[z65]
def q9E(t:Nat)(x:Bool)(a:Act):Prop:=a.tmps[t]? = some (.bool x)
theorem q7F{t:Nat}{b x:Bool}{a:Act}{o:Oper}(hg:q5c ops t b o=true)(ht:q9E t x a):Region.wanted o (yielded ops a.tmps)=(x==b):=by
 unfold q5c at hg
 split at hg
 ·rename_i j b' hgd
  simp only[Bool.and_eq_true,beq_iff_eq] at hg
  obtain⟨rfl,hg⟩:=hg
  split at hg
  ·rename_i q hq
   have hd:q.dst=some t:=by simpa using hg
   have hy:yielded ops a.tmps j=some x:=by
    unfold yielded
    rw[hq]
    simp only[Option.bind_some,hd]
    rw[ht]
   unfold Region.wanted
   rw[hgd]
   simp only[hy]
   cases x <;> cases b' <;> rfl
  ·cases hg
 ·cases hg
theorem z3O{t:Nat}{b:Bool}{lo n' i:Nat}{a:Act}{w:World}{Kn:Act→World→Prop}(ht:q9E t b a)(h:wpOp P (z1k ops t b lo n') Q i Kn a w):wpOp P ops Q i Kn a w:=by
 unfold wpOp at h ⊢
 rw[q8o,z1j] at h
 cases ho:ops[i]? with
 |none=>rw[ho] at h;exact h
 |some o=>
  rw[ho] at h
  simp only[Option.map_some] at h ⊢
  by_cases hc:(inR lo n' i&&q5c ops t b o)=true
  ·rw[if_pos hc] at h
   simp only[Bool.and_eq_true] at hc
   rw[if_pos (by rw[q7F hc.2 ht];simp)]
   rw[if_pos (by rfl)] at h
   exact h
  ·rw[if_neg hc] at h
   exact h
theorem z67{t:Nat}{b x:Bool}{i:Nat}{a:Act}{w:World}{Kn:Act→World→Prop}{o:Oper}(ho:ops[i]? = some o)(hg:q5c ops t b o=true)(ht:q9E t x a)(hx:x≠b)(h:Kn (a.put o.dst undef) w):wpOp P ops Q i Kn a w:=by
 unfold wpOp
 rw[ho]
 simp only
 rw[if_neg (by rw[q7F hg ht];simpa using hx)]
 exact h
theorem q8p{c:Piece}{g:Seg}{s':S}{D:Nat→Prop}{a:Act}{w:World}{is:List Nat}{news:List Blk}{l:List (Nat×V)}(hf:Full c is g s' news l)(hs:Stage c g s' D a w){t:Nat}{x cc:Bool}(hl:look c.s.rho t=some (.d cc (.bool x)))(hno:∀ r∈c.R,r.o.dst≠some t):q9E t x a:=by
 have key:∀ {F:Nat→Prop} {σ:Nat→Option Loc},RepV w F c.base σ (a.tmps.getD t undef) (.d cc (.bool x))→q9E t x a:=by
  intro F σ h
  have hv:=h.bool_inv
  unfold q9E
  rw[Array.getD_eq_getD_getElem?] at hv
  cases ht:a.tmps[t]? with
  |none=>rw[ht] at hv;simp [undef] at hv
  |some u=>rw[ht] at hv;simp only[Option.getD_some] at hv;rw[hv]
 rcases hs with⟨_,F,σ,hi⟩|⟨_,F,σ,hw⟩
 ·exact key (hi.old t _ hl fun r hr _=>hno r hr)
 ·refine key (hw.lold t _ ?_ fun r hr _=>hno r hr)
  have hnm:t∉c.mds:=fun hm=>by
   obtain⟨r,hr,hd,_⟩:=hf.ok.covers t hm
   exact hno r hr hd
  simp only[q3r]
  rw[q4v,hf.ok.old t hnm,hl]
  rfl
theorem StRel.truth{s:S}{a:Act}{w:World}{F:Nat→Prop}{σ:Nat→Option Loc}(h:StRel K X base w0 F0 m0 σ0 n s a w F σ){t:Nat}{x cc:Bool}(hl:look s.rho t=some (.d cc (.bool x))):q9E t x a:=by
 have hv:=(h.rho t _ hl).bool_inv
 unfold q9E
 rw[Array.getD_eq_getD_getElem?] at hv
 cases ht:a.tmps[t]? with
 |none=>rw[ht] at hv;simp [undef] at hv
 |some u=>rw[ht] at hv;simp only[Option.getD_some] at hv;rw[hv]
def Skip(K:Cx)(X:Nat→Nat→Prop)(base:Nat)(w0:World)(F0:Nat→Prop)(m0:Nat)(σ0:Nat→Option Loc)(n:Nat)(t:Nat)(x:Bool)(s:S)(a:Act)(w:World):Prop:=q9E t x a∧∃ F σ,StRel K X base w0 F0 m0 σ0 n s a w F σ
theorem z7l{a:Act}{d:Option Nat}{v:Value}{u:Nat}(h:d≠some u):(a.put d v).tmps[u]? = a.tmps[u]?:=by
 cases d with
 |none=>rfl
 |some d=>
  simp only[Act.put]
  exact Array.getElem?_setIfInBounds_ne (fun e=>h (by rw[e]))
theorem Skip.step{t:Nat}{x:Bool}{s:S}{keep:List Nat}{a:Act}{w:World}(h:Skip K X base w0 F0 m0 σ0 n t x (z1p s keep) a w){d:Option Nat}(h1:d≠some t)(h2:∀ u,d=some u→u∉keep):Skip K X base w0 F0 m0 σ0 n t x (z1p s keep) (a.put d undef) w:=by
 obtain⟨ht,F,σ,hs⟩:=h
 refine⟨?_,F,σ,⟨hs.heap,hs.glob,hs.le,hs.frame,hs.frz,by rw[q6b];exact hs.size,by rw[q4x];exact hs.dfr,fun u v hv=>?_,hs.dom,hs.stab,hs.nxm,hs.xm,hs.sub⟩⟩
 ·unfold q9E
  rw[z7l h1]
  exact ht
 ·have hu:u∈keep:=(q0I _ _ _ _ hv).1
  have hd:d≠some u:=fun e=>h2 u e hu
  have:=hs.rho u v hv
  rw[Array.getD_eq_getD_getElem?] at this ⊢
  rw[z7l hd]
  exact this
theorem StRel.skip{s:S}{a:Act}{w:World}{F:Nat→Prop}{σ:Nat→Option Loc}(h:StRel K X base w0 F0 m0 σ0 n s a w F σ)(keep:List Nat):StRel K X base w0 F0 m0 σ0 n (z1p s keep) a w F σ:=
 ⟨h.heap,h.glob,h.le,h.frame,h.frz,h.size,h.dfr,fun t v hv=>h.rho t v (q0I _ _ _ _ hv).2,h.dom,h.stab,h.nxm,h.xm,h.sub⟩
theorem StRel.skipM{s:S}{a:Act}{w:World}{F:Nat→Prop}{σ:Nat→Option Loc}(h:StRel K X base w0 F0 m0 σ0 n s a w F σ)(keep:List Nat):StRel K X base w0 F0 m0 σ0 n (skipM s keep) a w F σ:=
 ⟨h.heap,h.glob,h.le,h.frame,h.frz,h.size,h.dfr,fun t v hv=>by
  rcases z4d _ _ t v hv with hv|hv
  ·exact h.rho t v (q0I _ _ _ _ hv).2
  ·rw[q9X _ t v hv];exact .junk _,h.dom,h.stab,h.nxm,h.xm,h.sub⟩
theorem z0j{t:Nat}{b:Bool}{k:Nat}{g:Seg}(h:z1q ops t b k g=true){i:Nat}(h1:k≤i)(h2:i<k+g.cnt){o:Oper}(ho:ops[i]? = some o):q5c ops t b o=true∧o.dst≠some t∧∀ u,o.dst=some u→u∉q1l g:=by
 unfold z1q at h
 rw[List.all_eq_true] at h
 have:=h i (by rw[List.mem_range'_1];omega)
 rw[ho] at this
 simp only[Bool.and_eq_true,bne_iff_ne,ne_eq] at this
 refine⟨this.1.1,this.1.2,fun u hu=>?_⟩
 have h3:=this.2
 rw[hu] at h3
 simpa using h3
theorem z1o{B:Nat→Nat→Bool}{t:Nat}{b:Bool}{k:Nat}{g:Seg}{R:List Rec}(hs:SegOk B P (z1k ops t b k g.cnt) n (List.range' k g.cnt) g R)(h:z1q ops t b k g=true):∀ r∈R,r.o.dst≠some t:=by
 intro r hr
 have hi:=(q0w hs r.i).1 ⟨r,hr,rfl⟩
 rw[List.mem_range'_1] at hi
 obtain⟨later,done,_,hg⟩:=((q40 _ [] R .nil hs.recs).1).split hr
 cases hg with
 |cons _ _ _ hop _ _ _=>
  rw[q8o] at hop
  cases ho:ops[r.i]? with
  |none=>rw[ho] at hop;cases hop
  |some o=>
   rw[ho] at hop
   simp only[Option.map_some,Option.some.injEq] at hop
   have:=(z0j h hi.1 hi.2 ho).2.1
   rw[←hop]
   split <;> exact this
theorem z4f:∀(gs:List (Pre×Seg))(k:Nat),q4B P ops n k gs=true→k≤ops.size
 |[],k,h=>by simp only[q4B,beq_iff_eq] at h;omega
 |(p,g) :: gs,k,h=>by
  simp only[q4B,Bool.and_eq_true] at h
  have:=z4f gs _ h.2
  omega
theorem q9J{t:Nat}{b x:Bool}{k:Nat}{g:Seg}{s:S}(hk:z1q ops t b k g=true)(hx:x≠b)(hsz:k+g.cnt≤ops.size){ys:List Nat}(hys:∀ a w F σ,StRel K X base w0 F0 m0 σ0 n (z1p s (q1l g)) a w F σ→wpOps P ops Q ys a w) :
  ∀(m j:Nat) (a:Act) (w:World),j+m=g.cnt→Skip K X base w0 F0 m0 σ0 n t x (z1p s (q1l g)) a w→wpOps P ops Q (List.range' (k+j) m++ys) a w
 |0,j,a,w,hj,⟨_,F,σ,hs⟩=>by simpa using hys a w F σ hs
 |m+1,j,a,w,hj,hs=>by
  rw[List.range'_succ,List.cons_append,wpOps_cons]
  have hlt:k+j<ops.size:=by omega
  obtain⟨h1,h2,h3⟩:=z0j hk (i:=k+j) (by omega) (by omega) (Array.getElem?_eq_getElem hlt)
  exact z67 (Array.getElem?_eq_getElem hlt) h1 hs.1 hx (q9J hk hx hsz hys m (j+1) _ w (by omega) (hs.step h2 h3))
theorem z1e(hK:K.Sound P):∀(gs:List (Pre×Seg))(k:Nat)(s s':S)(a:Act)(w:World)(F:Nat→Prop)(σ:Nat→Option Loc),q4B P ops n k gs=true→q34 m0 K s gs=some s'→StRel K X base w0 F0 m0 σ0 n s a w F σ→
  (∀ a w F σ,StRel K X base w0 F0 m0 σ0 n s' a w F σ→Q .normal a w)→wpOps P ops Q (List.range' k (ops.size - k)) a w
 |[],k,s,s',a,w,F,σ,hok,hev,hst,hQ=>by
  simp only[q4B,beq_iff_eq] at hok
  subst hok
  obtain rfl:=Option.some.inj hev
  simp only[Nat.sub_self,List.range'_zero,wpOps]
  exact hQ _ _ _ _ hst
 |(p,g) :: gs,k,s,s',a,w,F,σ,hok,hev,hst,hQ=>by
  simp only[q4B,Bool.and_eq_true] at hok
  obtain⟨hok1,hok2⟩:=hok
  have hk2:=z4f gs _ hok2
  have hsplit:List.range' k (ops.size - k)=List.range' (k+0) g.cnt++List.range' (k+g.cnt) (ops.size - (k+g.cnt)):=by
   have:ops.size - k=g.cnt+(ops.size - (k+g.cnt)):=by omega
   rw[this,←List.range'_append_1]
   simp
  obtain⟨F,σ,hst⟩:=hst.freezeL p.fz
  simp only[q34] at hev
  generalize frzL m0 p.fz s=s0 at hst hev
  cases hg:q87 K s0 p g with
  |none=>simp [hg] at hev
  |some s2=>
   simp only[hg] at hev
   have rest:∀ a w F σ,StRel K X base w0 F0 m0 σ0 n s2 a w F σ→wpOps P ops Q (List.range' (k+g.cnt) (ops.size - (k+g.cnt))) a w:=fun a w F σ hst2=>z1e hK gs (k+g.cnt) s2 s' a w F σ hok2 hev hst2 hQ
   have start:(fun i=>k≤i∧i<k+0)=fun _=>False:=by
    funext i
    simp only[eq_iff_iff,iff_false]
    omega
   rw[hsplit]
   unfold q7Z at hok1
   unfold q87 at hg
   cases hsg:p.sg with
   |none=>
    simp only[hsg] at hok1 hg
    obtain⟨R,s1,T,news,l,hf⟩:=q32 (X:=X) (base:=base) (w0:=w0) (F0:=F0) (m0:=m0) (σ0:=σ0) hok1 hK hg hst.dom hst.nxm hst.xm
    refine z9e hf rfl (fun _ _ _ _ _ _ h=>h) rest g.cnt 0 a w (by omega) ?_
    rw[start]
    exact q0L hf.traced hst
   |some q=>
    obtain⟨t,b⟩:=q
    simp only[hsg,Bool.and_eq_true] at hok1 hg
    obtain⟨hk1,hk3⟩:=hok1
    split at hg
    case h_2=>cases hg
    rename_i cc x hl
    split at hg
    ·rename_i hxb
     subst hxb
     obtain⟨R,s1,T,news,l,hf⟩:=q32 (X:=X) (base:=base) (w0:=w0) (F0:=F0) (m0:=m0) (σ0:=σ0) hk1 hK hg hst.dom hst.nxm hst.xm
     refine z9e hf rfl (fun D a w i Kn hs h=>z3O (q8p hf hs hl (z1o hf.seg hk3)) h) rest g.cnt 0 a w (by omega) ?_
     rw[start]
     exact q0L hf.traced hst
    ·rename_i hxb
     obtain rfl:=Option.some.inj hg
     exact q9J hk3 hxb hk2 rest g.cnt 0 a w (by omega) ⟨hst.truth hl,F,σ,hst.skip _⟩
theorem z1d{id:Nat}{gs:List (Pre×Seg)}{s s':S}{a:Act}{w:World}{F:Nat→Prop}{σ:Nat→Option Loc}(hK:K.Sound P)(hok:q4B P ops n 0 gs=true)(hev:q34 m0 K s gs=some s')(hst:StRel K X base w0 F0 m0 σ0 n s a w F σ)
  (hQ:∀ a w F σ,StRel K X base w0 F0 m0 σ0 n s' a w F σ→Q .normal a w):(Code.region id ops false).wp P Q a w:=by
 refine wp_region ?_
 have:=z1e (Q:=Q) hK gs 0 s s' a w F σ hok hev hst hQ
 rw[List.range_eq_range']
 simpa using this
theorem z1S{tab:List (List Nat)}:∀(gs:List (Pre×Seg))(k:Nat),q2v P ops n tab k gs=true→k≤ops.size
 |[],k,h=>by simp only[q2v,beq_iff_eq] at h;omega
 |(p,g) :: gs,k,h=>by
  simp only[q2v,Bool.and_eq_true] at h
  have:=z1S gs _ h.2
  omega
theorem z4B(hK:K.Sound P){tab:List (List Nat)}(ht:Tab ops tab):∀(gs:List (Pre×Seg))(k:Nat)(s s':S),q2v P ops n tab k gs=true→q34 m0 K s gs=some s'→(∀ a w F σ,StRel K X base w0 F0 m0 σ0 n s' a w F σ→Q .normal a w)→
  ∀(fuel:Nat) (listed:Array Bool) (a:Act) (w:World) (F:Nat→Prop) (σ:Nat→Option Loc),listed.size=ops.size→q0A listed ops.size≤fuel→(∀ i,i<k→listed.getD i false=true)→(∀ i,k≤i→listed.getD i false=false)→StRel K X base w0 F0 m0 σ0 n s a w F σ→wpAny P .any ops Q fuel listed a w
 |[],k,s,s',hok,hev,hQ,fuel,listed,a,w,F,σ,hsz,hfuel,hlo,hhi,hst=>by
  simp only[q2v,beq_iff_eq] at hok
  subst hok
  obtain rfl:=Option.some.inj hev
  have hr:Region.ready .any ops listed=[]:=by
   cases hr:Region.ready .any ops listed with
   |nil=>rfl
   |cons i t=>
    have:i∈Region.ready .any ops listed:=by rw[hr];simp
    obtain⟨h1,h2,_⟩:=q6l.1 this
    rw[q6K listed i hsz h1,hlo i h1] at h2
    cases h2
  cases fuel with
  |zero=>exact⟨hr,hQ _ _ _ _ hst⟩
  |succ fuel=>exact⟨fun _=>hQ _ _ _ _ hst,fun i hi=>by rw[hr] at hi;simp at hi⟩
 |(p,g) :: gs,k,s,s',hok,hev,hQ,fuel,listed,a,w,F,σ,hsz,hfuel,hlo,hhi,hst=>by
  simp only[q2v,Bool.and_eq_true] at hok
  obtain⟨⟨hok1,hok2⟩,hok3⟩:=hok
  have hkc:=z1S gs _ hok3
  obtain⟨F,σ,hst⟩:=hst.freezeL p.fz
  simp only[q34] at hev
  generalize frzL m0 p.fz s=s0 at hst hev
  cases hg:q87 K s0 p g with
  |none=>simp [hg] at hev
  |some s2=>
   simp only[hg] at hev
   have rest:∀ fuel listed a w F σ,listed.size=ops.size→q0A listed ops.size≤fuel→(∀ i,i<k+g.cnt→listed.getD i false=true)→(∀ i,k+g.cnt≤i→listed.getD i false=false)→StRel K X base w0 F0 m0 σ0 n s2 a w F σ→wpAny P .any ops Q fuel listed a w:=
    fun fuel listed a w F σ h1 h2 h3 h4 hst2=>z4B hK ht gs (k+g.cnt) s2 s' hok3 hev hQ fuel listed a w F σ h1 h2 h3 h4 hst2
   have hbar:∀ i,k+g.cnt≤i→i<ops.size→∀ j,j<k+g.cnt→tabB tab j i=true:=by
    intro i h1 h2 j hj
    cases gs with
    |nil=>
     simp only[q2v,beq_iff_eq] at hok3
     omega
    |cons g2 gs2=>
     obtain⟨p2,g2⟩:=g2
     simp only[q2v,Bool.and_eq_true,List.all_eq_true] at hok3
     exact hok3.1.2 i (by rw[List.mem_range'_1];omega) j (by simpa using hj)
   have hdn:∀ i,i<ops.size→listed.getD i false=true→∀ j,tabB tab j i=true→listed.getD j false=true:=by
    intro i hi hil j hj
    have hik:i<k:=by
     rcases Nat.lt_or_ge i k with h|h
     ·exact h
     ·rw[hhi i h] at hil;cases hil
    have hclo:∀ i,i<ops.size→∀ j,tabB tab j i=true→j<i:=by
     intro i
     induction i using Nat.strongRecOn with
     |_ i ih=>
      intro hi j hj
      simp only[tabB,List.contains_eq_mem,decide_eq_true_eq] at hj
      obtain⟨e,he,h4⟩:=ht.clo i ops[i] (by simp [hi]) j hj
      have hei:=ht.lt i ops[i] (by simp [hi]) e he
      rcases h4 with rfl|h4
      ·exact hei
      ·have:=ih e hei (by omega) j (by simpa [tabB] using h4)
       omega
    exact hlo j (by have:=hclo i hi j hj;omega)
   have hh:∀ i,k+g.cnt≤i→listed.getD i false=false:=fun i hi=>hhi i (by omega)
   unfold q7Z at hok1
   unfold q87 at hg
   cases hsg:p.sg with
   |none=>
    simp only[hsg] at hok1 hg
    obtain⟨R,s1,T,news,l,hf⟩:=q32 (X:=X) (base:=base) (w0:=w0) (F0:=F0) (m0:=m0) (σ0:=σ0) hok1 hK hg hst.dom hst.nxm hst.xm
    refine q6U ht hf (fun _ _ _ _ _ _ h=>h) rfl hbar hkc rest fuel listed a w hsz hfuel hlo hh hdn ?_
    refine(q0L (P:=P) (ops:=ops) (B:=tabB tab) (R:=R) (s':=s2) hf.traced hst).congr (fun r hr=>?_)
    have:=(q0w hf.seg r.i).1 ⟨r,hr,rfl⟩
    rw[List.mem_range'_1] at this
    rw[hhi r.i this.1]
    simp
   |some q=>
    obtain⟨t,b⟩:=q
    simp only[hsg,Bool.and_eq_true] at hok1 hg
    obtain⟨hk1,hk3⟩:=hok1
    split at hg
    case h_2=>cases hg
    rename_i cc x hl
    split at hg
    ·rename_i hxb
     subst hxb
     obtain⟨R,s1,T,news,l,hf⟩:=q32 (X:=X) (base:=base) (w0:=w0) (F0:=F0) (m0:=m0) (σ0:=σ0) hk1 hK hg hst.dom hst.nxm hst.xm
     refine q6U ht hf (fun D a w i Kn hs h=>z3O (q8p hf hs hl (z1o hf.seg hk3)) h) rfl hbar hkc rest fuel listed a w hsz hfuel hlo hh hdn ?_
     refine(q0L (P:=P) (ops:=z1k ops t x k g.cnt) (B:=tabB tab) (R:=R) (s':=s2) hf.traced hst).congr (fun r hr=>?_)
     have:=(q0w hf.seg r.i).1 ⟨r,hr,rfl⟩
     rw[List.mem_range'_1] at this
     rw[hhi r.i this.1]
     simp
    ·rename_i hxb
     obtain rfl:=Option.some.inj hg
     refine q7x (cnt:=g.cnt) ht (fun _=>Skip K X base w0 F0 m0 σ0 n t x (z1p s0 (q1l g))) (fun D a w i Kn hi1 hi2 _ _ _ hs hKn=>?_) hbar hkc (fun fuel listed a w q1 q2 q3 q4 ⟨_,_,_,F,σ,hs⟩=>rest fuel listed a w F σ q1 q2 q3 q4 hs) fuel listed a w hsz hfuel hlo hh hdn ⟨hst.truth hl,F,σ,hst.skip _⟩
     have hlt:i<ops.size:=by omega
     obtain⟨h1,h2,h3⟩:=z0j hk3 hi1 hi2 (Array.getElem?_eq_getElem hlt)
     exact z67 (Array.getElem?_eq_getElem hlt) h1 hs.1 hxb (hKn _ w (hs.step h2 h3))
theorem z0O{id:Nat}{gs:List (Pre×Seg)}{s s':S}{a:Act}{w:World}{F:Nat→Prop}{σ:Nat→Option Loc}(hm:P.follows .mixedOrders=true)(hK:K.Sound P)(hok:z0P P ops n gs=true)(hev:q34 m0 K s gs=some s')(hst:StRel K X base w0 F0 m0 σ0 n s a w F σ)
  (hQ:∀ a w F σ,StRel K X base w0 F0 m0 σ0 n s' a w F σ→Q .normal a w):(Code.region id ops true).wp P Q a w:=by
 simp only[z0P,Bool.and_eq_true] at hok
 refine wp_region_any hm ?_
 have hno:∀ i,(Array.replicate ops.size false).getD i false=false:=by
  intro i
  simp only[Array.getD_eq_getD_getElem?,Array.getElem?_replicate]
  split <;> rfl
 refine z4B hK (q8n hok.2) gs 0 s s' hok.1 hev hQ ops.size _ a _ F σ (by simp) ?_ (fun i hi=>by omega) (fun i _=>hno i) (hst.drawn _)
 unfold q0A
 refine Nat.le_trans (List.length_filter_le _ _) ?_
 simp
end Go.Vm
end
