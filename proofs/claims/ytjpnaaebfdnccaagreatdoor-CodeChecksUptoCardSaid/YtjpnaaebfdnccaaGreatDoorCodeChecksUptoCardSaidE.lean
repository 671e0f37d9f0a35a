/-
  CodeChecks comes to true, whatever the tables (of bulk at most 1048576); the input reads as it did.
  Conditions: the listed package-level tables read as the program's text lays them (tied by the card).
-/
import Derived.Test.YtjpnaaebfdnccaaGreatDoorCodeChecksUptoCardSaidD
import Derived.Test.YtjpnaaebfdnccaaGreatDoorChecked
import Derived.Test.YtjpnaaebfdnccaaGreatDoorProg
import Derived.KernelRfl
import Derived.Deep.Slices
import Derived.DataReads
import Derived.Test.YtjpnaaebfdnccaaGreatDoorRows
import Derived.ProofKit
import Derived.OpenShut
import Derived.Deep.DeepHandedRow
import Derived.Lib.LaidTab
import Derived.Lib.LaidIn
import Derived.ChangeMaps5
import Derived.LaidHandle
import Derived.Test.YtjpnaaebfdnccaaGreatDoorCards
import Derived.Test.YtjpnaaebfdnccaaGreatDoorTie
set_option linter.unusedVariables false
set_option linter.unusedSimpArgs false

section
namespace Go.Vm
theorem z48(K:Cx)(t:Table)(g:Glob)(at_ n kind:Int)(hk:0≤kind∧kind≤8) :
  q0o K f80 [.agg [.d false (.sl 2 (t.shapes.map q0c)),.d false (.sl 3 (t.globals.map q0l))],.agg [.d false (.str g.name),.d false (.int .i64 g.arity),.d false (.sl 3 (g.code.map q0j))],.d false (.int .i64 at_),.d false (.int .i64 n),.d false (.int .i64 kind)] []
  = some (.d false (.int .i64 (q0S t.globals.length t.shapes.length g.code.length at_ n kind)),[],[]):=by
 have:kind=0∨kind=1∨kind=2∨kind=3∨kind=4∨kind=5∨kind=6∨kind=7∨kind=8:=by omega
 unfold q0S
 rcases this with rfl|rfl|rfl|rfl|rfl|rfl|rfl|rfl|rfl
 ·by_cases h:n=0
  ·simp(disch:=first|decide|omega|(simp only[LN];first|done|omega)) only[SV,SW,f80,Int.reduceNeg,h,Nat.reduceAdd,Nat.reduceBEq,q0b,Int.reduceEq,true_and]
  ·simp(disch:=first|decide|omega|(simp only[LN];first|done|omega)) only[SV,SW,f80,Int.reduceNeg,Nat.reduceAdd,Nat.reduceBEq,q0b,Int.reduceEq,h]
 ·by_cases h:0≤n
  ·simp(disch:=first|decide|omega|(simp only[LN];first|done|omega)) only[SV,SW,f80,Int.reduceNeg,Nat.reduceAdd,Nat.reduceBEq,q0b,Int.reduceEq,true_and]
  ·simp(disch:=first|decide|omega|(simp only[LN];first|done|omega)) only[SV,SW,f80,Int.reduceNeg,Nat.reduceAdd,Nat.reduceBEq,q0b,Int.reduceEq]
 ·by_cases h:1≤n
  ·simp(disch:=first|decide|omega|(simp only[LN];first|done|omega)) only[SV,SW,f80,Int.reduceNeg,Nat.reduceAdd,Nat.reduceBEq,q0b,Int.reduceEq,true_and]
  ·simp(disch:=first|decide|omega|(simp only[LN];first|done|omega)) only[SV,SW,f80,Int.reduceNeg,Nat.reduceAdd,Nat.reduceBEq,q0b,Int.reduceEq]
 ·by_cases h : -4611686018427387904≤n
  ·by_cases h2:n≤4611686018427387903
   ·simp(disch:=first|decide|omega|(simp only[LN];first|done|omega)) only[SV,SW,f80,Int.reduceNeg,Nat.reduceAdd,Nat.reduceBEq,q0b,Int.reduceEq]
   ·simp(disch:=first|decide|omega|(simp only[LN];first|done|omega)) only[SV,SW,f80,Int.reduceNeg,Nat.reduceAdd,Nat.reduceBEq,q0b,Int.reduceEq,and_false,true_and]
  ·simp(disch:=first|decide|omega|(simp only[LN];first|done|omega)) only[SV,SW,f80,Int.reduceNeg,Nat.reduceAdd,Nat.reduceBEq,q0b,Int.reduceEq]
 ·by_cases h:0≤n
  ·by_cases h2:n<t.globals.length
   ·simp(disch:=first|decide|omega|(simp only[LN];first|done|omega)) only[SV,SW,f80,Int.reduceNeg,Nat.reduceAdd,Nat.reduceBEq,q0b,Int.reduceEq,true_and]
   ·simp(disch:=first|decide|omega|(simp only[LN];first|done|omega)) only[SV,SW,f80,Int.reduceNeg,Nat.reduceAdd,Nat.reduceBEq,q0b,Int.reduceEq,true_and,and_false]
  ·simp(disch:=first|decide|omega|(simp only[LN];first|done|omega)) only[SV,SW,f80,Int.reduceNeg,Nat.reduceAdd,Nat.reduceBEq,q0b,Int.reduceEq]
 ·by_cases h:0≤n
  ·by_cases h2:n<t.shapes.length
   ·simp(disch:=first|decide|omega|(simp only[LN];first|done|omega)) only[SV,SW,f80,Int.reduceNeg,Nat.reduceAdd,Nat.reduceBEq,q0b,Int.reduceEq,true_and]
   ·simp(disch:=first|decide|omega|(simp only[LN];first|done|omega)) only[SV,SW,f80,Int.reduceNeg,Nat.reduceAdd,Nat.reduceBEq,q0b,Int.reduceEq,true_and,and_false]
  ·simp(disch:=first|decide|omega|(simp only[LN];first|done|omega)) only[SV,SW,f80,Int.reduceNeg,Nat.reduceAdd,Nat.reduceBEq,q0b,Int.reduceEq]
 ·by_cases h:1≤n
  ·by_cases h2:n≤11
   ·simp(disch:=first|decide|omega|(simp only[LN];first|done|omega)) only[SV,SW,f80,Int.reduceNeg,Nat.reduceAdd,Nat.reduceBEq,q0b,Int.reduceEq,true_and]
   ·simp(disch:=first|decide|omega|(simp only[LN];first|done|omega)) only[SV,SW,f80,Int.reduceNeg,Nat.reduceAdd,Nat.reduceBEq,q0b,Int.reduceEq,true_and,and_false]
  ·simp(disch:=first|decide|omega|(simp only[LN];first|done|omega)) only[SV,SW,f80,Int.reduceNeg,Nat.reduceAdd,Nat.reduceBEq,q0b,Int.reduceEq]
 ·by_cases h:1≤n
  ·by_cases h2:n≤4
   ·simp(disch:=first|decide|omega|(simp only[LN];first|done|omega)) only[SV,SW,f80,Int.reduceNeg,Nat.reduceAdd,Nat.reduceBEq,q0b,Int.reduceEq,true_and]
   ·simp(disch:=first|decide|omega|(simp only[LN];first|done|omega)) only[SV,SW,f80,Int.reduceNeg,Nat.reduceAdd,Nat.reduceBEq,q0b,Int.reduceEq,true_and,and_false]
  ·simp(disch:=first|decide|omega|(simp only[LN];first|done|omega)) only[SV,SW,f80,Int.reduceNeg,Nat.reduceAdd,Nat.reduceBEq,q0b,Int.reduceEq]
 ·by_cases h:n≤at_
  ·simp(disch:=first|decide|omega|(simp only[LN];first|done|omega)) only[SV,SW,f80,Int.reduceNeg,Nat.reduceAdd,Nat.reduceBEq,q0b,Int.reduceEq]
  ·by_cases h2:(g.code.length:Int)≤n
   ·simp(disch:=first|decide|omega|(simp only[LN];first|done|omega)) only[SV,SW,f80,Int.reduceNeg,Nat.reduceAdd,Nat.reduceBEq,q0b,Int.reduceEq,true_and]
   ·simp(disch:=first|decide|omega|(simp only[LN];first|done|omega)) only[SV,SW,f80,Int.reduceNeg,Nat.reduceAdd,Nat.reduceBEq,q0b,Int.reduceEq]
theorem z7g(K:Cx)(c:Bool)(Dp:List Int)(at_ d:Int)(h:0≤at_∧at_<Dp.length)(n:Nat)(hn:n=Dp.length) :
  q0o K f82 [.bsl 0 0 n,.d false (.int .i64 at_),.d false (.int .i64 d)] [.dat c 1 (Dp.map eInt)]=some (.d false (.bool (q1g Dp at_ d)),[.dat c 1 ((q0L Dp at_ d).map eInt)],[]):=by
 subst hn
 obtain⟨h0,h1⟩:=h
 unfold q1g q0L
 have hs:=q89 Dp at_ d h0 h1
 by_cases g:nth Dp at_=0
 ·rw[if_pos g,if_pos g]
  simp(disch:=first|decide|omega|(simp only[LN];first|done|omega)) only[SV,SW,f82,Nat.reduceAdd,Nat.reduceBEq,g,q0q,q6Q,lose,hs,z7Y,q0b]
 ·rw[if_neg g,if_neg g]
  simp(disch:=first|decide|omega|(simp only[LN];first|done|omega)) only[SV,SW,f82,Nat.reduceAdd,Nat.reduceBEq,q0q,z7Y,q0b]
set_option maxHeartbeats 8000000 in
theorem z2w(K:Cx)(t:Table)(x:Instr)(d:Int)(hd:1≤d∧d≤8000)(ha:0≤x.a∧x.a≤9223372036854775807∨(x.op≠1∧x.op≠4∧x.op≠5∧x.op≠7∧x.op≠8))(hs:x.op=9∨x.op=10→0≤x.a∧x.a<t.shapes.length∧0≤(nth t.shapes x.a).fields∧(nth t.shapes x.a).fields≤8) :
  q0o K f81 [.agg [.d false (.sl 2 (t.shapes.map q0c)),.d false (.sl 3 (t.globals.map q0l))],.agg [.d false (.int .i64 x.op),.d false (.int .i64 x.a),.d false (.int .i64 x.b)],.d false (.int .i64 d)] []
  = some (.tup [.d false (.int .i64 (q0t t.shapes x d).1),.d false (.bool (q0t t.shapes x d).2)],[],[]):=by
 obtain⟨op,a,b⟩:=x
 simp only at ha hs ⊢
 obtain⟨d1,d2⟩:=hd
 unfold q0t
 simp only
 by_cases g1:op=1
 ·subst g1
  have⟨a1,a2⟩:0≤a∧a≤9223372036854775807:=by omega
  clear hs ha
  by_cases k:a<d
  ·simp(disch:=first|decide|omega|(simp only[LN];first|done|omega)) only[SV,SW,f81,Nat.reduceAdd,Nat.reduceBEq,q0b,Int.reduceEq]
  ·simp(disch:=first|decide|omega|(simp only[LN];first|done|omega)) only[SV,SW,f81,Nat.reduceAdd,Nat.reduceBEq,q0b,Int.reduceEq]
 by_cases g2:op=2
 ·subst g2
  simp(disch:=first|decide|omega|(simp only[LN];first|done|omega)) only[SV,SW,f81,Nat.reduceAdd,Nat.reduceBEq,q0b,Int.reduceEq]
 by_cases g3:op=3
 ·subst g3
  simp(disch:=first|decide|omega|(simp only[LN];first|done|omega)) only[SV,SW,f81,Nat.reduceAdd,Nat.reduceBEq,q0b,Int.reduceEq]
 by_cases g4:op=4
 ·subst g4
  have⟨a1,a2⟩:0≤a∧a≤9223372036854775807:=by omega
  clear hs ha
  by_cases k:a<d
  ·simp(disch:=first|decide|omega|(simp only[LN];first|done|omega)) only[SV,SW,f81,Nat.reduceAdd,Nat.reduceBEq,q0b,Int.reduceEq]
  ·simp(disch:=first|decide|omega|(simp only[LN];first|done|omega)) only[SV,SW,f81,Nat.reduceAdd,Nat.reduceBEq,q0b,Int.reduceEq]
 by_cases g5:op=5
 ·subst g5
  have⟨a1,a2⟩:0≤a∧a≤9223372036854775807:=by omega
  clear hs ha
  by_cases k:a<d - 1
  ·simp(disch:=first|decide|omega|(simp only[LN];first|done|omega)) only[SV,SW,f81,Nat.reduceAdd,Nat.reduceBEq,q0b,Int.reduceEq]
  ·simp(disch:=first|decide|omega|(simp only[LN];first|done|omega)) only[SV,SW,f81,Nat.reduceAdd,Nat.reduceBEq,q0b,Int.reduceEq]
 by_cases g6:op=6
 ·subst g6
  by_cases k:2<d
  ·simp(disch:=first|decide|omega|(simp only[LN];first|done|omega)) only[SV,SW,f81,Nat.reduceAdd,Nat.reduceBEq,q0b,Int.reduceEq]
  ·simp(disch:=first|decide|omega|(simp only[LN];first|done|omega)) only[SV,SW,f81,Nat.reduceAdd,Nat.reduceBEq,q0b,Int.reduceEq]
 by_cases g12:op=12
 ·subst g12
  by_cases k:2<d
  ·simp(disch:=first|decide|omega|(simp only[LN];first|done|omega)) only[SV,SW,f81,Nat.reduceAdd,Nat.reduceBEq,q0b,Int.reduceEq]
  ·simp(disch:=first|decide|omega|(simp only[LN];first|done|omega)) only[SV,SW,f81,Nat.reduceAdd,Nat.reduceBEq,q0b,Int.reduceEq]
 by_cases g7:op=7
 ·subst g7
  have⟨a1,a2⟩:0≤a∧a≤9223372036854775807:=by omega
  clear hs ha
  by_cases k:a<d
  ·simp(disch:=first|decide|omega|(simp only[LN];first|done|omega)) only[SV,SW,f81,Nat.reduceAdd,Nat.reduceBEq,q0b,Int.reduceEq]
  ·simp(disch:=first|decide|omega|(simp only[LN];first|done|omega)) only[SV,SW,f81,Nat.reduceAdd,Nat.reduceBEq,q0b,Int.reduceEq]
 by_cases g8:op=8
 ·subst g8
  have⟨a1,a2⟩:0≤a∧a≤9223372036854775807:=by omega
  clear hs ha
  by_cases k:8000<a
  ·simp(disch:=first|decide|omega|(simp only[LN];first|done|omega)) only[SV,SW,f81,Nat.reduceAdd,Nat.reduceBEq,q0b,Int.reduceEq]
  ·by_cases k2:d+a≤8000
   ·simp(disch:=first|decide|omega|(simp only[LN];first|done|omega)) only[SV,SW,f81,Nat.reduceAdd,Nat.reduceBEq,q0b,Int.reduceEq]
   ·simp(disch:=first|decide|omega|(simp only[LN];first|done|omega)) only[SV,SW,f81,Nat.reduceAdd,Nat.reduceBEq,q0b,Int.reduceEq]
 by_cases g9:op=9
 ·subst g9
  obtain⟨a1,a2,a3,a4⟩:=hs (.inl rfl)
  clear ha
  unfold q0R
  generalize hf:(nth t.shapes a).fields=fl at a3 a4
  by_cases k:fl<d
  ·simp(disch:=first|decide|omega|(simp only[LN];first|done|omega)) only[SV,SW,f81,Nat.reduceAdd,Nat.reduceBEq,q0g,hf,q0b,Int.reduceEq]
  ·simp(disch:=first|decide|omega|(simp only[LN];first|done|omega)) only[SV,SW,f81,Nat.reduceAdd,Nat.reduceBEq,q0g,hf,q0b,Int.reduceEq]
 by_cases g10:op=10
 ·subst g10
  obtain⟨a1,a2,a3,a4⟩:=hs (.inr rfl)
  clear ha
  unfold q0R
  generalize hf:(nth t.shapes a).fields=fl at a3 a4
  by_cases k:1<d
  ·by_cases k2:d - 1+fl≤8000
   ·simp(disch:=first|decide|omega|(simp only[LN];first|done|omega)) only[SV,SW,f81,Nat.reduceAdd,Nat.reduceBEq,q0g,hf,q0b,Int.reduceEq]
   ·simp(disch:=first|decide|omega|(simp only[LN];first|done|omega)) only[SV,SW,f81,Nat.reduceAdd,Nat.reduceBEq,q0g,hf,q0b,Int.reduceEq]
  ·simp(disch:=first|decide|omega|(simp only[LN];first|done|omega)) only[SV,SW,f81,Nat.reduceAdd,Nat.reduceBEq,q0g,hf,q0b,Int.reduceEq]
 by_cases g11:op=11
 ·subst g11
  by_cases k:1<d
  ·simp(disch:=first|decide|omega|(simp only[LN];first|done|omega)) only[SV,SW,f81,Nat.reduceAdd,Nat.reduceBEq,q0b,Int.reduceEq]
  ·simp(disch:=first|decide|omega|(simp only[LN];first|done|omega)) only[SV,SW,f81,Nat.reduceAdd,Nat.reduceBEq,q0b,Int.reduceEq]
 by_cases g14:op=14
 ·subst g14
  by_cases k:1<d
  ·simp(disch:=first|decide|omega|(simp only[LN];first|done|omega)) only[SV,SW,f81,Nat.reduceAdd,Nat.reduceBEq,q0b,Int.reduceEq]
  ·simp(disch:=first|decide|omega|(simp only[LN];first|done|omega)) only[SV,SW,f81,Nat.reduceAdd,Nat.reduceBEq,q0b,Int.reduceEq]
 by_cases g15:op=15
 ·subst g15
  by_cases k:1<d
  ·simp(disch:=first|decide|omega|(simp only[LN];first|done|omega)) only[SV,SW,f81,Nat.reduceAdd,Nat.reduceBEq,q0b,Int.reduceEq]
  ·simp(disch:=first|decide|omega|(simp only[LN];first|done|omega)) only[SV,SW,f81,Nat.reduceAdd,Nat.reduceBEq,q0b,Int.reduceEq]
 by_cases g17:op=17
 ·subst g17
  by_cases k:d=1
  ·simp(disch:=first|decide|omega|(simp only[LN];first|done|omega)) only[SV,SW,f81,k,Nat.reduceAdd,Nat.reduceBEq,q0b,Int.reduceEq,Int.reduceAdd,Int.reduceSub]
  ·simp(disch:=first|decide|omega|(simp only[LN];first|done|omega)) only[SV,SW,f81,Nat.reduceAdd,Nat.reduceBEq,q0b,Int.reduceEq,k]
 ·simp(disch:=first|decide|omega|(simp only[LN];first|done|omega)) only[SV,SW,f81,Nat.reduceAdd,Nat.reduceBEq,q0b,g1,g2,g3,g4,g5,g6,g12,g7,g8,g9,g10,g11,g14,g15,g17]
end Go.Vm
end

section
namespace Go.Vm
set_option maxHeartbeats 8000000 in
theorem z7m(K:Cx)(op:Int):q0o K f79 [.d false (.int .i64 op)] []=some (z6o (q2g op) (decide (1≤op∧op<18)),[],[]):=by
 unfold q2g
 by_cases h:1≤op∧op<18
 ·rw[if_pos h]
  have hd:decide (1≤op∧op<18)=true:=by simpa using h
  rw[hd]
  obtain⟨h1,h2⟩:=h
  have:op=1∨op=2∨op=3∨op=4∨op=5∨op=6∨op=7∨op=8∨op=9∨op=10∨op=11∨op=12∨op=13∨op=14∨op=15∨op=16∨op=17:=by omega
  simp(disch:=first|decide|omega|(simp only[LN];first|done|omega)) only[SV,SW,f79,Nat.reduceAdd,Nat.reduceBEq,lose,e_aa,evAa]
  clear hd h1 h2
  rcases this with rfl|rfl|rfl|rfl|rfl|rfl|rfl|rfl|rfl|rfl|rfl|rfl|rfl|rfl|rfl|rfl|rfl
  all_goals(simp(disch:=first|decide|omega|(simp only[LN];first|done|omega)) only[SV,SW,Int.reduceToNat,Nat.reduceMul,Nat.reduceSub,Nat.min_def,lose,Nat.reduceBEq,Nat.reduceAdd,q0b];rfl)
 ·rw[if_neg h]
  have hd:decide (1≤op∧op<18)=false:=by simpa using h
  rw[hd]
  clear hd
  by_cases h1:op<1
  ·simp(disch:=first|decide|omega|(simp only[LN];first|done|omega)) only[SV,SW,f79,Nat.reduceAdd,Nat.reduceBEq,lose,q0b]
   rfl
  ·simp(disch:=first|decide|omega|(simp only[LN];first|done|omega)) only[SV,SW,f79,Nat.reduceAdd,Nat.reduceBEq,lose,q0b]
   rfl
end Go.Vm
end

section
namespace Go.Vm
open Go.RowKit Go.Shelf Go.Proofs
theorem z2D(a b:Instr)(h:q0j a=q0j b):a=b:=by
 cases a;cases b
 simp only[q0j,List.cons.injEq,D.int.injEq,true_and,and_true] at h
 simp only[Instr.mk.injEq]
 exact h
theorem z2C(a b:Shape)(h:q0c a=q0c b):a=b:=by
 cases a;cases b
 simp only[q0c,List.cons.injEq,D.int.injEq,D.str.injEq,true_and,and_true] at h
 simp only[Shape.mk.injEq]
 exact h
theorem q6s{α β:Type}{f:α→β}(hf:∀ a b,f a=f b→a=b):∀ l l':List α,l.map f=l'.map f→l=l'
 |[],[],_=>rfl
 |[],_ :: _,h=>by simp at h
 |_ :: _,[],h=>by simp at h
 |a :: l,b :: l',h=>by
  simp only[List.map_cons,List.cons.injEq] at h
  rw[hf a b h.1,q6s hf l l' h.2]
theorem mI(l l':List Instr):l.map q0j=l'.map q0j↔l=l':=⟨q6s z2D l l',fun h=>by rw[h]⟩
theorem mS(l l':List Shape):l.map q0c=l'.map q0c↔l=l':=⟨q6s z2C l l',fun h=>by rw[h]⟩
theorem z5t(a b:Glob)(h:q0l a=q0l b):a=b:=by
 cases a;cases b
 simp only[q0l,List.cons.injEq,D.int.injEq,D.str.injEq,D.sl.injEq,mI,true_and,and_true] at h
 simp only[Glob.mk.injEq]
 exact h
theorem mG(l l':List Glob):l.map q0l=l'.map q0l↔l=l':=⟨q6s z5t l l',fun h=>by rw[h]⟩
theorem z7A(a b:Int)(h:eInt a=eInt b):a=b:=by simpa [eInt] using h
theorem mN(l l':List Int):l.map eInt=l'.map eInt↔l=l':=⟨q6s z7A l l',fun h=>by rw[h]⟩
theorem q3f(t u:Table)(h:t.shapes=u.shapes∧t.globals=u.globals):t=u:=by
 cases t;cases u
 simp only[Table.mk.injEq]
 exact h
noncomputable def z35:Sp where
 α:=List UInt8
 f:=35
 ok:=fun s=>((s.length:Int)≤9223372036854775807)
 args:=fun s=>[.d false (.str s)]
 res:=fun s=>(.d false (.bool (q1p s)),[])
 inj:=by
  rintro s s' _ _ h
  simp only[List.cons.injEq,V.agg.injEq,V.d.injEq,D.sl.injEq,D.int.injEq,D.str.injEq,D.ptr.injEq,Int.natCast_inj,mI,mS,mG,mN,true_and,and_true] at h
  rw[h]
noncomputable def z36:Sp where
 α:=Unit
 f:=36
 ok:=fun u=>True
 args:=fun u=>[]
 res:=fun u=>(.bsl 0 0 7,[.dat true 2 (givenS.map q0c)])
 inj:=by
  rintro u u' _ _ h
  rfl
noncomputable def z34:Sp where
 α:=Table
 f:=34
 ok:=fun t=>(TabOk t)
 args:=fun t=>[.agg [.d false (.sl 2 (t.shapes.map q0c)),.d false (.sl 3 (t.globals.map q0l))]]
 res:=fun t=>(.d false (.bool (q2M t)),[])
 inj:=by
  rintro t t' _ _ h
  simp only[List.cons.injEq,V.agg.injEq,V.d.injEq,D.sl.injEq,mS,mG,true_and,and_true] at h
  rw[q3f _ _ h]
noncomputable def z79:Sp where
 α:=Int
 f:=79
 ok:=fun op=>True
 args:=fun op=>[.d false (.int .i64 op)]
 res:=fun op=>(z6o (q2g op) (decide (1≤op∧op<18)),[])
 inj:=by
  rintro op op' _ _ h
  simp only[List.cons.injEq,V.agg.injEq,V.d.injEq,D.sl.injEq,D.int.injEq,D.str.injEq,D.ptr.injEq,Int.natCast_inj,mI,mS,mG,mN,true_and,and_true] at h
  rw[h]
noncomputable def z80:Sp where
 α:=List Shape×List Glob×List UInt8×Int×List Instr×Int×Int×Int
 f:=80
 ok:=fun(sh,gl,nm,ar,cd,at_,n,kind)=>(0≤kind∧kind≤8)
 args:=fun(sh,gl,nm,ar,cd,at_,n,kind)=>[.agg [.d false (.sl 2 (sh.map q0c)),.d false (.sl 3 (gl.map q0l))],.agg [.d false (.str nm),.d false (.int .i64 ar),.d false (.sl 3 (cd.map q0j))],.d false (.int .i64 at_),.d false (.int .i64 n),.d false (.int .i64 kind)]
 res:=fun(sh,gl,nm,ar,cd,at_,n,kind)=>(.d false (.int .i64 (q0S gl.length sh.length cd.length at_ n kind)),[])
 inj:=by
  rintro⟨sh,gl,nm,ar,cd,at_,n,kind⟩ ⟨sh',gl',nm',ar',cd',at_',n',kind'⟩ _ _ h
  simp only[List.cons.injEq,V.agg.injEq,V.d.injEq,D.sl.injEq,D.int.injEq,D.str.injEq,D.ptr.injEq,Int.natCast_inj,mI,mS,mG,mN,true_and,and_true] at h
  simp only[h]
noncomputable def z81:Sp where
 α:=List Shape×List Glob×Int×Int×Int×Int
 f:=81
 ok:=fun(sh,gl,op,a,b,d)=>(1≤d∧d≤8000)∧(0≤a∧a≤9223372036854775807∨(op≠1∧op≠4∧op≠5∧op≠7∧op≠8))∧(op=9∨op=10→0≤a∧a<sh.length∧0≤(nth sh a).fields∧(nth sh a).fields≤8)
 args:=fun(sh,gl,op,a,b,d)=>[.agg [.d false (.sl 2 (sh.map q0c)),.d false (.sl 3 (gl.map q0l))],.agg [.d false (.int .i64 op),.d false (.int .i64 a),.d false (.int .i64 b)],.d false (.int .i64 d)]
 res:=fun(sh,gl,op,a,b,d)=>(.tup [.d false (.int .i64 (q0t sh ⟨op,a,b⟩ d).1),.d false (.bool (q0t sh ⟨op,a,b⟩ d).2)],[])
 inj:=by
  rintro⟨sh,gl,op,a,b,d⟩ ⟨sh',gl',op',a',b',d'⟩ _ _ h
  simp only[List.cons.injEq,V.agg.injEq,V.d.injEq,D.sl.injEq,D.int.injEq,D.str.injEq,D.ptr.injEq,Int.natCast_inj,mI,mS,mG,mN,true_and,and_true] at h
  simp only[h]
noncomputable def z37:Sp where
 α:=List Shape×List Glob×List UInt8×Int×List Instr
 f:=37
 ok:=fun(sh,gl,nm,ar,cd)=>(ShOk sh)∧(cd.length≤8000)∧(0≤ar∧ar≤24)∧(∀ x∈cd,x.a≤9223372036854775807)
 args:=fun(sh,gl,nm,ar,cd)=>[.agg [.d false (.sl 2 (sh.map q0c)),.d false (.sl 3 (gl.map q0l))],.agg [.d false (.str nm),.d false (.int .i64 ar),.d false (.sl 3 (cd.map q0j))]]
 res:=fun(sh,gl,nm,ar,cd)=>(.d false (.int .i64 (q1l gl.length sh ⟨nm,ar,cd⟩)),[])
 inj:=by
  rintro⟨sh,gl,nm,ar,cd⟩ ⟨sh',gl',nm',ar',cd'⟩ _ _ h
  simp only[List.cons.injEq,V.agg.injEq,V.d.injEq,D.sl.injEq,D.int.injEq,D.str.injEq,D.ptr.injEq,Int.natCast_inj,mI,mS,mG,mN,true_and,and_true] at h
  simp only[h]
noncomputable def z13:Sp where
 α:=Table
 f:=13
 ok:=fun t=>(TabOk t)
 args:=fun t=>[.agg [.d false (.sl 2 (t.shapes.map q0c)),.d false (.sl 3 (t.globals.map q0l))]]
 res:=fun t=>(.d false (.int .i64 (q5v t)),[])
 inj:=by
  rintro t t' _ _ h
  simp only[List.cons.injEq,V.agg.injEq,V.d.injEq,D.sl.injEq,mS,mG,true_and,and_true] at h
  rw[q3f _ _ h]
noncomputable def z28:Sp where
 α:=List Shape×List Glob×Int×Int×Int
 f:=28
 ok:=fun(sh,gl,op,a,b)=>True
 args:=fun(sh,gl,op,a,b)=>[.agg [.d false (.sl 2 (sh.map q0c)),.d false (.sl 3 (gl.map q0l))],.agg [.d false (.int .i64 op),.d false (.int .i64 a),.d false (.int .i64 b)]]
 res:=fun(sh,gl,op,a,b)=>(.d false (.bool (q1D gl.length sh.length ⟨op,a,b⟩)),[])
 inj:=by
  rintro⟨sh,gl,op,a,b⟩ ⟨sh',gl',op',a',b'⟩ _ _ h
  simp only[List.cons.injEq,V.agg.injEq,V.d.injEq,D.sl.injEq,D.int.injEq,D.str.injEq,D.ptr.injEq,Int.natCast_inj,mI,mS,mG,mN,true_and,and_true] at h
  simp only[h]
noncomputable def z32:Sp where
 α:=Int×Int×Int
 f:=32
 ok:=fun(op,a,b)=>True
 args:=fun(op,a,b)=>[.agg [.d false (.int .i64 op),.d false (.int .i64 a),.d false (.int .i64 b)]]
 res:=fun(op,a,b)=>(.d false (.int .i64 (q04 ⟨op,a,b⟩)),[])
 inj:=by
  rintro⟨op,a,b⟩ ⟨op',a',b'⟩ _ _ h
  simp only[List.cons.injEq,V.agg.injEq,V.d.injEq,D.sl.injEq,D.int.injEq,D.str.injEq,D.ptr.injEq,Int.natCast_inj,mI,mS,mG,mN,true_and,and_true] at h
  simp only[h]
noncomputable def z30:Sp where
 α:=Int×Int×Int
 f:=30
 ok:=fun(op,a,b)=>True
 args:=fun(op,a,b)=>[.agg [.d false (.int .i64 op),.d false (.int .i64 a),.d false (.int .i64 b)]]
 res:=fun(op,a,b)=>(.d false (.bool (q5D ⟨op,a,b⟩)),[])
 inj:=by
  rintro⟨op,a,b⟩ ⟨op',a',b'⟩ _ _ h
  simp only[List.cons.injEq,V.agg.injEq,V.d.injEq,D.sl.injEq,D.int.injEq,D.str.injEq,D.ptr.injEq,Int.natCast_inj,mI,mS,mG,mN,true_and,and_true] at h
  simp only[h]
noncomputable def z29:Sp where
 α:=List Shape×List Glob×Int×Int×Int×Int
 f:=29
 ok:=fun(sh,gl,op,a,b,d)=>(1≤d∧d≤8000)∧(op=9→0≤a∧a<sh.length)
 args:=fun(sh,gl,op,a,b,d)=>[.agg [.d false (.sl 2 (sh.map q0c)),.d false (.sl 3 (gl.map q0l))],.agg [.d false (.int .i64 op),.d false (.int .i64 a),.d false (.int .i64 b)],.d false (.int .i64 d)]
 res:=fun(sh,gl,op,a,b,d)=>(.d false (.bool (q3L sh ⟨op,a,b⟩ d)),[])
 inj:=by
  rintro⟨sh,gl,op,a,b,d⟩ ⟨sh',gl',op',a',b',d'⟩ _ _ h
  simp only[List.cons.injEq,V.agg.injEq,V.d.injEq,D.sl.injEq,D.int.injEq,D.str.injEq,D.ptr.injEq,Int.natCast_inj,mI,mS,mG,mN,true_and,and_true] at h
  simp only[h]
noncomputable def z31:Sp where
 α:=List Shape×List Glob×Int×Int×Int×Int
 f:=31
 ok:=fun(sh,gl,op,a,b,d)=>(1≤d∧d≤8000)∧(op=4∨op=5∨op=8→0≤a∧a≤9223372036854775807)∧(op=9∨op=10→0≤a∧a<sh.length∧0≤q0R sh a∧q0R sh a≤8)
 args:=fun(sh,gl,op,a,b,d)=>[.agg [.d false (.sl 2 (sh.map q0c)),.d false (.sl 3 (gl.map q0l))],.agg [.d false (.int .i64 op),.d false (.int .i64 a),.d false (.int .i64 b)],.d false (.int .i64 d)]
 res:=fun(sh,gl,op,a,b,d)=>(.d false (.int .i64 (q06 sh ⟨op,a,b⟩ d)),[])
 inj:=by
  rintro⟨sh,gl,op,a,b,d⟩ ⟨sh',gl',op',a',b',d'⟩ _ _ h
  simp only[List.cons.injEq,V.agg.injEq,V.d.injEq,D.sl.injEq,D.int.injEq,D.str.injEq,D.ptr.injEq,Int.natCast_inj,mI,mS,mG,mN,true_and,and_true] at h
  simp only[h]
noncomputable def z11:Sp where
 α:=Unit
 f:=11
 ok:=fun _=>True
 args:=fun _=>[]
 res:=fun _=>(.d false (.bool true),[])
 inj:=by
  rintro u u' _ _ h
  rfl
noncomputable def y82:Se where
 α:=Bool×List Int×Int×Int
 f:=82
 ok:=fun(_,Dp,at_,_)=>0≤at_∧at_<Dp.length
 args:=fun(_,Dp,at_,d)=>[.bsl 0 0 Dp.length,.d false (.int .i64 at_),.d false (.int .i64 d)]
 blks:=fun(c,Dp,_,_)=>[.dat c 1 (Dp.map eInt)]
 res:=fun(c,Dp,at_,d)=>(.d false (.bool (q1g Dp at_ d)),[.dat c 1 ((q0L Dp at_ d).map eInt)],[])
 inj:=by
  rintro⟨c,Dp,at_,d⟩ ⟨c',Dp',at_',d'⟩ _ _ h h2
  simp only[List.cons.injEq,V.bsl.injEq,V.d.injEq,D.int.injEq,true_and,and_true] at h
  simp only[List.cons.injEq,Blk.dat.injEq,mN,true_and,and_true] at h2
  simp only[h,h2]
theorem j0I{G:Nat→Option (List D)}{L:List Sp}{E:List Se}(h:Has L z35):K21 (cx G L E):=fun s h1=>h s h1
theorem j0H{G:Nat→Option (List D)}{L:List Sp}{E:List Se}(h:Has L z36):K22 (cx G L E):=h () trivial
theorem j0J{G:Nat→Option (List D)}{L:List Sp}{E:List Se}(h:Has L z34):K20 (cx G L E):=fun t h1=>h t h1
theorem j0z{G:Nat→Option (List D)}{L:List Sp}{E:List Se}(h:Has L z79):K40 (cx G L E):=fun op=>h op trivial
theorem j0y{G:Nat→Option (List D)}{L:List Sp}{E:List Se}(h:Has L z80):K41 (cx G L E):=fun sh gl nm ar cd at_ n kind h1=>h (sh,gl,nm,ar,cd,at_,n,kind) h1
theorem j0x{G:Nat→Option (List D)}{L:List Sp}{E:List Se}(h:Has L z81):K42 (cx G L E):=fun sh gl op a b d h1 h2 h3=>h (sh,gl,op,a,b,d) ⟨h1,h2,h3⟩
theorem j0G{G:Nat→Option (List D)}{L:List Sp}{E:List Se}(h:Has L z37):K23 (cx G L E):=fun sh gl nm ar cd h1 h2 h3 h4=>h (sh,gl,nm,ar,cd) ⟨h1,h2,h3,h4⟩
theorem j0Q{G:Nat→Option (List D)}{L:List Sp}{E:List Se}(h:Has L z13):K13 (cx G L E):=fun t h1=>h t h1
theorem j0N{G:Nat→Option (List D)}{L:List Sp}{E:List Se}(h:Has L z28):K46 (cx G L E):=fun sh gl ⟨op,a,b⟩=>h (sh,gl,op,a,b) trivial
theorem z77{G:Nat→Option (List D)}{L:List Sp}{E:List Se}(h:Has L z32):K48 (cx G L E):=fun⟨op,a,b⟩=>h (op,a,b) trivial
theorem j0L{G:Nat→Option (List D)}{L:List Sp}{E:List Se}(h:Has L z30):K51 (cx G L E):=fun⟨op,a,b⟩=>h (op,a,b) trivial
theorem j0M{G:Nat→Option (List D)}{L:List Sp}{E:List Se}(h:Has L z29):K49 (cx G L E):=fun sh gl ⟨op,a,b⟩ d h1 h2=>h (sh,gl,op,a,b,d) ⟨h1,h2⟩
theorem j0K{G:Nat→Option (List D)}{L:List Sp}{E:List Se}(h:Has L z31):K50 (cx G L E):=fun sh gl ⟨op,a,b⟩ d h1 h2 h3=>h (sh,gl,op,a,b,d) ⟨h1,h2,h3⟩
theorem j0w{G:Nat→Option (List D)}{L:List Sp}{E:List Se}(h:HasE E y82):K43 (cx G L E):=fun c Dp at_ d n h1 h2=>by subst h2;exact h (c,Dp,at_,d) h1
theorem j0S{G:Nat→Option (List D)}{L:List Sp}{E:List Se}(h:Has L z11):(cx G L E).call 11 []=some (.d false (.bool true),[]):=h () trivial
noncomputable def ZL0:List Sp:=[z11]
noncomputable def ZE0:List Se:=[y82]
theorem zn0:Known Tryz.prog GT ZL0 ZE0:=(Known.nil.put (s:=z11) (fun _ _=>j1Y)).addE q0C (fun⟨c,Dp,at_,d⟩ _=>j03) (fun⟨c,Dp,at_,d⟩ h=>z7g _ c Dp at_ d h _ rfl)
noncomputable def ZL1:List Sp:=z35 :: ZL0
theorem zn1:Known Tryz.prog GT ZL1 ZE0:=by
 exact zn0.add q0C (fun s _=>j1r) (fun s h1=>⟨_,z49 _ s h1⟩)
noncomputable def ZL2:List Sp:=z36 :: ZL1
theorem zn2:Known Tryz.prog GT ZL2 ZE0:=by
 exact zn1.add q0C (fun u _=>j1q) (fun u _=>⟨_,z7l _⟩)
noncomputable def ZL3:List Sp:=z34 :: ZL2
theorem zn3:Known Tryz.prog GT ZL3 ZE0:=by
 exact zn2.add q0C (fun t _=>j1s) (fun t h1=>⟨_,z7k _ t h1.gl h1.sh h1.cd⟩)
noncomputable def ZL4:List Sp:=z79 :: ZL3
theorem zn4:Known Tryz.prog GT ZL4 ZE0:=by
 exact zn3.add q0C (fun op _=>j06) (fun op _=>⟨_,z7m _ op⟩)
noncomputable def ZL5:List Sp:=z80 :: ZL4
theorem zn5:Known Tryz.prog GT ZL5 ZE0:=by
 exact zn4.add q0C (fun⟨sh,gl,nm,ar,cd,at_,n,kind⟩ _=>j05) (fun⟨sh,gl,nm,ar,cd,at_,n,kind⟩ h1=>⟨_,z48 _ ⟨sh,gl⟩ ⟨nm,ar,cd⟩ at_ n kind h1⟩)
noncomputable def ZL6:List Sp:=z81 :: ZL5
theorem zn6:Known Tryz.prog GT ZL6 ZE0:=by
 exact zn5.add q0C (fun⟨sh,gl,op,a,b,d⟩ _=>j04) (fun⟨sh,gl,op,a,b,d⟩ ⟨h1,h2,h3⟩=>⟨_,z2w _ ⟨sh,gl⟩ ⟨op,a,b⟩ d h1 h2 h3⟩)
noncomputable def ZL7:List Sp:=z37 :: ZL6
theorem zn7:Known Tryz.prog GT ZL7 ZE0:=by
 have k79:=j0z (G:=GT) (E:=ZE0) (show Has ZL6 z79 by repeat(first|exact q0n _ _|refine q0m ?_ (by decide)))
 have k80:=j0y (G:=GT) (E:=ZE0) (show Has ZL6 z80 by repeat(first|exact q0n _ _|refine q0m ?_ (by decide)))
 have k81:=j0x (G:=GT) (E:=ZE0) (show Has ZL6 z81 by repeat(first|exact q0n _ _|refine q0m ?_ (by decide)))
 have k82:K43 (cx GT ZL6 ZE0):=j0w (q6L _ _)
 exact zn6.add q0C (fun⟨sh,gl,nm,ar,cd⟩ _=>j1p) (fun⟨sh,gl,nm,ar,cd⟩ ⟨h1,h2,h3,h4⟩=>⟨_,q9t _ k79 k80 k81 k82 sh gl ⟨nm,ar,cd⟩ h1 h2 h3 h4⟩)
noncomputable def ZL8:List Sp:=z13 :: ZL7
theorem zn8:Known Tryz.prog GT ZL8 ZE0:=by
 have k34:=j0J (G:=GT) (E:=ZE0) (show Has ZL7 z34 by repeat(first|exact q0n _ _|refine q0m ?_ (by decide)))
 have k35:=j0I (G:=GT) (E:=ZE0) (show Has ZL7 z35 by repeat(first|exact q0n _ _|refine q0m ?_ (by decide)))
 have k36:=j0H (G:=GT) (E:=ZE0) (show Has ZL7 z36 by repeat(first|exact q0n _ _|refine q0m ?_ (by decide)))
 have k37:=j0G (G:=GT) (E:=ZE0) (show Has ZL7 z37 by repeat(first|exact q0n _ _|refine q0m ?_ (by decide)))
 exact zn7.add q0C (fun t _=>j1G) (fun t h1=>⟨_,z7n _ k34 k35 k36 k37 t h1⟩)
noncomputable def ZL9:List Sp:=z28 :: ZL8
theorem zn9:Known Tryz.prog GT ZL9 ZE0:=by
 exact zn8.add q0C (fun⟨sh,gl,op,a,b⟩ _=>j1x) (fun⟨sh,gl,op,a,b⟩ _=>⟨_,z2y _ sh gl ⟨op,a,b⟩⟩)
noncomputable def ZL10:List Sp:=z32 :: ZL9
theorem zn10:Known Tryz.prog GT ZL10 ZE0:=by
 exact zn9.add q0C (fun⟨op,a,b⟩ _=>j1t) (fun⟨op,a,b⟩ _=>⟨_,z5h _ ⟨op,a,b⟩⟩)
noncomputable def ZL11:List Sp:=z30 :: ZL10
theorem zn11:Known Tryz.prog GT ZL11 ZE0:=by
 exact zn10.add q0C (fun⟨op,a,b⟩ _=>j1v) (fun⟨op,a,b⟩ _=>⟨_,z9J _ ⟨op,a,b⟩⟩)
noncomputable def ZL12:List Sp:=z29 :: ZL11
theorem zn12:Known Tryz.prog GT ZL12 ZE0:=by
 exact zn11.add q0C (fun⟨sh,gl,op,a,b,d⟩ _=>j1w) (fun⟨sh,gl,op,a,b,d⟩ ⟨h1,h2⟩=>⟨_,z7o _ sh gl ⟨op,a,b⟩ d h1 h2⟩)
noncomputable def ZL13:List Sp:=z31 :: ZL12
theorem zn13:Known Tryz.prog GT ZL13 ZE0:=by
 exact zn12.add q0C (fun⟨sh,gl,op,a,b,d⟩ _=>j1u) (fun⟨sh,gl,op,a,b,d⟩ ⟨h1,h2,h3⟩=>⟨_,z5i _ sh gl ⟨op,a,b⟩ d h1 h2 h3⟩)
end Go.Vm
end

section
namespace Go.Vm
theorem q0v(K sl s):exec K (.keep sl) s=some (.nrm,skipM s sl):=rfl
theorem q0y(ρ H nx mv sl):skipM ⟨ρ,H,nx,mv⟩ sl=⟨q0f ρ sl++q78 sl,H,nx,mv⟩:=rfl
noncomputable def lpk(K:Cx)(sl:List Nat)(body:C)(s:S):Option (Ex×S):=match exec K body s with
 |some (.nrm,s')=>exec K (.loop (.seq (.keep sl) body)) s'
 |r=>r
noncomputable def lpkT(K:Cx)(sl:List Nat)(body:C)(x:Option (Ex×S)):Option (Ex×S):=match x with
 |some (.nrm,s')=>lpk K sl body (skipM s' sl)
 |r=>r
theorem q1o(K sl body s):lpkT K sl body (some (.nrm,s))=lpk K sl body (skipM s sl):=rfl
theorem q2b(K sl body n s):lpkT K sl body (some (.exit n,s))=some (.exit n,s):=rfl
theorem z6U(K sl body s):lpkT K sl body (some (.ret,s))=some (.ret,s):=rfl
theorem q1A(K sl body s):exec K (.loop (.seq (.keep sl) body)) s=lpk K sl body (skipM s sl):=by
 show q3J (exec K (.seq (.keep sl) body)) s=_
 rw[q5o,q1U,q0v]
 simp only[q2S]
 unfold lpk
 cases exec K body (skipM s sl) with
 |none=>rfl
 |some p=>
  obtain⟨e,s'⟩:=p
  cases e <;> rfl
theorem z9e(K sl body s):lpk K sl body s=lpkT K sl body (exec K body s):=by
 unfold lpk lpkT
 cases exec K body s with
 |none=>rfl
 |some p=>
  obtain⟨e,s'⟩:=p
  cases e <;> try rfl
  exact q1A K sl body s'
theorem q1n{K sl body body' s}(h:body=body'):lpk K sl body s=lpkT K sl body (exec K body' s):=by
 subst h;exact z9e K sl body s
theorem q21{α:Type}{k t:Nat}(v:α)(r:List (Nat×α))(h:k≠t):look ((k,v) :: r) t=look r t:=by simp only[look,if_neg h]
theorem q79{α:Type}(k:Nat)(v:α)(r:List (Nat×α)):look ((k,v) :: r) k=some v:=by simp only[look,if_true]
theorem q0a{α:Type}{k t:Nat}(v:α)(r:List (Nat×α))(h:k≠t):look (put r k v) t=look r t:=by rw[q0x,if_neg h]
theorem q0u{α:Type}(k:Nat)(v:α)(r:List (Nat×α)):look (put r k v) k=some v:=by rw[q0x,if_pos rfl]
end Go.Vm
end

section
namespace Go.Vm
set_option maxRecDepth 20000
open Go.Proofs
/- 'sloth/slothlaw17.lent' -/
def f12_L0:C:= (.seq (.seq (.reg [⟨[],[(18,(.bin .lss (.sl 4) (.len false (.sl 3))))],[],none,[1,2,3,4],4,[],[],[]⟩]) (.cond (.sl 18) .skip (.seq (.keep [1,2,3]) (.exit 0)))) (.seq (.block 1 (.seq (.reg [⟨[],[],[],some (none,.store 2 (.ia 2 (.sl 3) (.sl 4)) (.set 0 1 (.str [98,101,104,105,110,100]) (.agg (.cons (.str []) (.cons (.int .i64 0) .nil))))),[1,2,3,4],5,[],[],[]⟩]) (.seq (.reg [⟨[],[(29,(.bin .lss (.sl 4) (.len false (.ld 1 false (.fa 0 (.sl 1))))))],[],none,[1,2,3,4],5,[],[],[]⟩]) (.cond (.sl 29) (.reg [⟨[],[],[],some (none,.store 2 (.ia 2 (.sl 3) (.sl 4)) (.ld 2 true (.ia 2 (.ld 1 false (.fa 0 (.sl 1))) (.sl 4)))),[1,2,3,4],9,[],[],[]⟩]) .skip)))) (.reg [⟨[],[(4,(.bin .add (.sl 4) (.int .i64 1)))],[],none,[1,2,3],3,[],[],[]⟩])))
def f12_L1:C:= (.seq (.seq (.reg [⟨[],[(71,(.bin .lss (.sl 9) (.len false (.sl 8))))],[],none,[1,2,3,5,6,7,8,9],4,[],[],[]⟩]) (.cond (.sl 71) .skip (.seq (.keep [1,2,3,5,6,7,8]) (.exit 4)))) (.seq (.block 5 (.seq (.reg [⟨[],[],[],some (none,.store 3 (.ia 3 (.sl 8) (.sl 9)) (.set 0 1 (.int .i64 (-77)) (.agg (.cons (.int .i64 0) (.cons (.int .i64 0) (.cons (.int .i64 0) .nil)))))),[1,2,3,5,6,7,8,9],5,[],[],[]⟩]) (.seq (.reg [⟨[],[(80,(.bin .lss (.sl 9) (.sl 7)))],[],none,[1,2,3,5,6,7,8,9],3,[],[],[]⟩]) (.cond (.sl 80) (.reg [⟨[],[],[],some (none,.store 3 (.ia 3 (.sl 8) (.sl 9)) (.ld 3 true (.ia 3 (.ld 1 false (.fa 2 (.ia 3 (.ld 1 false (.fa 1 (.sl 1))) (.sl 6)))) (.sl 9)))),[1,2,3,5,6,7,8,9],13,[],[],[]⟩]) .skip)))) (.reg [⟨[],[(9,(.bin .add (.sl 9) (.int .i64 1)))],[],none,[1,2,3,5,6,7,8],3,[],[],[]⟩])))
def f12_T0:C:= (.seq (.reg [⟨[(67,.mks 3 (.cons (.int .i64 0) (.cons (.int .i64 0) (.cons (.int .i64 0) .nil))) (.bin .add (.sl 7) (.int .i64 2)) (.bin .add (.sl 7) (.int .i64 2)))],[(8,(.sl 67))],[],none,[1,2,3,5,6,7],4,[],[],[]⟩]) (.seq (.seq (.reg [⟨[],[(9,(.int .i64 0))],[],none,[1,2,3,5,6,7,8],1,[],[],[]⟩]) (.block 4 (.seq (.keep [1,2,3,5,6,7,8,9]) (.loop (.seq (.keep [1,2,3,5,6,7,8,9]) f12_L1))))) (.reg [⟨[],[],[],some (none,.store 3 (.ia 3 (.sl 5) (.sl 6)) (.set 2 1 (.cut false false true false 3 (.sl 8) .nil (.sl 7) .nil) (.set 1 1 (.ld 1 false (.fa 1 (.ia 3 (.ld 1 false (.fa 1 (.sl 1))) (.sl 6)))) (.set 0 1 (.ld 1 false (.fa 0 (.ia 3 (.ld 1 false (.fa 1 (.sl 1))) (.sl 6)))) (.agg (.cons (.str []) (.cons (.int .i64 0) (.cons (.nilsl 3) .nil)))))))),[1,2,3,5,6],20,[[],[],[],[2],[],[4,2,3],[3,2,4,5],[5,4,2,3,6],[],[8],[],[10,8,9],[9,8,10,11],[11,10,8,9,12],[],[],[15,14],[14,15,16,12,9,8,10,11,13,6,3,2,4,5,7],[17,16,15,14,13,12,11,10,9,8,7,6,5,4,3,2,1,0],[0,1,2,3,4,5,6,7,8,9,10,11,12,13,14,15,16,17,18]],[],[]⟩])))
def f12_L2:C:= (.seq (.seq (.reg [⟨[],[(46,(.bin .lss (.sl 6) (.len false (.sl 5))))],[],none,[1,2,3,5,6],4,[],[],[]⟩]) (.cond (.sl 46) .skip (.seq (.keep [1,2,3,5]) (.exit 2)))) (.seq (.block 3 (.seq (.reg [⟨[],[],[],some (none,.store 3 (.ia 3 (.sl 5) (.sl 6)) (.set 0 1 (.str [98,101,104,105,110,100]) (.agg (.cons (.str []) (.cons (.int .i64 0) (.cons (.nilsl 3) .nil)))))),[1,2,3,5,6],5,[],[],[]⟩]) (.seq (.reg [⟨[],[(57,(.bin .lss (.sl 6) (.len false (.ld 1 false (.fa 1 (.sl 1))))))],[],none,[1,2,3,5,6],5,[],[],[]⟩]) (.cond (.sl 57) (.seq (.reg [⟨[],[(7,(.len false (.ld 1 false (.fa 2 (.ia 3 (.ld 1 false (.fa 1 (.sl 1))) (.sl 6))))))],[],none,[1,2,3,5,6],8,[],[],[]⟩]) (.seq (.keep [1,2,3,5,6,7,1000000000]) f12_T0)) .skip)))) (.reg [⟨[],[(6,(.bin .add (.sl 6) (.int .i64 1)))],[],none,[1,2,3,5],3,[],[],[]⟩])))
def z8b:C:= (.seq (.reg [⟨[(42,.mks 3 (.cons (.str []) (.cons (.int .i64 0) (.cons (.nilsl 3) .nil))) (.bin .add (.len false (.ld 1 false (.fa 1 (.sl 1)))) (.int .i64 2)) (.bin .add (.len false (.ld 1 false (.fa 1 (.sl 1)))) (.int .i64 2)))],[(5,(.sl 42))],[],none,[1,2,3],6,[],[],[]⟩]) (.seq (.seq (.reg [⟨[],[(6,(.int .i64 0))],[],none,[1,2,3,5],1,[],[],[]⟩]) (.block 2 (.seq (.keep [1,2,3,5,6]) (.loop (.seq (.keep [1,2,3,5,6]) f12_L2))))) (.seq (.reg [⟨[],[],[],some (none,.store 2 (.sl 2) (.set 1 1 (.cut false false true false 3 (.sl 5) .nil (.len false (.ld 1 false (.fa 1 (.sl 1)))) .nil) (.set 0 1 (.cut false false true false 2 (.sl 3) .nil (.len false (.ld 1 false (.fa 0 (.sl 1)))) .nil) (.agg (.cons (.nilsl 2) (.cons (.nilsl 3) .nil)))))),[2],12,[[],[],[1],[1,2],[2,1,3,0],[],[],[6],[6,7],[7,6,8,5],[5,8,6,7,9,0,3,1,2,4],[4,2,1,3,0,9,7,6,8,5,10]],[],[]⟩]) (.seq (.keep [2]) .ret))))
def z8a:C:= (.seq (.reg [⟨[(14,.mks 2 (.cons (.str []) (.cons (.int .i64 0) .nil)) (.bin .add (.len false (.ld 1 false (.fa 0 (.sl 1)))) (.int .i64 2)) (.bin .add (.len false (.ld 1 false (.fa 0 (.sl 1)))) (.int .i64 2)))],[(3,(.sl 14))],[],none,[1,2],6,[],[],[]⟩]) (.seq (.seq (.reg [⟨[],[(4,(.int .i64 0))],[],none,[1,2,3],1,[],[],[]⟩]) (.block 0 (.seq (.keep [1,2,3,4]) (.loop (.seq (.keep [1,2,3,4]) f12_L0))))) (.seq (.keep [1,2,3,1000000000]) z8b)))
def f12:Fun:=⟨ (.seq (.reg [⟨[(1,.box (.sl 0)),(2,.box (.agg (.cons (.nilsl 2) (.cons (.nilsl 3) .nil))))],[],[],none,[1,2],2,[],[],[]⟩]) (.seq (.keep [1,2,1000000000]) z8a)), [(.ld 2 true (.sl 2))],true⟩
theorem j1H:q0J Go.Proofs.Tryz.prog 12 0 1 f12=true:=by kernel_rfl
def behN:List UInt8:=[98,101,104,105,110,100]
def behS:Shape:=⟨behN,0⟩
def mkI:Instr:=⟨-77,0,0⟩
structure Sm(t:Table):Prop where
  sh:t.shapes.length≤1048576
  gl:t.globals.length≤1048576
  cd:∀ g∈t.globals,g.code.length≤1048576
def tabV(t:Table):List V:=[.d false (.sl 2 (t.shapes.map q0c)),.d false (.sl 3 (t.globals.map q0l))]
def finS(t:Table):List Shape:=t.shapes++[behS,behS]
def finI(l:List Instr):List Instr:=l++[mkI,mkI]
theorem z4Z(l:List Shape) (i n f):(l.map q0c).set i [D.str n,.int .i64 f]=(l.set i ⟨n,f⟩).map q0c:=by rw[List.map_set];rfl
theorem z9u(k n f):List.replicate k [D.str n,.int .i64 f]=(List.replicate k (Shape.mk n f)).map q0c:=by rw[List.map_replicate];rfl
theorem z9w(k a b c):List.replicate k [D.int .i64 a,.int .i64 b,.int .i64 c]=(List.replicate k (Instr.mk a b c)).map q0j:=by rw[List.map_replicate];rfl
theorem q7T{α:Type}(l:List α)(i:Nat)(h:i<l.length)(x:α):(l.set i x).take (i+1)=l.take i++[x]:=by
  rw[List.take_add_one,List.getElem?_set_self h,List.take_set_of_le (by omega)];rfl
theorem q1P{α:Type}{l f:List α}{i:Nat}(hl:l.length=f.length)(h:l.take i=f.take i)(hi:i<f.length){x:α}(hx:f[i]? = some x):(l.set i x).take (i+1)=f.take (i+1):=by
  rw[q7T l i (by omega),h,List.take_add_one,hx];rfl
theorem z9l(K:Cx)(t:Table)(ht:Sm t)(nx:Nat)(mv:List Nat):∀(k i:Nat)(H:List (Nat×Blk))(rows:List Shape),i+k=t.shapes.length+2→look H 0=some (.mix 2 [tabV t])→look H 2=some (.dat true 2 (rows.map q0c))→
    rows.length=t.shapes.length+2→rows.take i=(finS t).take i→
    ∃ H',lpk K [1,2,3,4] f12_L0 ⟨[(1,.ptr 0 0 0),(2,.ptr 1 0 0),(3,.bsx 2 0 (t.shapes.length+2)),(4,.d false (.int .i64 i))],H,nx,mv⟩=some (.exit 0,⟨[(1,.ptr 0 0 0),(2,.ptr 1 0 0),(3,.bsx 2 0 (t.shapes.length+2))],H',nx,mv⟩)∧
      look H' 2=some (.dat true 2 ((finS t).map q0c))∧∀ b,b≠2→look H' b=look H b:=by
  have hs:=ht.sh
  have lf:(finS t).length=t.shapes.length+2:=by simp [finS]
  intro k
  induction k with
  |zero=>
    intro i H rows hi h0 h2 hl htk
    obtain rfl:i=t.shapes.length+2:=by omega
    have e:rows=finS t:=by rw[List.take_of_length_le (by omega),List.take_of_length_le (by omega)] at htk;exact htk
    subst e
    refine⟨H,?_,h2,fun _ _=>rfl⟩
    rw[q1n f12_L0.eq_1]
    simp only[Int.natCast_add]
    simp(disch:=first|decide|omega|(simp only[LN];first|done|omega)) only[SV,SW,Nat.reduceBEq,q0v,q0y,Nat.reduceEqDiff,q2b]
  |succ k ih=>
    intro i H rows hi h0 h2 hl htk
    by_cases hi2:i<t.shapes.length
    · have hx:(finS t)[i]? = some (nth t.shapes i):=by
        unfold finS
        rw[List.getElem?_append_left hi2,q05,List.getD_eq_getElem?_getD,List.getElem?_eq_getElem hi2];rfl
      obtain⟨H',e1,e2,e3⟩:=ih (i+1) (put (put H 2 (.dat true 2 ((rows.set i behS).map q0c))) 2 (.dat true 2 ((rows.set i (nth t.shapes i)).map q0c))) (rows.set i (nth t.shapes i)) (by omega)
        (by rw[q0a _ _ (by omega),q0a _ _ (by omega)];exact h0) (q0u _ _ _) (by simpa using hl) (q1P (by omega) htk (by omega) hx)
      refine⟨H',?_,e2,fun b hb=>by rw[e3 b hb,q0a _ _ (Ne.symm hb),q0a _ _ (Ne.symm hb)]⟩
      rw[←e1]
      rw[q1n f12_L0.eq_1]
      simp only[tabV] at h0
      simp only[behS,behN]
      simp(disch:=first|decide|omega|(simp only[LN];first|done|omega)) only[SV,SW,Nat.reduceBEq,h2,Nat.reduceAdd,q0g,z4Z,lose,q0a,h0,q0u,z9v,List.set_set,q1o,q0y,Nat.reduceEqDiff]
      rfl
    · have hx:(finS t)[i]? = some behS:=by
        unfold finS
        rw[List.getElem?_append_right (by omega)]
        rcases Nat.lt_or_ge (i - t.shapes.length) 1 with h|h
        · rw[show i - t.shapes.length=0 by omega];rfl
        · rw[show i - t.shapes.length=1 by omega];rfl
      obtain⟨H',e1,e2,e3⟩:=ih (i+1) (put H 2 (.dat true 2 ((rows.set i behS).map q0c))) (rows.set i behS) (by omega)
        (by rw[q0a _ _ (by omega)];exact h0) (q0u _ _ _) (by simpa using hl) (q1P (by omega) htk (by omega) hx)
      refine⟨H',?_,e2,fun b hb=>by rw[e3 b hb,q0a _ _ (Ne.symm hb)]⟩
      rw[←e1]
      rw[q1n f12_L0.eq_1]
      simp only[tabV] at h0
      simp only[behS,behN]
      simp(disch:=first|decide|omega|(simp only[LN];first|done|omega)) only[SV,SW,Nat.reduceBEq,h2,Nat.reduceAdd,q0g,z4Z,lose,q0a,h0,q1o,q0y,Nat.reduceEqDiff]
      rfl
def stL(s n b m:Nat)(i:Nat):List (Nat×V):=[(1,.ptr 0 0 0),(2,.ptr 1 0 0),(3,.bsx 2 0 (s+2)),(5,.bsx 3 0 (n+2)),(6,.d false (.int .i64 i)),(7,.d false (.int .i64 m)),(8,.bsx b 0 (m+2))]
theorem z9k(K:Cx)(t:Table)(ht:Sm t)(nx:Nat)(mv:List Nat)(gi b:Nat)(g:Glob)(hgi:gi<t.globals.length)(hg:nth t.globals gi=g)(hb:3<b):∀(k i:Nat)(H:List (Nat×Blk))(rows:List Instr),i+k=g.code.length+2→look H 0=some (.mix 2 [tabV t])→look H b=some (.dat true 3 (rows.map q0j))→
    rows.length=g.code.length+2→rows.take i=(finI g.code).take i→
    ∃ H',lpk K [1,2,3,5,6,7,8,9] f12_L1 ⟨stL t.shapes.length t.globals.length b g.code.length gi++[(9,.d false (.int .i64 i))],H,nx,mv⟩=some (.exit 4,⟨stL t.shapes.length t.globals.length b g.code.length gi,H',nx,mv⟩)∧
      look H' b=some (.dat true 3 ((finI g.code).map q0j))∧∀ c,c≠b→look H' c=look H c:=by
  have hs:=ht.sh
  have hgl:=ht.gl
  have hm:g∈t.globals:=by rw[←hg,q05,List.getD_eq_getElem?_getD,List.getElem?_eq_getElem hgi];exact List.getElem_mem hgi
  have hcd:=ht.cd g hm
  have lf:(finI g.code).length=g.code.length+2:=by simp [finI]
  have hb0:(b=0)=False:=by simp;omega
  intro k
  induction k with
  |zero=>
    intro i H rows hi h0 h2 hl htk
    obtain rfl:i=g.code.length+2:=by omega
    have e:rows=finI g.code:=by rw[List.take_of_length_le (by omega),List.take_of_length_le (by omega)] at htk;exact htk
    subst e
    refine⟨H,?_,h2,fun _ _=>rfl⟩
    rw[q1n f12_L1.eq_1]
    simp only[Int.natCast_add,stL]
    simp(disch:=first|decide|omega|(simp only[LN];first|done|omega)) only[SV,SW,Int.reduceNeg,Nat.reduceBEq,q0v,q0y,Nat.reduceEqDiff,q2b]
  |succ k ih=>
    intro i H rows hi h0 h2 hl htk
    by_cases hi2:i<g.code.length
    · have hx:(finI g.code)[i]? = some (nth g.code i):=by
        unfold finI
        rw[List.getElem?_append_left hi2,q05,List.getD_eq_getElem?_getD,List.getElem?_eq_getElem hi2];rfl
      obtain⟨H',e1,e2,e3⟩:=ih (i+1) (put (put H b (.dat true 3 ((rows.set i mkI).map q0j))) b (.dat true 3 ((rows.set i (nth g.code i)).map q0j))) (rows.set i (nth g.code i)) (by omega)
        (by rw[q0a _ _ (by omega),q0a _ _ (by omega)];exact h0) (q0u _ _ _) (by simpa using hl) (q1P (by omega) htk (by omega) hx)
      refine⟨H',?_,e2,fun c hc=>by rw[e3 c hc,q0a _ _ (Ne.symm hc),q0a _ _ (Ne.symm hc)]⟩
      rw[←e1]
      rw[q1n f12_L1.eq_1]
      simp only[tabV] at h0
      simp only[mkI,stL]
      simp(disch:=first|decide|omega|(simp only[LN];first|done|omega)) only[SV,SW,Int.reduceNeg,Nat.reduceBEq,h2,Nat.reduceAdd,q0e,z0r,lose,q0u,q0a,h0,hg,q0k,z9x,List.set_set,q1o,q0y,Nat.reduceEqDiff]
      rfl
    · have hx:(finI g.code)[i]? = some mkI:=by
        unfold finI
        rw[List.getElem?_append_right (by omega)]
        rcases Nat.lt_or_ge (i - g.code.length) 1 with h|h
        · rw[show i - g.code.length=0 by omega];rfl
        · rw[show i - g.code.length=1 by omega];rfl
      obtain⟨H',e1,e2,e3⟩:=ih (i+1) (put H b (.dat true 3 ((rows.set i mkI).map q0j))) (rows.set i mkI) (by omega)
        (by rw[q0a _ _ (by omega)];exact h0) (q0u _ _ _) (by simpa using hl) (q1P (by omega) htk (by omega) hx)
      refine⟨H',?_,e2,fun c hc=>by rw[e3 c hc,q0a _ _ (Ne.symm hc)]⟩
      rw[←e1]
      rw[q1n f12_L1.eq_1]
      simp only[tabV] at h0
      simp only[mkI,stL]
      simp(disch:=first|decide|omega|(simp only[LN];first|done|omega)) only[SV,SW,Int.reduceNeg,Nat.reduceBEq,h2,Nat.reduceAdd,q0e,z0r,lose,q1o,q0y,Nat.reduceEqDiff]
      rfl
theorem q3F(H k b)(len:Nat)(lo mx:V) (c kd)(h:Int)(hw:q15 H b k=true)(h0:0≤h)(h1:h≤len∨h≤q4i H b):z1h H false false true false k (.bsx b 0 len) lo (.d c (.int kd h)) mx=some (.bsx b 0 h.toNat):=by
  have:(0:Int)≤h∧(h≤(len:Int)∨((0:Nat):Int)+h≤q4i H b):=⟨h0,by simpa using h1⟩
  simp [z1h,V.isStr,q9v,q4L,hw,h0]
  intro q
  omega
end Go.Vm
end

section
namespace Go.Vm
set_option maxRecDepth 20000
open Go.Proofs
abbrev Gl:=List (Nat×Glob)
def rowG(q:Nat×Glob):List V:=[.d false (.str q.2.name),.d false (.int .i64 q.2.arity),.bsx q.1 0 q.2.code.length]
def behG(z:Bool):List V:=[.d false (.str behN),.d false (.int .i64 0),.fs z 3 []]
def behD:List D:=[.str behN,.int .i64 0,.sl 3 []]
def numG(p:Nat):List Glob→Gl
 |[]=>[]
 |g :: r=>(p,g) :: numG (p+1) r
theorem q1c(gs:List Glob):∀ p,(numG p gs).length=gs.length:=by
 induction gs with
 |nil=>intro p;rfl
 |cons g r ih=>intro p;simp [numG,ih]
theorem q4o:∀(gs:List Glob)(p i:Nat),(numG p gs)[i]? = gs[i]?.map fun g=>(p+i,g)
 |[],p,i=>by simp [numG]
 |g :: r,p,0=>by simp [numG]
 |g :: r,p,i+1=>by
  simp only[numG,List.getElem?_cons_succ]
  rw[q4o r (p+1) i]
  congr 1
  funext x
  rw[show p+1+i=p+(i+1) by omega]
def q8Y(t:Table):List (List V):=(numG 4 t.globals).map rowG++[behG true,behG true]
theorem q6d(t:Table):(q8Y t).length=t.globals.length+2:=by simp [q8Y,q1c]
def GS(t:Table)(i:Nat)(blk:Blk):Prop:=
 (t.globals≠[]∧0<i∧∃ R,blk=.mix 3 R∧R.length=t.globals.length+2∧R.take i=(q8Y t).take i∧∀ r∈R,r.length=3)∨
 ((t.globals=[]∨i=0)∧∃ rows,blk=.dat true 3 rows∧rows.length=t.globals.length+2∧rows.take i=[behD,behD].take i∧∀ r∈rows,r.length=3)
def behC:List V:=[.d false (.str behN),.d false (.int .i64 0),.fs true 3 []]
theorem q91{α:Type}(new row:List α)(h1:new.length=3)(h2:row.length=3):splice 0 new row=new:=by
 simp only[splice,List.take_zero,List.nil_append,Nat.zero_add,h1]
 rw[List.drop_of_length_le (by omega),List.append_nil]
theorem q2r{α:Type}{R:List (List α)}{i:Nat}{row:List α}(h:∀ r∈R,r.length=3)(hr:row.length=3):∀ r∈R.set i row,r.length=3:=by
 intro r hm
 rcases List.mem_or_eq_of_mem_set hm with h1|h1
 ·exact h r h1
 ·rw[h1];exact hr
theorem z0e{R:List (List V)}{i:Nat}{cells:List V}(hi:i<R.length)(h:∀ r∈R,r.length=3)(hc:cells.length=3):(Blk.mix 3 R).set i 0 cells=some (.mix 3 (R.set i cells)):=by
 have h3:=h R[i] (List.getElem_mem hi)
 simp only[Blk.set,List.getElem?_eq_getElem hi]
 rw[if_pos (by omega),q91 _ _ hc h3]
theorem z1o{R:List (List D)}{i:Nat}{cells:List V}{ds:List D}(hi:i<R.length)(h:∀ r∈R,r.length=3)(hc:cells.length=3)(hd:mapO asD cells=some ds)(hn:cells.all V.new1=true) :
  (Blk.dat true 3 R).set i 0 cells=some (.dat true 3 (R.set i ds)):=by
 have h3:=h R[i] (List.getElem_mem hi)
 have hl:=(q0i hd).1
 simp only[Blk.set,List.getElem?_eq_getElem hi]
 rw[if_pos (by omega)]
 simp only[hd,hn,Bool.and_self,q91 ds R[i] (by omega) h3]
theorem z7F{R:List (List D)}{i:Nat}{cells:List V}(hi:i<R.length)(h:∀ r∈R,r.length=3)(hc:cells.length=3)(hd:mapO asD cells=none) :
  (Blk.dat true 3 R).set i 0 cells=some (.mix 3 ((R.map (·.map (mkd true))).set i cells)):=by
 have h3:=h R[i] (List.getElem_mem hi)
 simp only[Blk.set,List.getElem?_eq_getElem hi]
 rw[if_pos (by omega)]
 simp only[hd,q91 cells (R[i].map (mkd true)) hc (by simpa using h3)]
theorem z9q{t:Table}{i:Nat}{blk:Blk}(h:GS t i blk)(hi:i<t.globals.length):∃ b1 b2,blk.set i 0 behC=some b1∧blk.k=3∧b1.k=3∧b1.set i 0 (rowG (4+i,nth t.globals i))=some b2∧GS t (i+1) b2:=by
 have hne:t.globals≠[]:=by intro e;rw[e] at hi;simp at hi
 have hx:(q8Y t)[i]? = some (rowG (4+i,nth t.globals i)):=by
  unfold q8Y
  rw[List.getElem?_append_left (by simpa [q1c] using hi),List.getElem?_map,q4o,List.getElem?_eq_getElem hi,q05,List.getD_eq_getElem?_getD,List.getElem?_eq_getElem hi];rfl
 have lf:=q6d t
 rcases h with⟨_,h0,R,rfl,hl,htk,h3⟩|⟨h0,rows,rfl,hl,htk,h3⟩
 ·refine⟨_,_,z0e (by omega) h3 rfl,rfl,rfl,z0e (by simp;omega) (q2r h3 rfl) rfl,.inl ⟨hne,by omega,_,rfl,by simpa using hl,?_,q2r (q2r h3 rfl) rfl⟩⟩
  rw[List.set_set]
  exact q1P (by omega) htk (by omega) hx
 ·obtain rfl:i=0:=h0.resolve_left hne
  refine⟨_,_,z1o (ds:=behD) (by omega) h3 rfl rfl rfl,rfl,rfl,z7F (by simp;omega) (q2r h3 rfl) rfl rfl,.inl ⟨hne,by omega,_,rfl,by simpa using hl,?_,q2r (fun r hr=>?_) rfl⟩⟩
  ·exact q1P (by simp;omega) (by simp) (by omega) hx
  ·obtain⟨r',hr',rfl⟩:=List.mem_map.1 hr
   simpa using q2r h3 rfl r' hr'
theorem z9p{t:Table}{i:Nat}{blk:Blk}(h:GS t i blk)(hi:t.globals.length≤i)(hi2:i<t.globals.length+2):∃ b1,blk.set i 0 behC=some b1∧blk.k=3∧GS t (i+1) b1:=by
 have lf:=q6d t
 rcases h with⟨hne,h0,R,rfl,hl,htk,h3⟩|⟨h0,rows,rfl,hl,htk,h3⟩
 ·have hx:(q8Y t)[i]? = some behC:=by
   unfold q8Y
   rw[List.getElem?_append_right (by simpa [q1c] using hi),List.length_map,q1c]
   rcases Nat.lt_or_ge (i - t.globals.length) 1 with h|h
   ·rw[show i - t.globals.length=0 by omega];rfl
   ·rw[show i - t.globals.length=1 by omega];rfl
  refine⟨_,z0e (by omega) h3 rfl,rfl,.inl ⟨hne,by omega,_,rfl,by simpa using hl,q1P (by omega) htk (by omega) hx,q2r h3 rfl⟩⟩
 ·have hn:t.globals=[]:=by
   rcases h0 with h|h
   ·exact h
   ·subst h;exact List.length_eq_zero_iff.1 (by omega)
  have hl0:t.globals.length=0:=by rw[hn];rfl
  have hx:[behD,behD][i]? = some behD:=by
   rcases Nat.lt_or_ge i 1 with h|h
   ·rw[show i=0 by omega];rfl
   ·rw[show i=1 by omega];rfl
  refine⟨_,z1o (ds:=behD) (by omega) h3 rfl rfl rfl,rfl,.inr ⟨.inl hn,_,rfl,by simpa using hl,q1P (by simp;omega) htk (by simp;omega) hx,q2r h3 rfl⟩⟩
def gBlk(t:Table):Blk:=if t.globals=[] then .dat true 3 [behD,behD] else .mix 3 (q8Y t)
theorem j0V{t:Table}{blk:Blk}(h:GS t (t.globals.length+2) blk):blk=gBlk t:=by
 have lf:=q6d t
 unfold gBlk
 rcases h with⟨hne,h0,R,rfl,hl,htk,h3⟩|⟨h0,rows,rfl,hl,htk,h3⟩
 ·rw[if_neg hne,List.take_of_length_le (by omega),List.take_of_length_le (by omega)] at *
  rw[htk]
 ·have hn:t.globals=[]:=h0.resolve_right (by omega)
  have hl0:t.globals.length=0:=by rw[hn];rfl
  rw[if_pos hn]
  rw[List.take_of_length_le (by omega),List.take_of_length_le (by simp)] at htk
  rw[htk]
theorem gs_0(t:Table):GS t 0 (.dat true 3 (List.replicate (t.globals.length+2) [.str [],.int .i64 0,.sl 3 []])):=
 .inr ⟨.inr rfl,_,rfl,by simp,by simp,fun r hr=>by rw[(List.mem_replicate.1 hr).2];rfl⟩
theorem q3o{k b i len:Nat}{n:Int}{blk:Blk}(h:blk.k=k)(h0:0≤n)(h1:n<len):iaB k b i len n blk=some (.ptr b (i+n.toNat) 0):=if_pos ⟨h,h0,h1⟩
theorem q3y(n:Nat):((n:Int)+2).toNat=n+2:=by omega
set_option maxHeartbeats 1000000 in
theorem z97(K:Cx)(t:Table)(ht:Sm t)(i:Nat)(g:Glob)(H:List (Nat×Blk))(nx:Nat)(mv:List Nat)(hi:i<t.globals.length)(hg:nth t.globals i=g)(hnx:3<nx)(h0:look H 0=some (.mix 2 [tabV t]))
  (blk blk':Blk) (h3:look H 3=some blk) (hk:blk.k=3) (hset:blk.set i 0 [.d false (.str g.name),.d false (.int .i64 g.arity),.bsx nx 0 g.code.length]=some blk') :
  ∃ H',exec K f12_T0 ⟨[(1,.ptr 0 0 0),(2,.ptr 1 0 0),(3,.bsx 2 0 (t.shapes.length+2)),(5,.bsx 3 0 (t.globals.length+2)),(6,.d false (.int .i64 i)),(7,.d false (.int .i64 g.code.length)),(1000000000,.junk)],H,nx,mv⟩ =
   some (.nrm,⟨[(1,.ptr 0 0 0),(2,.ptr 1 0 0),(3,.bsx 2 0 (t.shapes.length+2)),(5,.bsx 3 0 (t.globals.length+2)),(6,.d false (.int .i64 i))],H',nx+1,mv⟩)∧
   look H' 3=some blk'∧look H' nx=some (.dat true 3 ((finI g.code).map q0j))∧∀ b,b≠3→b≠nx→look H' b=look H b:=by
 have hs:=ht.sh
 have hgl:=ht.gl
 have hm:g∈t.globals:=by rw[←hg,q05,List.getD_eq_getElem?_getD,List.getElem?_eq_getElem hi];exact List.getElem_mem hi
 have hcd:=ht.cd g hm
 obtain⟨H1,e1,e2,e3⟩:=z9k K t ht (nx+1) mv i nx g hi hg hnx (g.code.length+2) 0 ((nx,.dat true 3 ((List.replicate (g.code.length+2) (Instr.mk 0 0 0)).map q0j)) :: H) (List.replicate (g.code.length+2) ⟨0,0,0⟩) (by omega)
  (by rw[q21 _ _ (by omega)];exact h0) (q79 _ _ _) (by simp) (by simp)
 simp only[stL,List.cons_append,List.nil_append,Int.natCast_zero] at e1
 have g0:look H1 0=some (.mix 2 [tabV t]):=by rw[e3 0 (by omega),q21 _ _ (by omega)];exact h0
 have g3:look H1 3=some blk:=by rw[e3 3 (by omega),q21 _ _ (by omega)];exact h3
 have hc:=q3F H1 3 nx (g.code.length+2) (.tup []) (.tup []) false .i64 g.code.length (by simp [q15,e2,Blk.k]) (by omega) (by omega)
 refine⟨put H1 3 blk',?_,q0u _ _ _,by rw[q0a _ _ (by omega)];exact e2,fun b hb hb'=>by rw[q0a _ _ (Ne.symm hb),e3 b hb',q21 _ _ (Ne.symm hb')]⟩
 simp only[tabV] at g0
 rw[f12_T0.eq_1]
 simp(disch:=first|decide|omega|(simp only[LN];first|done|omega)) only[SV,SW,Nat.reduceEqDiff,Nat.reduceBEq,q75,Nat.reduceAdd,q3y,z9w,q0v,q0y,q1A,e1]
 have hia:=q3o (k:=3) (b:=3) (i:=0) (len:=t.globals.length+2) (n:=(i:Int)) hk (by omega) (by omega)
 simp(disch:=first|decide|omega|(simp only[LN];first|done|omega)) only[SV,SW,g3,hia,hc,g0,hg,q0k,Nat.reduceAdd,hset,lose]
structure G2(t:Table)(i:Nat)(H:List (Nat×Blk))(nx:Nat):Prop where
 h0:look H 0=some (.mix 2 [tabV t])
 nx:nx=4+min i t.globals.length
 gb:∃ blk,look H 3=some blk∧GS t i blk
 cd:∀ j,j<min i t.globals.length→look H (4+j)=some (.dat true 3 ((finI (nth t.globals j).code).map q0j))
set_option maxHeartbeats 1000000 in
theorem z9j(K:Cx)(t:Table)(ht:Sm t)(mv:List Nat):∀(k i:Nat)(H:List (Nat×Blk))(nx:Nat),i+k=t.globals.length+2→G2 t i H nx→
  ∃ H',lpk K [1,2,3,5,6] f12_L2 ⟨[(1,.ptr 0 0 0),(2,.ptr 1 0 0),(3,.bsx 2 0 (t.shapes.length+2)),(5,.bsx 3 0 (t.globals.length+2)),(6,.d false (.int .i64 i))],H,nx,mv⟩ =
   some (.exit 2,⟨[(1,.ptr 0 0 0),(2,.ptr 1 0 0),(3,.bsx 2 0 (t.shapes.length+2)),(5,.bsx 3 0 (t.globals.length+2))],H',4+t.globals.length,mv⟩)∧
   G2 t (t.globals.length+2) H' (4+t.globals.length)∧∀ b,b<3→look H' b=look H b:=by
 have hs:=ht.sh
 have hgl:=ht.gl
 intro k
 induction k with
 |zero=>
  intro i H nx hi hI
  obtain rfl:i=t.globals.length+2:=by omega
  obtain rfl:nx=4+t.globals.length:=by have:=hI.nx;omega
  refine⟨H,?_,hI,fun _ _=>rfl⟩
  rw[q1n f12_L2.eq_1]
  simp only[Int.natCast_add]
  simp(disch:=first|decide|omega|(simp only[LN];first|done|omega)) only[SV,SW,Nat.reduceBEq,q0v,q0y,Nat.reduceEqDiff,q2b]
 |succ k ih=>
  intro i H nx hi hI
  obtain⟨h0,hnx,⟨blk,h3,hgs⟩,hcd⟩:=hI
  by_cases hi2:i<t.globals.length
  ·obtain⟨b1,b2,s1,k1,k2,s2,hgs'⟩:=z9q hgs hi2
   generalize hg:nth t.globals (i:Int)=g at s2
   have hm:g∈t.globals:=by rw[←hg,q05,List.getD_eq_getElem?_getD,List.getElem?_eq_getElem hi2];exact List.getElem_mem hi2
   have hcl:=ht.cd g hm
   obtain⟨H1,e1,f3,fn,fo⟩:=z97 K t ht i g (put H 3 b1) nx mv hi2 hg (by omega) (by rw[q0a _ _ (by omega)];exact h0) b1 b2 (q0u _ _ _) k2 (by rw[show nx=4+i by omega];exact s2)
   obtain⟨H',e2,hI',hlow⟩:=ih (i+1) H1 (nx+1) (by omega) ⟨by rw[fo 0 (by omega) (by omega),q0a _ _ (by omega)];exact h0,by omega,⟨b2,f3,hgs'⟩,fun j hj=>by
    by_cases hji:j=i
    ·subst hji;rw[show 4+j=nx by omega,fn,hg]
    ·rw[fo _ (by omega) (by omega),q0a _ _ (by omega)];exact hcd j (by omega)⟩
   refine⟨H',?_,hI',fun b hb=>by rw[hlow b hb,fo b (by omega) (by omega),q0a _ _ (by omega)]⟩
   rw[←e2]
   rw[q1n f12_L2.eq_1]
   simp only[tabV] at h0
   simp only[behC,behN] at s1
   have hia:=q3o (k:=3) (b:=3) (i:=0) (len:=t.globals.length+2) (n:=(i:Int)) k1 (by omega) (by omega)
   clear hcd hlow fo ih hm
   simp(disch:=first|decide|omega|(simp only[LN];first|done|omega)) only[SV,SW,Nat.reduceBEq,h3,hia,Nat.reduceAdd,s1,lose,q0a,h0,hg,q0k,q0v,q0y,q80,Nat.reduceEqDiff,e1,q1o]
   rfl
  ·obtain⟨b1,s1,k1,hgs'⟩:=z9p hgs (by omega) (by omega)
   obtain⟨H',e2,hI',hlow⟩:=ih (i+1) (put H 3 b1) nx (by omega) ⟨by rw[q0a _ _ (by omega)];exact h0,by omega,⟨b1,q0u _ _ _,hgs'⟩,fun j hj=>by
    rw[q0a _ _ (by omega)];exact hcd j (by omega)⟩
   refine⟨H',?_,hI',fun b hb=>by rw[hlow b hb,q0a _ _ (by omega)]⟩
   rw[←e2]
   rw[q1n f12_L2.eq_1]
   simp only[tabV] at h0
   simp only[behC,behN] at s1
   have hia:=q3o (k:=3) (b:=3) (i:=0) (len:=t.globals.length+2) (n:=(i:Int)) k1 (by omega) (by omega)
   clear hcd hlow ih
   simp(disch:=first|decide|omega|(simp only[LN];first|done|omega)) only[SV,SW,Nat.reduceBEq,h3,hia,Nat.reduceAdd,s1,lose,q0a,h0,q1o,q0y,Nat.reduceEqDiff]
   rfl
end Go.Vm
end

section
namespace Go.Vm
set_option maxRecDepth 20000
open Go.Proofs
set_option maxHeartbeats 1000000 in
theorem z4C(K:Cx)(t:Table)(ht:Sm t):∃ H,exec K f12.body (startS [.agg (tabV t)] [])=some (.ret,⟨[(2,.ptr 1 0 0)],H,4+t.globals.length,[]⟩)∧
  look H 1=some (.mix 2 [[.bsx 2 0 t.shapes.length,.bsx 3 0 t.globals.length]])∧look H 2=some (.dat true 2 ((finS t).map q0c))∧look H 3=some (gBlk t)∧
  ∀ j,j<t.globals.length→look H (4+j)=some (.dat true 3 ((finI (nth t.globals j).code).map q0j)):=by
 have hs:=ht.sh
 have hgl:=ht.gl
 obtain⟨H0,e0,a2,ao⟩:=z9l K t ht 3 [] (t.shapes.length+2) 0 [(2,.dat true 2 ((List.replicate (t.shapes.length+2) (Shape.mk [] 0)).map q0c)),(1,.mix 2 [[.fs true 2 [],.fs true 3 []]]),(0,.mix 2 [tabV t])]
  (List.replicate (t.shapes.length+2) ⟨[],0⟩) (by omega) rfl rfl (by simp) (by simp)
 have b0:look H0 0=some (.mix 2 [tabV t]):=by rw[ao 0 (by omega)];rfl
 have b1:look H0 1=some (.mix 2 [[.fs true 2 [],.fs true 3 []]]):=by rw[ao 1 (by omega)];rfl
 obtain⟨H1,e1,hI,lo⟩:=z9j K t ht [] (t.globals.length+2) 0 ((3,.dat true 3 (List.replicate (t.globals.length+2) [.str [],.int .i64 0,.sl 3 []])) :: H0) 4 (by omega)
  ⟨by rw[q21 _ _ (by omega)];exact b0,by omega,⟨_,q79 _ _ _,gs_0 t⟩,fun j hj=>by omega⟩
 obtain⟨h0,_,⟨blk,h3,hgs⟩,hcd⟩:=hI
 obtain rfl:=j0V hgs
 have c1:look H1 1=some (.mix 2 [[.fs true 2 [],.fs true 3 []]]):=by rw[lo 1 (by omega),q21 _ _ (by omega)];exact b1
 have c2:look H1 2=some (.dat true 2 ((finS t).map q0c)):=by rw[lo 2 (by omega),q21 _ _ (by omega)];exact a2
 refine⟨put H1 1 (.mix 2 [[.bsx 2 0 t.shapes.length,.bsx 3 0 t.globals.length]]),?_,q0u _ _ _,by rw[q0a _ _ (by omega)];exact c2,by rw[q0a _ _ (by omega)];exact h3,fun j hj=>by
  rw[q0a _ _ (by omega)];exact hcd j (by omega)⟩
 have k3:(gBlk t).k=3:=by unfold gBlk;split <;> rfl
 have q1:=q3F H1 3 3 (t.globals.length+2) (.tup []) (.tup []) false .i64 t.globals.length (by simp [q15,h3,k3]) (by omega) (by omega)
 have q2:=q3F H1 2 2 (t.shapes.length+2) (.tup []) (.tup []) false .i64 t.shapes.length (by simp [q15,c2,Blk.k]) (by omega) (by omega)
 simp only[Int.natCast_zero] at e0 e1
 clear hcd lo ao hgs a2
 simp only[tabV] at h0 b0 b1 e0 e1 ⊢
 simp(disch:=first|decide|omega|(simp only[LN];first|done|omega)) only[SV,SW,f12,z8a,z8b,Nat.reduceAdd,Nat.reduceBEq,q0v,q0y,q80,Nat.reduceEqDiff,q75,q3y,z9u,q1A,e0,b0,List.isEmpty_nil]
 simp(disch:=first|decide|omega|(simp only[LN];first|done|omega)) only[SV,SW,e1,Nat.reduceBEq,h0,q1,q2,Nat.reduceAdd,c1,lose,q0v,q0y,Nat.reduceEqDiff]
def gB(z:Bool)(p:Nat)(gs:List Glob):Blk:=if gs=[] then .dat z 3 [behD,behD] else .mix 3 ((numG p gs).map rowG++[behG z,behG z])
def cB(z:Bool)(g:Glob):Blk:=.dat z 3 ((finI g.code).map q0j)
def tblk(z:Bool)(p:Nat)(t:Table):List Blk:=.dat z 2 ((finS t).map q0c) :: gB z p t.globals :: t.globals.map (cB z)
structure TB(H:List (Nat×Blk))(p:Nat)(z:Bool)(t:Table):Prop where
 s:look H p=some (.dat z 2 ((finS t).map q0c))
 g:look H (p+1)=some (gB z (p+2) t.globals)
 c:∀ j,j<t.globals.length→look H (p+2+j)=some (cB z (nth t.globals j))
theorem q1O(z p t):(tblk z p t).length=t.globals.length+2:=by simp [tblk]
theorem q0U{α:Type} [Inhabited α]{l:List α}{j:Nat}(h:j<l.length):l[j]? = some (nth l (j:Int)):=by
 rw[q05,List.getD_eq_getElem?_getD,List.getElem?_eq_getElem h];rfl
theorem TB.all{H:List (Nat×Blk)}{p:Nat}{z:Bool}{t:Table}(h:TB H p z t):∀ j,j<t.globals.length+2→look H (p+j)=(tblk z (p+2) t)[j]?:=by
 intro j hj
 match j,hj with
 |0,_=>rw[Nat.add_zero,h.s];rfl
 |1,_=>rw[h.g];rfl
 |j+2,hj=>
  rw[show p+(j+2)=p+2+j by omega,h.c j (by omega)]
  simp only[tblk,List.getElem?_cons_succ,List.getElem?_map,q0U (show j<t.globals.length by omega),Option.map_some]
theorem z3S(q:Nat×Glob):refsL (rowG q)=[q.1]:=rfl
theorem z5D(z):refsL (behG z)=[]:=rfl
theorem q88:∀(gs:List Glob)(p:Nat),((numG p gs).map rowG).flatMap refsL=List.range' p gs.length
 |[],_=>rfl
 |g :: r,p=>by
  simp only[numG,List.map_cons,List.flatMap_cons,z3S,q88 r (p+1),List.length_cons,List.range'_succ]
  rfl
theorem z4S(z p gs):(gB z p gs).refs=List.range' p gs.length:=by
 unfold gB
 split
 ·rename_i h;subst h;rfl
 ·simp only[Blk.refs,List.flatMap_append,q88,List.flatMap_cons,z5D,List.flatMap_nil,List.append_nil]
theorem z8T{H:List (Nat×Blk)}{b:Nat}{k:Blk}(h:look H b=some k):k.refs.length≤refN H:=by
 induction H with
 |nil=>simp [look] at h
 |cons q H ih=>
  obtain⟨c,x⟩:=q
  simp only[refN,List.map_cons,List.sum_cons]
  simp only[look] at h
  split at h
  ·obtain rfl:=Option.some.inj h;omega
  ·have:=ih h
   simp only[refN] at this
   omega
theorem q5l(H:List (Nat×Blk)):∀(todo:List Nat)(fuel:Nat)(done:List Nat),todo.Nodup→(∀ b∈todo,b∉done∧z6G (look H b)=[])→todo.length≤fuel→q0N H fuel done todo=done++todo
 |[],fuel,done,_,_,_=>by rw[q4Y,List.append_nil]
 |b :: r,0,done,_,_,h=>by simp at h
 |b :: r,fuel+1,done,hn,hd,hf=>by
  rw[List.nodup_cons] at hn
  have hb:=hd b (by simp)
  rw[q2W,show done.contains b=false by simpa using hb.1,q2p,hb.2,List.append_nil]
  rw[q5l H r fuel (done++[b]) hn.2 (fun c hc=>⟨by
   simp only[List.mem_append,List.mem_singleton,not_or]
   exact⟨(hd c (by simp [hc])).1,fun e=>hn.1 (e ▸ hc)⟩,(hd c (by simp [hc])).2⟩) (by simpa using hf)]
  simp
theorem TB.reach{H:List (Nat×Blk)}{p:Nat}{z:Bool}{t:Table}(h:TB H p z t):q0N H (refN H+64) [] [p,p+1]=List.range' p (t.globals.length+2):=by
 have hr:=z8T h.g
 rw[z4S,List.length_range'] at hr
 rw[show refN H+64=(refN H+62)+1+1 by omega,q2W]
 simp only[List.contains_nil,q2p,h.s,q4W,Blk.refs,List.append_nil,List.nil_append]
 rw[q2W,show [p].contains (p+1)=false by simp,q2p,h.g,q4W,z4S,List.nil_append]
 rw[q5l _ _ _ _ (List.nodup_range' (step:=1)) (fun b hb=>?_) (by simp;omega)]
 ·rw[show t.globals.length+2=(t.globals.length+1)+1 by omega,List.range'_succ,List.range'_succ]
  rfl
 ·rw[List.mem_range'_1] at hb
  refine⟨by simp;omega,?_⟩
  obtain⟨j,rfl⟩:∃ j,b=p+2+j:=⟨b - (p+2),by omega⟩
  rw[h.c j (by omega)];rfl
end Go.Vm
end

section
namespace Go.Vm
set_option maxRecDepth 20000
open Go.Proofs
theorem q6u{α β:Type}{f:α→Option β}:∀ {l:List α}{r:List β},r.length=l.length→(∀(j:Nat)(x:α),l[j]? = some x→f x=r[j]?)→mapO f l=some r
 |[],[],_,_=>rfl
 |[],_ :: _,h,_=>by simp at h
 |_ :: _,[],h,_=>by simp at h
 |a :: l,b :: r,h,hf=>by
  have h0:=hf 0 a rfl
  have ih:=q6u (f:=f) (l:=l) (r:=r) (by simpa using h) (fun j x hx=>hf (j+1) x hx)
  simp only[List.getElem?_cons_zero] at h0
  simp only[mapO,h0,ih]
theorem q1w(p m b:Nat):(List.range' p m).contains b=decide (p≤b∧b<p+m):=by
 rw[Bool.eq_iff_iff]
 simp only[List.contains_eq_mem,decide_eq_true_eq,List.mem_range'_1]
theorem q98{p m j:Nat}(h:j<m):(List.range' p m).idxOf (p+j)=j:=by
 have h1:(List.range' p m)[j]? = some (p+j):=by simp [h]
 exact z4j (List.nodup_range' (step:=1)) h1
theorem z8U(p m j b:Nat)(h:(List.range' p m)[j]? = some b):j<m∧b=p+j:=by
 obtain⟨h1,h2⟩:=List.getElem?_eq_some_iff.1 h
 simp only[List.length_range'] at h1
 refine⟨h1,?_⟩
 rw[←h2]
 simp
theorem q6t{α β:Type}{f:α→Option β}{t t':List α}{t2:List β}(h:mapO f t=some t2):∀ {l:List α}{l2:List β},mapO f l=some l2→mapO f (l++t)=some (l2++t2)
 |[],l2,h1=>by cases h1;simpa using h
 |a :: l,l2,h1=>by
  simp only[mapO] at h1
  cases ha:f a with
  |none=>simp [ha] at h1
  |some b=>
   cases hl:mapO f l with
   |none=>simp [ha,hl] at h1
   |some bs=>
    simp only[ha,hl,Option.some.injEq] at h1
    subst h1
    have:=q6t (t':=t) h hl
    simp only[List.cons_append,mapO,ha,this]
theorem z4Y{zz:Bool}{bs:List Nat}{H:List (Nat×Blk)}{q q':Nat}{g:Glob}(h1:bs.contains q=true)(h2:bs.idxOf q=q'):mapO (finC zz bs H) (rowG (q,g))=some (rowG (q',g)):=by
 have e:finC zz bs H (.bsx q 0 g.code.length)=some (.bsx q' 0 g.code.length):=by simp only[finC,h1,h2,if_true]
 simp only[rowG,mapO,finC,h1,h2,if_true]
theorem z1b{zz:Bool}{bs:List Nat}{H:List (Nat×Blk)}:∀(gs:List Glob)(q q':Nat),(∀ i,i<gs.length→bs.contains (q+i)=true∧bs.idxOf (q+i)=q'+i)→mapO (mapO (finC zz bs H)) ((numG q gs).map rowG)=some ((numG q' gs).map rowG)
 |[],_,_,_=>rfl
 |g :: r,q,q',h=>by
  have h0:=h 0 (by simp)
  have ih:=z1b (zz:=zz) (bs:=bs) (H:=H) r (q+1) (q'+1) fun i hi=>by
   have:=h (i+1) (by simp;omega)
   rw[show q+1+i=q+(i+1) by omega,show q'+1+i=q'+(i+1) by omega];exact this
  simp only[Nat.add_zero] at h0
  simp only[numG,List.map_cons,mapO,z4Y h0.1 h0.2,ih]
theorem TB.fin{H:List (Nat×Blk)}{p:Nat}{z zz:Bool}{t:Table}(h:TB H p z t):mapO (finB zz (List.range' p (t.globals.length+2)) H) (List.range' p (t.globals.length+2))=some (tblk z 2 t):=by
 refine q6u (by simp [q1O]) fun j b hb=>?_
 obtain⟨hj,rfl⟩:=z8U _ _ _ _ hb
 match j,hj with
 |0,_=>simp only[finB,Nat.add_zero,h.s];rfl
 |1,_=>
  show finB _ _ _ _=some (gB z 2 t.globals)
  simp only[finB,h.g]
  by_cases hg:t.globals=[]
  ·simp only[gB,if_pos hg]
  ·simp only[gB,if_neg hg]
   rw[q6t (t':=[]) (t2:=[behG z,behG z]) rfl (z1b t.globals (p+2) 2 fun i hi=>⟨by rw[q1w,decide_eq_true_eq];omega,by rw[show p+2+i=p+(2+i) by omega];exact q98 (by omega)⟩)]
   rfl
 |j+2,hj=>
  rw[show p+(j+2)=p+2+j by omega]
  simp only[finB,h.c j (by omega),cB]
  simp only[tblk,List.getElem?_cons_succ,List.getElem?_map,q0U (show j<t.globals.length by omega),Option.map_some,cB]
theorem z61(K:Cx)(t:Table)(ht:Sm t):q0o K f12 [.agg (tabV t)] []=some (.agg [.bsx 0 0 t.shapes.length,.bsx 1 0 t.globals.length],tblk true 2 t,[]):=by
 obtain⟨H,e,h1,h2,h3,h4⟩:=z4C K t ht
 have hT:TB H 2 true t:=⟨h2,h3,h4⟩
 have hr:=hT.reach
 have hf:=hT.fin (zz:=true)
 have hv:mapO (ev K ⟨[(2,.ptr 1 0 0)],H,4+t.globals.length,[]⟩) f12.res=some [.agg [.bsx 2 0 t.shapes.length,.bsx 3 0 t.globals.length]]:=by
  simp(disch:=first|decide|omega|(simp only[LN];first|done|omega)) only[SV,SW,f12,h1,Nat.reduceAdd]
 unfold q0o
 rw[e]
 simp only[hv]
 unfold finish
 have e1:f12.own=true:=rfl
 have e2:List.range ([]:List Blk).length++(q0b [V.agg [.bsx 2 0 t.shapes.length,.bsx 3 0 t.globals.length]]).refs=[2,3]:=rfl
 rw[e1,if_pos rfl,e2,hr]
 have c2:(List.range' 2 (t.globals.length+2)).contains 2=true:=by rw[q1w,decide_eq_true_eq];omega
 have c3:(List.range' 2 (t.globals.length+2)).contains 3=true:=by rw[q1w,decide_eq_true_eq];omega
 have i2:(List.range' 2 (t.globals.length+2)).idxOf 2=0:=q98 (j:=0) (by omega)
 have i3:(List.range' 2 (t.globals.length+2)).idxOf 3=1:=q98 (j:=1) (by omega)
 have hfv:finV true (List.range' 2 (t.globals.length+2)) H (q0b [V.agg [.bsx 2 0 t.shapes.length,.bsx 3 0 t.globals.length]])=some (.agg [.bsx 0 0 t.shapes.length,.bsx 1 0 t.globals.length]):=by
  simp only[q0b,finV,finA,mapO,finC,c2,c3,i2,i3,if_true,Option.map_some]
 have hnd:(List.range' 2 (t.globals.length+2)).Nodup:=List.nodup_range' (step:=1)
 simp only[List.length_nil,hnd,decide_true,List.take_zero,List.range_zero,Bool.and_self,if_true,beq_self_eq_true,hfv,hf,List.filter_nil]
end Go.Vm
end

section
namespace Go.Vm
set_option maxRecDepth 20000
open Go.Proofs
/- 'sloth/slothlaw17.kept' -/
def f16_L0:C:= (.seq (.seq (.reg [⟨[],[(60,(.bin .lss (.sl 7) (.sl 5)))],[],none,[1,5,7],3,[],[],[]⟩]) (.cond (.sl 60) .skip (.seq (.keep []) (.exit 0)))) (.seq (.block 1 (.seq (.reg [⟨[],[(8,(.len false (.ld 1 false (.fa 2 (.ia 3 (.ld 1 false (.fa 1 (.sl 1))) (.sl 7))))))],[],none,[1,5,7],8,[],[],[]⟩]) (.seq (.reg [⟨[],[(9,(.cut false false true false 3 (.ld 1 false (.fa 2 (.ia 3 (.ld 1 false (.fa 1 (.sl 1))) (.sl 7)))) .nil (.bin .add (.sl 8) (.int .i64 2)) .nil))],[],none,[1,5,7,8],10,[],[],[]⟩]) (.seq (.reg [⟨[],[(93,(.or (.bin .neq (.ld 1 false (.fa 0 (.ia 3 (.sl 9) (.sl 8)))) (.int .i64 (-77))) (.bin .neq (.ld 1 false (.fa 0 (.ia 3 (.sl 9) (.bin .add (.sl 8) (.int .i64 1))))) (.int .i64 (-77)))))],[],none,[1,5,7],15,[],[],[]⟩]) (.cond (.sl 93) (.seq (.reg [⟨[],[(2,(.bool false))],[],none,[],1,[],[],[]⟩]) (.seq (.keep [2]) .ret)) .skip))))) (.reg [⟨[],[(7,(.bin .add (.sl 7) (.int .i64 1)))],[],none,[1,5],3,[],[],[]⟩])))
def f16:Fun:=⟨ (.seq (.reg [⟨[(1,.box (.sl 0))],[],[(.bool false)],none,[1],2,[],[],[]⟩]) (.seq (.reg [⟨[],[(3,(.len false (.ld 1 false (.fa 0 (.sl 1)))))],[],none,[1],4,[],[],[]⟩]) (.seq (.reg [⟨[],[(4,(.cut false false true false 2 (.ld 1 false (.fa 0 (.sl 1))) .nil (.bin .add (.sl 3) (.int .i64 2)) .nil))],[],none,[1,3],6,[],[],[]⟩]) (.seq (.reg [⟨[],[(5,(.len false (.ld 1 false (.fa 1 (.sl 1)))))],[],none,[1,3,4],4,[],[],[]⟩]) (.seq (.reg [⟨[],[(6,(.cut false false true false 3 (.ld 1 false (.fa 1 (.sl 1))) .nil (.bin .add (.sl 5) (.int .i64 2)) .nil))],[],none,[1,3,4,5],6,[],[],[]⟩]) (.seq (.seq (.reg [⟨[],[(57,(.or (.or (.or (.bin .neq (.ld 1 false (.fa 0 (.ia 2 (.sl 4) (.sl 3)))) (.str [98,101,104,105,110,100])) (.bin .neq (.ld 1 false (.fa 0 (.ia 2 (.sl 4) (.bin .add (.sl 3) (.int .i64 1))))) (.str [98,101,104,105,110,100]))) (.bin .neq (.ld 1 false (.fa 0 (.ia 3 (.sl 6) (.sl 5)))) (.str [98,101,104,105,110,100]))) (.bin .neq (.ld 1 false (.fa 0 (.ia 3 (.sl 6) (.bin .add (.sl 5) (.int .i64 1))))) (.str [98,101,104,105,110,100]))))],[],none,[1,5],32,[],[],[]⟩]) (.cond (.sl 57) (.seq (.reg [⟨[],[(2,(.bool false))],[],none,[],1,[],[],[]⟩]) (.seq (.keep [2]) .ret)) .skip)) (.seq (.seq (.reg [⟨[],[(7,(.int .i64 0))],[],none,[1,5],1,[],[],[]⟩]) (.block 0 (.seq (.keep [1,5,7]) (.loop (.seq (.keep [1,5,7]) f16_L0))))) (.seq (.reg [⟨[],[(2,(.bool true))],[],none,[],1,[],[],[]⟩]) (.seq (.keep [2]) .ret))))))))), [(.sl 2)],false⟩
theorem z9A(m:Nat):q0J Go.Proofs.Tryz.prog 16 m 1 f16=true:=by kernel_rfl
theorem q7n(t:Table)(z:Bool):TB (indexed (tblk z 2 t)) 0 z t:=
  ⟨by rw[q0Y];rfl,by rw[q0Y];rfl,fun j hj=>by
    rw[q0Y,show 0+2+j=j+2 by omega]
    simp only[tblk,List.getElem?_cons_succ,List.getElem?_map,q0U hj,Option.map_some]⟩
theorem TB.mono{H H':List (Nat×Blk)}{p:Nat}{z:Bool}{t:Table}(h:TB H p z t)(hH:∀ b,p≤b→b<p+(t.globals.length+2)→look H' b=look H b):TB H' p z t:=
  ⟨by rw[hH _ (by omega) (by omega)];exact h.s,by rw[hH _ (by omega) (by omega)];exact h.g,fun j hj=>by rw[hH _ (by omega) (by omega)];exact h.c j hj⟩
theorem gB_k(z p gs):(gB z p gs).k=3:=by unfold gB;split <;> rfl
theorem q5r{z p}{gs:List Glob}{i:Nat}(h:i<gs.length):(gB z p gs).row? i=some (rowG (p+i,nth gs i)):=by
  have hne:gs≠[]:=by intro e;rw[e] at h;simp at h
  unfold gB
  rw[if_neg hne,q2v,List.getElem?_append_left (by simpa [q1c] using h),List.getElem?_map,q4o,q0U h];rfl
theorem z4T(z p)(gs:List Glob){j:Nat}(h:j<2):∃ X,(gB z p gs).row? (gs.length+j)=some [.d false (.str behN),.d false (.int .i64 0),X]:=by
  unfold gB
  by_cases he:gs=[]
  · subst he
    rw[if_pos rfl,z3R]
    match j,h with
    |0,_=>exact⟨_,rfl⟩
    |1,_=>exact⟨_,rfl⟩
  · rw[if_neg he,q2v,List.getElem?_append_right (by simp [q1c]),List.length_map,q1c,Nat.add_sub_cancel_left]
    match j,h with
    |0,_=>exact⟨_,rfl⟩
    |1,_=>exact⟨_,rfl⟩
theorem z9r(z p gs H b)(h:look H b=some (gB z p gs)):q4i H b=gs.length+2:=by
  unfold q4i gB at *
  rw[h]
  by_cases he:gs=[]
  · subst he;rfl
  · simp only[if_neg he,List.length_append,List.length_map,q1c];rfl
theorem j0q(l:List Instr):nth (finI l) (l.length:Int)=mkI:=by
  have:l.length<(finI l).length:=by simp [finI]
  rw[q05,List.getD_eq_getElem?_getD,finI,List.getElem?_append_right (Nat.le_refl _),Nat.sub_self];rfl
theorem j0p(l:List Instr):nth (finI l) ((l.length:Int)+1)=mkI:=by
  rw[show((l.length:Int)+1)=((l.length+1:Nat):Int) by omega,q05,List.getD_eq_getElem?_getD,finI,List.getElem?_append_right (by omega),show l.length+1 - l.length=1 by omega];rfl
theorem j0o(t:Table):nth (finS t) (t.shapes.length:Int)=behS:=by
  rw[q05,List.getD_eq_getElem?_getD,finS,List.getElem?_append_right (Nat.le_refl _),Nat.sub_self];rfl
theorem j0n(t:Table):nth (finS t) ((t.shapes.length:Int)+1)=behS:=by
  rw[show((t.shapes.length:Int)+1)=((t.shapes.length+1:Nat):Int) by omega,q05,List.getD_eq_getElem?_getD,finS,List.getElem?_append_right (by omega),show t.shapes.length+1 - t.shapes.length=1 by omega];rfl
theorem q8f(l):(finI l).length=l.length+2:=by simp [finI]
theorem z7c(t):(finS t).length=t.shapes.length+2:=by simp [finS]
theorem z4F(K:Cx)(t:Table)(ht:Sm t)(b:Nat)(H:List (Nat×Blk))(nx:Nat)(mv:List Nat)(z:Bool)(hT:TB H 0 z t)(hb:look H b=some (.mix 2 [[.bsx 0 0 t.shapes.length,.bsx 1 0 t.globals.length]])):∀(k i:Nat),i+k=t.globals.length→
    lpk K [1,5,7] f16_L0 ⟨[(1,.ptr b 0 0),(5,.d false (.int .i64 t.globals.length)),(7,.d false (.int .i64 i))],H,nx,mv⟩=some (.exit 0,⟨[],H,nx,mv⟩):=by
  have hgl:=ht.gl
  have h1:look H 1=some (gB z 2 t.globals):=hT.g
  intro k
  induction k with
  |zero=>
    intro i hi
    obtain rfl:i=t.globals.length:=by omega
    rw[q1n f16_L0.eq_1]
    simp(disch:=first|decide|omega|(simp only[LN];first|done|omega)) only[SV,SW,Int.reduceNeg,Nat.reduceBEq,q0v,q0y,q2b]
  |succ k ih=>
    intro i hi
    have ih:=ih (i+1) (by omega)
    have hi2:i<t.globals.length:=by omega
    generalize hg:nth t.globals (i:Int)=g
    have hm:g∈t.globals:=by rw[←hg,q05,List.getD_eq_getElem?_getD,List.getElem?_eq_getElem hi2];exact List.getElem_mem hi2
    have hcl:=ht.cd g hm
    have hr:(gB z 2 t.globals).row? i=some (rowG (2+i,g)):=by rw[q5r hi2,hg]
    have hc:look H (2+i)=some (.dat z 3 ((finI g.code).map q0j)):=by have:=hT.c i hi2;rw[hg] at this;simpa [cB] using this
    have hia:=q3o (k:=3) (b:=1) (i:=0) (len:=t.globals.length) (n:=(i:Int)) (gB_k z 2 t.globals) (by omega) (by omega)
    have hcut:=q3F H 3 (2+i) g.code.length (.tup []) (.tup []) false .i64 ((g.code.length:Int)+2) (by simp [q15,hc,Blk.k]) (by omega) (.inr (by simp [q4i,hc,finI]))
    have n0:=j0q g.code
    have n1:=j0p g.code
    have n2:nth (finI g.code) ((g.code.length+1:Nat):Int)=mkI:=by rw[Int.natCast_add];exact n1
    have fl:=q8f g.code
    rw[←ih]
    clear ih hm hT
    rw[q1n f16_L0.eq_1]
    simp only[rowG] at hr
    simp only[mkI] at n0 n1 n2
    simp(disch:=first|decide|omega|(simp only[LN];first|done|omega)) only[SV,SW,Int.reduceNeg,Nat.reduceBEq,hb,h1,hia,hr,hcut,q3y,hc,n0,q0e,n2,q1o,q0y,Nat.reduceEqDiff]
    rfl
theorem z67(K:Cx)(t:Table)(ht:Sm t):q0o K f16 [.agg [.bsx 0 0 t.shapes.length,.bsx 1 0 t.globals.length]] (tblk false 2 t)=some (.d false (.bool true),tblk false 2 t,[]):=by
  have hs:=ht.sh
  have hgl:=ht.gl
  have hT0:=q7n t false
  have hln:=q1O false 2 t
  generalize hH:indexed (tblk false 2 t)=H0 at hT0
  have hT:TB ((t.globals.length+2,.mix 2 [[.bsx 0 0 t.shapes.length,.bsx 1 0 t.globals.length]]) :: H0) 0 false t:=hT0.mono fun b _ hb=>q21 _ _ (by omega)
  have hb:look ((t.globals.length+2,Blk.mix 2 [[.bsx 0 0 t.shapes.length,.bsx 1 0 t.globals.length]]) :: H0) (t.globals.length+2)=some (.mix 2 [[.bsx 0 0 t.shapes.length,.bsx 1 0 t.globals.length]]):=q79 _ _ _
  generalize hH1:(t.globals.length+2,Blk.mix 2 [[.bsx 0 0 t.shapes.length,.bsx 1 0 t.globals.length]]) :: H0=H at hT hb
  have hl:=z4F K t ht (t.globals.length+2) H (t.globals.length+2+1) [] false hT hb t.globals.length 0 (by omega)
  have h0:look H 0=some (.dat false 2 ((finS t).map q0c)):=hT.s
  have h1:look H 1=some (gB false 2 t.globals):=hT.g
  have cut1:=q3F H 2 0 t.shapes.length (.tup []) (.tup []) false .i64 ((t.shapes.length:Int)+2) (by simp [q15,h0,Blk.k]) (by omega) (.inr (by simp [q4i,h0,finS]))
  have cut2:=q3F H 3 1 t.globals.length (.tup []) (.tup []) false .i64 ((t.globals.length:Int)+2) (by simp [q15,h1,gB_k]) (by omega) (.inr (by rw[z9r _ _ _ _ _ h1];omega))
  have n0:=j0o t
  have n1:=j0n t
  have n2:nth (finS t) ((t.shapes.length+1:Nat):Int)=behS:=by rw[Int.natCast_add];exact n1
  have fl:=z7c t
  obtain⟨X0,r0⟩:=z4T false 2 t.globals (j:=0) (by omega)
  obtain⟨X1,r1⟩:=z4T false 2 t.globals (j:=1) (by omega)
  rw[Nat.add_zero] at r0
  have hia:=q3o (k:=3) (b:=1) (i:=0) (len:=t.globals.length+2) (n:=(t.globals.length:Int)) (gB_k false 2 t.globals) (by omega) (by omega)
  have hia':=q3o (k:=3) (b:=1) (i:=0) (len:=t.globals.length+2) (n:=(t.globals.length:Int)+1) (gB_k false 2 t.globals) (by omega) (by omega)
  have hfin:=hT.fin (zz:=((t.globals.length+2)==0))
  rw[←List.range_eq_range'] at hfin
  simp only[behS,behN] at n0 n1 n2
  simp only[behN] at r0 r1
  simp only[Int.natCast_zero] at hl
  clear hT hT0
  rw[show f16=⟨f16.body,f16.res,false⟩ from rfl,q4h]
  rw[show startS [.agg [.bsx 0 0 t.shapes.length,.bsx 1 0 t.globals.length]] (tblk false 2 t)=⟨[(0,.agg [.bsx 0 0 t.shapes.length,.bsx 1 0 t.globals.length])],H0,t.globals.length+2,[]⟩ by simp only[startS,hH,hln];rfl]
  simp only[hln]
  simp(disch:=first|decide|omega|(simp only[LN];first|done|omega)) only[f16,q1U,q25,q00,q27,q2N,q4A,e_sl,q2e,beq_self_eq_true,q1y,q2X,mkBox,V.laid,V.cells,List.length_cons,List.length_nil,Nat.zero_add,Nat.reduceAdd,if_true,q6r,q4k,Nat.reduceBEq,q2G,q6e,q2j,q6q,List.append_nil,q3R,q2P,q49,z5s,Option.isSome_some,q2k,Bool.and_self,q1B,q16,q0Q,q1i,q19,q0X,List.nil_append,addBlks,hH1,q2U,q2q,q2S,q1j,z7x,e_ld,e_fa,evFa,Nat.add_zero,q29,hb,q6A,q2v,List.getElem?_cons_zero,q6z,List.drop_zero,q5J,evLen,q3S,q3X,List.cons_append,j1O,z5r,z7z,z7y,evBin,intBin,z0H,z4e,cut1,q3y,List.drop_succ_cons,cut2,e_or,e_ia,z1g,h0,z4J,Int.toNat_natCast,z0T,n0,q0g,List.map_cons,mkd,D.flat,List.map_nil,j1N,strBin,decide_true,Bool.not_true,q4R,n2,q7Y,Bool.or_self,h1,hia,r0,hia',r1,q6T,q65,q6S,q3D,q0v,q0y,q1X,Nat.reduceEqDiff,q2I,if_false,q1A,hl,q5U,q8g,q5O,q3k,q20,q6v,Option.map_some,q0b]
  unfold finish
  have hnd:(List.range (t.globals.length+2)).Nodup:=List.nodup_range
  simp only[Bool.false_eq_true,if_false,hnd,decide_true,List.take_of_length_le (show(List.range (t.globals.length+2)).length≤t.globals.length+2 by simp),Bool.and_self,if_true,hfin]
  rw[show finV (t.globals.length+2==0) (List.range (t.globals.length+2)) H (V.bool true)=some (V.bool true) from rfl]
  simp
end Go.Vm
end

section
namespace Go.Vm
set_option maxRecDepth 20000
open Go.Proofs
/- 'sloth/slothlaw17.turn' -/
def f17_L0:C:=
 (.seq
  (.seq
   (.reg [⟨[],[(22,(.bin .lss (.sl 4) (.len false (.ld 1 false (.fa 2 (.ia 3 (.ld 1 false (.fa 1 (.sl 1))) (.sl 3)))))))],[],none,[1,2,3,4],9,[],[],[]⟩])
   (.cond (.sl 22)
    .skip
    (.seq
     (.keep [1,2,3])
     (.exit 2))))
  (.seq
   (.block 3
    (.seq
     (.reg [⟨[],[(35,(.bin .eql (.ld 1 false (.fa 0 (.ia 3 (.ld 1 false (.fa 2 (.ia 3 (.ld 1 false (.fa 1 (.sl 1))) (.sl 3)))) (.sl 4)))) (.int .i64 3)))],[],none,[1,2,3,4],11,[],[],[]⟩])
     (.cond (.sl 35)
      (.reg [⟨[],[],[],some (none,.store 1 (.fa 1 (.ia 3 (.ld 1 false (.fa 2 (.ia 3 (.ld 1 false (.fa 1 (.sl 1))) (.sl 3)))) (.sl 4))) (.bin .xor (.ld 1 false (.fa 1 (.ia 3 (.ld 1 false (.fa 2 (.ia 3 (.ld 1 false (.fa 1 (.sl 1))) (.sl 3)))) (.sl 4)))) (.int .i64 1))),[1,2,3,4],21,[[],[0],[],[2,0,1],[1,0,2,3],[3,2,0,1,4],[],[],[7],[],[9,7,8],[8,7,9,10],[10,9,7,8,11],[],[13,11,8,7,9,10,12],[12,10,9,7,8,11,13,14],[14,13,11,8,7,9,10,12,15],[15,12,10,9,7,8,11,13,14,16],[17,16,15,14,13,12,11,10,9,8,7,6,4,1,0,2,3,5],[5,3,2,0,1,4,6,7,8,9,10,11,12,13,14,15,16,17,18],[18,17,16,15,14,13,12,11,10,9,8,7,6,4,1,0,2,3,5,19]],[],[]⟩])
      .skip)))
   (.reg [⟨[],[(4,(.bin .add (.sl 4) (.int .i64 1)))],[],none,[1,2,3],3,[],[],[]⟩])))
def f17_L1:C:=
 (.seq
  (.seq
   (.reg [⟨[],[(11,(.bin .lss (.sl 3) (.sl 2)))],[],none,[1,2,3],3,[],[],[]⟩])
   (.cond (.sl 11)
    .skip
    (.seq
     (.keep [1,2])
     (.exit 0))))
  (.seq
   (.block 1
    (.seq
     (.reg [⟨[],[(4,(.int .i64 0))],[],none,[1,2,3],1,[],[],[]⟩])
     (.block 2
      (.seq (.keep [1,2,3,4]) (.loop (.seq (.keep [1,2,3,4]) f17_L0))))))
   (.reg [⟨[],[(3,(.bin .add (.sl 3) (.int .i64 1)))],[],none,[1,2],3,[],[],[]⟩])))
def f17_L2:C:=
 (.seq
  (.seq
   (.reg [⟨[],[(58,(.bin .lss (.sl 5) (.sl 2)))],[],none,[1,2,5],3,[],[],[]⟩])
   (.cond (.sl 58)
    .skip
    (.seq
     (.keep [])
     (.exit 4))))
  (.seq
   (.block 5
    (.seq
     (.reg [⟨[],[(74,(.bin .eql (.ld 1 false (.fa 1 (.ia 3 (.ld 1 false (.fa 1 (.sl 1))) (.sl 5)))) (.ld 1 false (.fa 1 (.ia 3 (.ld 1 false (.fa 1 (.sl 1))) (.bin .sub (.sl 2) (.int .i64 1)))))))],[],none,[1,2,5],14,[[],[0],[],[2,0,1],[1,0,2,3],[3,2,0,1,4],[],[6],[],[8],[8,9,6,7],[7,6,9,8,10],[10,8,9,6,7,11],[11,7,6,9,8,10,12,4,1,0,2,3,5]],[],[]⟩])
     (.cond (.sl 74)
      (.seq
       (.reg [⟨[],[],[],some (none,.store 1 (.fa 2 (.ia 3 (.ld 1 false (.fa 1 (.sl 1))) (.sl 5))) (.ld 1 false (.fa 2 (.ia 3 (.ld 1 false (.fa 1 (.sl 1))) (.bin .sub (.sl 2) (.int .i64 1)))))),[],13,[[],[0],[],[],[3],[],[5],[5,6,3,4],[4,3,6,5,7],[7,5,6,3,4,8],[9,8,7,6,5,4,3,2,0,1],[1,0,2,3,4,5,6,7,8,9,10],[10,9,8,7,6,5,4,3,2,0,1,11]],[],[]⟩])
       (.seq
        (.keep [])
        .ret))
      .skip)))
   (.reg [⟨[],[(5,(.bin .add (.sl 5) (.int .i64 1)))],[],none,[1,2],3,[],[],[]⟩])))
def f17:Fun:=⟨
 (.seq
  (.reg [⟨[(1,.box (.sl 0))],[],[],none,[1],1,[],[],[]⟩])
  (.seq
   (.reg [⟨[],[(2,(.len false (.ld 1 false (.fa 1 (.sl 1)))))],[],none,[1],4,[],[],[]⟩])
   (.seq
    (.seq
     (.reg [⟨[],[(3,(.int .i64 0))],[],none,[1,2],1,[],[],[]⟩])
     (.block 0
      (.seq (.keep [1,2,3]) (.loop (.seq (.keep [1,2,3]) f17_L1)))))
    (.seq
     (.reg [⟨[],[(5,(.int .i64 0))],[],none,[1,2],1,[],[],[]⟩])
     (.block 4
      (.seq (.keep [1,2,5]) (.loop (.seq (.keep [1,2,5]) f17_L2)))))))),
 [],false⟩
theorem z9z (m:Nat):q0J Go.Proofs.Tryz.prog 17 m 1 f17=true:=by kernel_rfl
def q3t (x:Instr):Instr:=if x.op == 3 then ⟨x.op,bits .xor .i64 x.a 1,x.b⟩ else x
def q24 (g:Glob):Glob:=⟨g.name,g.arity,g.code.map q3t⟩
theorem q8j {α:Type} (l:List α) (i:Nat) (x:α):(l.set i x).drop (i+1)=l.drop (i+1):=by
  rw [List.drop_set];simp
theorem z8D (K:Cx) (t:Table) (ht:Sm t) (b i:Nat) (nx:Nat) (mv:List Nat) (z:Bool) (g:Glob) (hi:i < t.globals.length) (hg:nth t.globals i=g) (hbi:b≠2+i):∀ (k j:Nat) (H:List (Nat×Blk)) (rows:List Instr),j+k=g.code.length→
    look H b=some (.mix 2 [[.bsx 0 0 t.shapes.length,.bsx 1 0 t.globals.length]])→look H 1=some (gB z 2 t.globals)→look H (2+i)=some (.dat z 3 (rows.map q0j))→rows.length=g.code.length+2→
    rows.take j=(finI (g.code.map q3t)).take j→rows.drop j=(finI g.code).drop j→
    ∃ H',lpk K [1,2,3,4] f17_L0 ⟨[(1,.ptr b 0 0),(2,.d false (.int .i64 t.globals.length)),(3,.d false (.int .i64 i)),(4,.d false (.int .i64 j))],H,nx,mv⟩ =
      some (.exit 2,⟨[(1,.ptr b 0 0),(2,.d false (.int .i64 t.globals.length)),(3,.d false (.int .i64 i))],H',nx,mv⟩)∧
      look H' (2+i)=some (.dat z 3 ((finI (g.code.map q3t)).map q0j))∧∀ c,c≠2+i→look H' c=look H c:=by
  have hgl:=ht.gl
  have hm:g∈t.globals:=by rw [← hg,q05,List.getD_eq_getElem?_getD,List.getElem?_eq_getElem hi];exact List.getElem_mem hi
  have hcl:=ht.cd g hm
  have fl:=q8f g.code
  have fl2:(finI (g.code.map q3t)).length=g.code.length+2:=by simp [finI]
  have hr:(gB z 2 t.globals).row? i=some (rowG (2+i,g)):=by rw [q5r hi,hg]
  have hia:=q3o (k:=3) (b:=1) (i:=0) (len:=t.globals.length) (n:=(i:Int)) (gB_k z 2 t.globals) (by omega) (by omega)
  simp only [rowG] at hr
  intro k
  induction k with
  | zero=>
    intro j H rows hj hb h1 hc hl htk hdr
    obtain rfl:j=g.code.length:=by omega
    have e:rows=finI (g.code.map q3t):=by
      rw [← List.take_append_drop g.code.length rows,htk,hdr]
      unfold finI
      rw [List.take_append_of_le_length (by simp),List.take_of_length_le (by simp),List.drop_append_of_le_length (Nat.le_refl _),List.drop_of_length_le (Nat.le_refl _)]
      rfl
    subst e
    refine ⟨H,?_,hc,fun _ _=>rfl⟩
    clear hdr htk
    rw [q1n f17_L0.eq_1]
    simp (disch:=first|decide|omega|(simp only [LN];first|done|omega)) only [SV,SW,Nat.reduceBEq,hb,h1,hia,hr,q0v,q0y,Nat.reduceEqDiff,q2b]
  | succ k ih=>
    intro j H rows hj hb h1 hc hl htk hdr
    have hj2:j < g.code.length:=by omega
    have hcode:g.code[j]? = some (nth g.code j):=q0U hj2
    have hx:(finI (g.code.map q3t))[j]? = some (q3t (nth g.code j)):=by
      unfold finI
      rw [List.getElem?_append_left (by simpa using hj2),List.getElem?_map,hcode];rfl
    have hrj:rows[j]? = some (nth g.code j):=by
      have:=congrArg (·[0]?) hdr
      simp only [List.getElem?_drop,Nat.add_zero] at this
      rw [this];unfold finI
      rw [List.getElem?_append_left hj2,hcode]
    have hn:nth rows (j:Int)=nth g.code j:=by
      rw [q05,List.getD_eq_getElem?_getD,hrj];rfl
    have hd1:rows.drop (j+1)=(finI g.code).drop (j+1):=by
      have:=congrArg (List.drop 1) hdr
      simpa [List.drop_drop,Nat.add_comm] using this
    generalize hxx:nth g.code (j:Int)=x at *
    have hib:=q3o (k:=3) (b:=2+i) (i:=0) (len:=g.code.length) (n:=(j:Int)) (blk:=.dat z 3 (rows.map q0j)) rfl (by omega) (by omega)
    cases h3:x.op == 3 with
    | true=>
      have ef:q3t x=⟨x.op,bits .xor .i64 x.a 1,x.b⟩:=by unfold q3t;rw [h3];rfl
      obtain ⟨H',e1,e2,e3⟩:=ih (j+1) (put H (2+i) (.dat z 3 ((rows.set j (q3t x)).map q0j))) (rows.set j (q3t x)) (by omega) (by rw [q0a _ _ (Ne.symm hbi)];exact hb) (by rw [q0a _ _ (by omega)];exact h1)
        (q0u _ _ _) (by simpa using hl) (q1P (by omega) htk (by omega) hx) (by rw [q8j];exact hd1)
      refine ⟨H',?_,e2,fun c hc=>by rw [e3 c hc,q0a _ _ (Ne.symm hc)]⟩
      rw [← e1,ef]
      clear e1 e2 e3 ih htk hdr hd1 hrj hx hcode hm
      rw [q1n f17_L0.eq_1]
      simp (disch:=first|decide|omega|(simp only [LN];first|done|omega)) only [SV,SW,Nat.reduceBEq,hb,h1,hia,hr,hc,hib,hn,q0e,h3,Nat.reduceAdd,z0r,lose,q1o,q0y,Nat.reduceEqDiff]
      rfl
    | false=>
      have ef:q3t x=x:=by unfold q3t;rw [h3];rfl
      obtain ⟨H',e1,e2,e3⟩:=ih (j+1) H rows (by omega) hb h1 hc hl (by
        rw [List.take_add_one,List.take_add_one,htk,hrj,hx,ef]) hd1
      refine ⟨H',?_,e2,e3⟩
      rw [← e1]
      clear e1 e2 e3 ih htk hdr hd1 hrj hx hcode hm
      rw [q1n f17_L0.eq_1]
      simp (disch:=first|decide|omega|(simp only [LN];first|done|omega)) only [SV,SW,Nat.reduceBEq,hb,h1,hia,hr,hc,hib,hn,q0e,h3,q1o,q0y,Nat.reduceEqDiff]
      rfl
theorem q87:∀ (gs:List Glob) (p:Nat),(numG p (gs.map q24)).map rowG=(numG p gs).map rowG
  | [],_=>rfl
  | g :: r,p=>by
    simp only [List.map_cons,numG,q87 r (p+1),List.cons.injEq,and_true]
    simp [rowG,q24]
theorem z6O {gs:List Glob} {j:Nat} (h:j < gs.length):nth (gs.map q24) (j:Int)=q24 (nth gs j):=by
  have h1:=q0U (l:=gs.map q24) (j:=j) (by simpa using h)
  rw [List.getElem?_map,q0U h] at h1
  exact (Option.some.inj h1).symm
structure TF (H:List (Nat×Blk)) (z:Bool) (t:Table) (i:Nat):Prop where
  s:look H 0=some (.dat z 2 ((finS t).map q0c))
  g:look H 1=some (gB z 2 t.globals)
  c:∀ j,j < t.globals.length→look H (2+j)=some (cB z (if j < i then q24 (nth t.globals j) else nth t.globals j))
set_option maxHeartbeats 1000000 in
theorem z8C (K:Cx) (t:Table) (ht:Sm t) (b:Nat) (nx:Nat) (mv:List Nat) (z:Bool) (hb2:t.globals.length+2≤b):∀ (k i:Nat) (H:List (Nat×Blk)),i+k=t.globals.length→
    look H b=some (.mix 2 [[.bsx 0 0 t.shapes.length,.bsx 1 0 t.globals.length]])→TF H z t i→
    ∃ H',lpk K [1,2,3] f17_L1 ⟨[(1,.ptr b 0 0),(2,.d false (.int .i64 t.globals.length)),(3,.d false (.int .i64 i))],H,nx,mv⟩ =
      some (.exit 0,⟨[(1,.ptr b 0 0),(2,.d false (.int .i64 t.globals.length))],H',nx,mv⟩)∧look H' b=some (.mix 2 [[.bsx 0 0 t.shapes.length,.bsx 1 0 t.globals.length]])∧TF H' z t t.globals.length:=by
  have hgl:=ht.gl
  intro k
  induction k with
  | zero=>
    intro i H hi hb hF
    obtain rfl:i=t.globals.length:=by omega
    refine ⟨H,?_,hb,hF⟩
    clear hF
    rw [q1n f17_L1.eq_1]
    simp (disch:=first|decide|omega|(simp only [LN];first|done|omega)) only [SV,SW,Nat.reduceBEq,q0v,q0y,Nat.reduceEqDiff,q2b]
  | succ k ih=>
    intro i H hi hb hF
    have hi2:i < t.globals.length:=by omega
    have hc:=hF.c i hi2
    rw [if_neg (Nat.lt_irrefl i)] at hc
    obtain ⟨H1,e1,f1,fo⟩:=z8D K t ht b i nx mv z (nth t.globals i) hi2 rfl (by omega) (nth t.globals i).code.length 0 H (finI (nth t.globals i).code) (by omega) hb hF.g (by simpa [cB] using hc) (q8f _) (by simp) (by simp)
    obtain ⟨H',e2,g1,g2⟩:=ih (i+1) H1 (by omega) (by rw [fo b (by omega)];exact hb) ⟨by rw [fo 0 (by omega)];exact hF.s,by rw [fo 1 (by omega)];exact hF.g,fun j hj=>by
      by_cases hji:j=i
      · subst hji
        rw [f1,if_pos (by omega)];rfl
      · rw [fo _ (by omega),hF.c j hj]
        by_cases h:j < i
        · rw [if_pos h,if_pos (by omega)]
        · rw [if_neg h,if_neg (by omega)]⟩
    refine ⟨H',?_,g1,g2⟩
    rw [← e2]
    simp only [Int.natCast_zero] at e1
    clear ih hc fo f1 g1 g2 hF
    rw [q1n f17_L1.eq_1]
    simp (disch:=first|decide|omega|(simp only [LN];first|done|omega)) only [SV,SW,Nat.reduceBEq,q0v,q0y,Nat.reduceEqDiff,q1A,e1,q1o]
    rfl
def z0h (t:Table):Int:=(nth t.globals ((t.globals.length:Int) - 1)).arity
def i0 (t:Table):Nat:=t.globals.findIdx fun g=>g.arity == z0h t
theorem z0g (t:Table) (h:t.globals≠[]):∃ m,t.globals.length=m+1∧z0h t=(nth t.globals (m:Int)).arity:=by
  have hl:=List.length_pos_iff.2 h
  refine ⟨t.globals.length - 1,by omega,?_⟩
  unfold z0h
  rw [show ((t.globals.length:Int) - 1)=((t.globals.length - 1:Nat):Int) by omega]
theorem z0m (t:Table) (h:t.globals≠[]):i0 t < t.globals.length:=by
  obtain ⟨m,h1,h2⟩:=z0g t h
  refine List.findIdx_lt_length_of_exists ⟨nth t.globals (m:Int),?_,by simp [h2]⟩
  have:=q0U (l:=t.globals) (j:=m) (by omega)
  exact List.mem_of_getElem? this
theorem i0_at (t:Table) (h:t.globals≠[]):((nth t.globals (i0 t:Int)).arity == z0h t)=true:=by
  have h1:=z0m t h
  have h2:=List.findIdx_getElem (xs:=t.globals) (p:=fun g=>g.arity == z0h t) (w:=by exact h1)
  have h3:=q0U h1
  rw [List.getElem?_eq_getElem h1] at h3
  rw [← Option.some.inj h3]
  exact h2
theorem i0_no (t:Table) {i:Nat} (h:i < i0 t) (hl:i < t.globals.length):((nth t.globals (i:Int)).arity == z0h t)=false:=by
  have h2:=List.not_of_lt_findIdx (xs:=t.globals) (p:=fun g=>g.arity == z0h t) h
  have h3:=q0U hl
  rw [List.getElem?_eq_getElem hl] at h3
  rw [← Option.some.inj h3]
  simpa using h2
def q9U (t:Table):Nat×Glob:=(2+(t.globals.length - 1),⟨(nth t.globals (i0 t:Int)).name,(nth t.globals (i0 t:Int)).arity,(nth t.globals ((t.globals.length:Int) - 1)).code.map q3t⟩)
def q39 (z:Bool) (t:Table):Blk:=if t.globals=[] then .dat z 3 [behD,behD] else .mix 3 ((((numG 2 (t.globals.map q24)).set (i0 t) (q9U t)).map rowG)++[behG z,behG z])
theorem z6p (z:Bool) (t:Table) (h:t.globals≠[]):(gB z 2 t.globals).set (i0 t) 2 [.bsx (2+(t.globals.length - 1)) 0 (nth t.globals ((t.globals.length:Int) - 1)).code.length]=some (q39 z t):=by
  have h1:=z0m t h
  have hr:=q5r (z:=z) (p:=2) h1
  have hR:gB z 2 t.globals=.mix 3 ((numG 2 (t.globals.map q24)).map rowG++[behG z,behG z]):=by rw [q87];exact if_neg h
  rw [hR,q2v] at hr
  rw [hR]
  simp only [Blk.set,hr]
  unfold q39
  rw [if_neg h,if_pos (by simp [rowG])]
  congr 2
  rw [List.set_append_left _ _ (by simpa [q1c] using h1),List.map_set]
  congr 2
  simp [splice,rowG,q9U]
set_option maxHeartbeats 1000000 in
theorem z8B (K:Cx) (t:Table) (ht:Sm t) (b:Nat) (H:List (Nat×Blk)) (nx:Nat) (mv:List Nat) (z:Bool) (hne:t.globals≠[]) (hb:look H b=some (.mix 2 [[.bsx 0 0 t.shapes.length,.bsx 1 0 t.globals.length]])) (h1:look H 1=some (gB z 2 t.globals)):∀ (k i:Nat),i+k=i0 t→
    lpk K [1,2,5] f17_L2 ⟨[(1,.ptr b 0 0),(2,.d false (.int .i64 t.globals.length)),(5,.d false (.int .i64 i))],H,nx,mv⟩=some (.ret,⟨[],put H 1 (q39 z t),nx,mv⟩):=by
  have hgl:=ht.gl
  have hlt:=z0m t hne
  obtain ⟨m,hm1,hm2⟩:=z0g t hne
  have hrm:(gB z 2 t.globals).row? m=some (rowG (2+m,nth t.globals (m:Int))):=q5r (by omega)
  have hjm:=q3o (k:=3) (b:=1) (i:=0) (len:=t.globals.length) (n:=(t.globals.length:Int) - 1) (gB_k z 2 t.globals) (by omega) (by omega)
  have hmi:((t.globals.length:Int) - 1).toNat=m:=by omega
  rw [hmi] at hjm
  simp only [rowG] at hrm
  intro k
  induction k with
  | zero=>
    intro i hi
    obtain rfl:i=i0 t:=by omega
    have hr:=q5r (z:=z) (p:=2) hlt
    have hia:=q3o (k:=3) (b:=1) (i:=0) (len:=t.globals.length) (n:=(i0 t:Int)) (gB_k z 2 t.globals) (by omega) (by omega)
    have hat:=i0_at t hne
    rw [hm2] at hat
    have hset:=z6p z t hne
    rw [show t.globals.length - 1=m by omega,show ((t.globals.length:Int) - 1)=(m:Int) by omega] at hset
    simp only [rowG] at hr
    rw [q1n f17_L2.eq_1]
    simp (disch:=first|decide|omega|(simp only [LN];first|done|omega)) only [SV,SW,Nat.reduceBEq,hb,h1,hia,hr,hjm,hrm,hat,hset,lose,q0v,q0y,z6U]
  | succ k ih=>
    intro i hi
    have ih:=ih (i+1) (by omega)
    have hr:=q5r (z:=z) (p:=2) (gs:=t.globals) (i:=i) (by omega)
    have hia:=q3o (k:=3) (b:=1) (i:=0) (len:=t.globals.length) (n:=(i:Int)) (gB_k z 2 t.globals) (by omega) (by omega)
    have hat:=i0_no t (i:=i) (by omega) (by omega)
    rw [hm2] at hat
    simp only [rowG] at hr
    rw [← ih]
    rw [q1n f17_L2.eq_1]
    simp (disch:=first|decide|omega|(simp only [LN];first|done|omega)) only [SV,SW,Nat.reduceBEq,hb,h1,hia,hr,hjm,hrm,hat,q1o,q0y,Nat.reduceEqDiff]
    rfl
def q2D (t:Table):List Blk:=.dat false 2 ((finS t).map q0c) :: q39 false t :: (t.globals.map q24).map (cB false)
theorem z9d {α:Type} {f:α→Option α} {l:List α} (h:∀ x∈l,f x=some x):mapO f l=some l:=
  q6u rfl fun j x hx=>by rw [h x (List.mem_of_getElem? hx),hx]
theorem q5K:∀ (gs:List Glob) (p:Nat) (q:Nat×Glob),q∈numG p gs→p≤q.1∧q.1 < p+gs.length
  | g :: r,p,q,h=>by
    simp only [numG,List.mem_cons] at h
    rcases h with rfl | h
    · simp
    · have:=q5K r (p+1) q h
      simp only [List.length_cons];omega
theorem z6r {H:List (Nat×Blk)} {zz:Bool} {t:Table} (h0:look H 0=some (.dat false 2 ((finS t).map q0c))) (h1:look H 1=some (q39 false t)) (hc:∀ j,j < t.globals.length→look H (2+j)=some (cB false (q24 (nth t.globals j)))) :
    mapO (finB zz (List.range' 0 (t.globals.length+2)) H) (List.range' 0 (t.globals.length+2))=some (q2D t):=by
  refine q6u (by simp [q2D]) fun j b hb=>?_
  obtain ⟨hj,rfl⟩:=z8U _ _ _ _ hb
  match j,hj with
  | 0,_=>simp only [finB,Nat.add_zero,h0];rfl
  | 1,_=>
    show finB _ _ _ _=some (q39 false t)
    simp only [finB,Nat.zero_add,h1]
    by_cases hg:t.globals=[]
    · simp only [q39,if_pos hg]
    · simp only [q39,if_neg hg]
      rw [q6t (t':=[]) (t2:=[behG false,behG false]) rfl (z9d fun r hr=>?_)]
      · rfl
      · obtain ⟨q,hq,rfl⟩:=List.mem_map.1 hr
        have hl:=z0m t hg
        have hq1:2≤q.1∧q.1 < t.globals.length+2:=by
          rcases List.mem_or_eq_of_mem_set hq with hq | rfl
          · have:=q5K _ _ q hq
            simp only [List.length_map] at this;omega
          · simp only [q9U];omega
        exact z4Y (q:=q.1) (g:=q.2) (by rw [q1w,decide_eq_true_eq];omega) (by have:=q98 (p:=0) (m:=t.globals.length+2) (j:=q.1) (by omega);rwa [Nat.zero_add] at this)
  | j+2,hj=>
    rw [show 0+(j+2)=2+j by omega]
    simp only [finB,hc j (by omega),cB]
    simp only [q2D,List.getElem?_cons_succ,List.getElem?_map,q0U (show j < t.globals.length by omega),Option.map_some,cB]
set_option maxHeartbeats 1000000 in
theorem z6q (K:Cx) (t:Table) (ht:Sm t):q0o K f17 [.agg [.bsx 0 0 t.shapes.length,.bsx 1 0 t.globals.length]] (tblk false 2 t)=some (.tup [],q2D t,[]):=by
  have hs:=ht.sh
  have hgl:=ht.gl
  have hT0:=q7n t false
  have hln:=q1O false 2 t
  generalize hH:indexed (tblk false 2 t)=H0 at hT0
  have hT:TB ((t.globals.length+2,.mix 2 [[.bsx 0 0 t.shapes.length,.bsx 1 0 t.globals.length]]) :: H0) 0 false t:=hT0.mono fun b _ hb=>q21 _ _ (by omega)
  have hb:look ((t.globals.length+2,Blk.mix 2 [[.bsx 0 0 t.shapes.length,.bsx 1 0 t.globals.length]]) :: H0) (t.globals.length+2)=some (.mix 2 [[.bsx 0 0 t.shapes.length,.bsx 1 0 t.globals.length]]):=q79 _ _ _
  generalize hH1:(t.globals.length+2,Blk.mix 2 [[.bsx 0 0 t.shapes.length,.bsx 1 0 t.globals.length]]) :: H0=H at hT hb
  have hnd:(List.range (t.globals.length+2)).Nodup:=List.nodup_range
  obtain ⟨H1,e1,hb1,hF⟩:=z8C K t ht (t.globals.length+2) (t.globals.length+2+1) [] false (Nat.le_refl _) t.globals.length 0 H (by omega) hb
    ⟨hT.s,hT.g,fun j hj=>by have:=hT.c j hj;rw [if_neg (by omega)];rw [show 2+j=0+2+j by omega];exact this⟩
  have hend:∀ (e:Ex) (H2:List (Nat×Blk)) (ρ),look H2 0=some (.dat false 2 ((finS t).map q0c))→look H2 1=some (q39 false t)→(∀ j,j < t.globals.length→look H2 (2+j)=some (cB false (q24 (nth t.globals j))))→
      finish (t.globals.length+2) false ⟨ρ,H2,t.globals.length+2+1,[]⟩ (.tup [])=some (.tup [],q2D t,[]):=by
    intro e H2 ρ g0 g1 gc
    have hfin:=z6r (zz:=((t.globals.length+2) == 0)) g0 g1 gc
    rw [← List.range_eq_range'] at hfin
    unfold finish
    simp only [Bool.false_eq_true,if_false,hnd,decide_true,List.take_of_length_le (show (List.range (t.globals.length+2)).length≤t.globals.length+2 by simp),Bool.and_self,if_true,hfin]
    rw [show finV (t.globals.length+2 == 0) (List.range (t.globals.length+2)) H2 (V.tup [])=some (V.tup []) from rfl]
    simp
  rw [show f17=⟨f17.body,f17.res,false⟩ from rfl,q4h]
  rw [show startS [.agg [.bsx 0 0 t.shapes.length,.bsx 1 0 t.globals.length]] (tblk false 2 t)=⟨[(0,.agg [.bsx 0 0 t.shapes.length,.bsx 1 0 t.globals.length])],H0,t.globals.length+2,[]⟩ by simp only [startS,hH,hln];rfl]
  simp only [hln]
  simp only [Int.natCast_zero] at e1
  have hcF:∀ j,j < t.globals.length→look H1 (2+j)=some (cB false (q24 (nth t.globals j))):=fun j hj=>by rw [hF.c j hj,if_pos hj]
  have g0:=hF.s
  have g1:=hF.g
  clear hT hT0 hF
  by_cases hne:t.globals=[]
  · have hl0:t.globals.length=0:=by rw [hne];rfl
    have hw:q39 false t=gB false 2 t.globals:=by unfold q39 gB;rw [if_pos hne,if_pos hne]
    have he:=hend .nrm H1 [] g0 (by rw [hw];exact g1) hcF
    clear hcF hend
    have el:lpk K [1,2,5] f17_L2 ⟨[(1,.ptr (t.globals.length+2) 0 0),(2,.d false (.int .i64 t.globals.length)),(5,.d false (.int .i64 0))],H1,t.globals.length+2+1,[]⟩=some (.exit 4,⟨[],H1,t.globals.length+2+1,[]⟩):=by
      rw [q1n f17_L2.eq_1]
      simp (disch:=first|decide|omega|(simp only [LN];first|done|omega)) only [SV,SW,Nat.reduceBEq,q0v,q0y,q2b]
    simp (disch:=first|decide|omega|(simp only [LN];first|done|omega)) only [f17,q1U,q25,q00,q27,q2N,q4A,e_sl,q2e,beq_self_eq_true,q1y,q2X,mkBox,V.laid,V.cells,List.length_cons,List.length_nil,Nat.zero_add,Nat.reduceAdd,if_true,q6r,q4k,Nat.reduceBEq,q2G,q6e,q2j,q6q,List.append_nil,q3R,q2P,q2k,q1B,q16,q0Q,q1i,q19,q0X,List.nil_append,addBlks,hH1,q2U,q2q,q2S,q1j,z7x,e_ld,e_fa,evFa,q29,hb,q6A,q2v,List.getElem?_cons_zero,q6z,List.drop_succ_cons,List.drop_zero,q5J,evLen,q3S,q3X,List.cons_append,z7y,q3D,q0v,q0y,q1X,Nat.reduceEqDiff,q2I,if_false,q1A,e1,q5U,el,z7v,q20,Option.map_some,q0b]
    exact he
  · have el:=z8B K t ht (t.globals.length+2) H1 (t.globals.length+2+1) [] false hne hb1 g1 (i0 t) 0 (by omega)
    have he:=hend .ret (put H1 1 (q39 false t)) [] (by rw [q0a _ _ (by omega)];exact g0) (q0u _ _ _) (fun j hj=>by rw [q0a _ _ (by omega)];exact hcF j hj)
    simp only [Int.natCast_zero] at el
    clear hcF hend
    simp (disch:=first|decide|omega|(simp only [LN];first|done|omega)) only [f17,q1U,q25,q00,q27,q2N,q4A,e_sl,q2e,beq_self_eq_true,q1y,q2X,mkBox,V.laid,V.cells,List.length_cons,List.length_nil,Nat.zero_add,Nat.reduceAdd,if_true,q6r,q4k,Nat.reduceBEq,q2G,q6e,q2j,q6q,List.append_nil,q3R,q2P,q2k,q1B,q16,q0Q,q1i,q19,q0X,List.nil_append,addBlks,hH1,q2U,q2q,q2S,q1j,z7x,e_ld,e_fa,evFa,q29,hb,q6A,q2v,List.getElem?_cons_zero,q6z,List.drop_succ_cons,List.drop_zero,q5J,evLen,q3S,q3X,List.cons_append,z7y,q3D,q0v,q0y,q1X,Nat.reduceEqDiff,q2I,if_false,q1A,e1,q5U,el,z5A,q5O,q20,Option.map_some,q0b]
    exact he
end Go.Vm
end

section
namespace Go.Vm
set_option maxRecDepth 20000
open Go.Proofs
def h2(a b:Table):List (Nat×Blk):=[(0,.mix 2 [tabV a]),(1,.mix 2 [tabV b])]
def noV:Ex×S:=(.ret,⟨[(4,.d false (.bool false))],[],0,[]⟩)
def y0(a b:Table)(r:Bool):Ex×S:=if r then(.exit 0,⟨[(2,.ptr 0 0 0),(3,.ptr 1 0 0)],h2 a b,2,[]⟩) else noV
theorem y0_t(a b):y0 a b true=(.exit 0,⟨[(2,.ptr 0 0 0),(3,.ptr 1 0 0)],h2 a b,2,[]⟩):=rfl
theorem y0_f(a b):y0 a b false=(.ret,⟨[(4,.d false (.bool false))],[],0,[]⟩):=rfl
structure Big(a:Table):Prop where
 sh:(a.shapes.length:Int)≤9223372036854775807
 gl:(a.globals.length:Int)≤9223372036854775807
 cd:∀ g∈a.globals,(g.code.length:Int)≤9223372036854775807
theorem z8O(K:Cx)(a b:Table)(ha:Big a)(hab:a.shapes.length=b.shapes.length):∀(k i:Nat),i+k=a.shapes.length→
  lp K 0 [2,3,5] f15_L0 ⟨[(2,.ptr 0 0 0),(3,.ptr 1 0 0),(5,.d false (.int .i64 i))],h2 a b,2,[]⟩=some (y0 a b (decide (a.shapes.drop i=b.shapes.drop i))):=by
 have hl:=ha.sh
 intro k
 induction k with
 |zero=>
  intro i hi
  rw[q0I f15_L0.eq_1,List.drop_of_length_le (by omega),List.drop_of_length_le (by omega)]
  simp only[decide_true,y0_t,h2,tabV]
  simp(disch:=first|decide|omega|(simp only[LN];first|done|omega)) only[SV,SW,Nat.reduceBEq,reduceCtorEq,Nat.reduceAdd]
 |succ k ih=>
  intro i hi
  have hcast:((i+1:Nat):Int)=(i:Int)+1:=by omega
  have ih:=ih (i+1) (by omega)
  rw[hcast] at ih
  rw[q0I f15_L0.eq_1,q0F (by omega:i<a.shapes.length),q0F (by omega:i<b.shapes.length)]
  generalize hx:nth a.shapes (i:Int)=x
  generalize hy:nth b.shapes (i:Int)=y
  by_cases e:x=y
  ·subst e
   rw[show decide (x :: a.shapes.drop (i+1)=x :: b.shapes.drop (i+1))=decide (a.shapes.drop (i+1)=b.shapes.drop (i+1)) by simp]
   simp only[h2,tabV] at ih ⊢
   simp(disch:=first|decide|omega|(simp only[LN];first|done|omega)) only[SV,SW,Nat.reduceBEq,hx,q0g,Nat.reduceAdd,hy,q1r,q0s,q0D,reduceCtorEq]
   exact ih
  ·have hd:decide (x :: a.shapes.drop (i+1)=y :: b.shapes.drop (i+1))=false:=by simp [e]
   rw[hd,y0_f]
   clear ih
   simp only[h2,tabV]
   by_cases e1:x.name=y.name
   ·have e2:(x.fields==y.fields)=false:=by
     simp only[beq_eq_false_iff_ne];intro e3;apply e;cases x;cases y;simp_all
    clear e
    simp(disch:=first|decide|omega|(simp only[LN];first|done|omega)) only[SV,SW,Nat.reduceBEq,hx,q0g,e1,Nat.reduceAdd,hy,q1r,q0s,q0D,e2]
   ·clear e
    simp(disch:=first|decide|omega|(simp only[LN];first|done|omega)) only[SV,SW,Nat.reduceBEq,hx,q0g,Nat.reduceAdd,hy,q1r,q0s,q0D,e1]
def h4(a b:Table)(g h:Glob):List (Nat×Blk):=[(0,.mix 2 [tabV a]),(1,.mix 2 [tabV b]),(2,.mix 3 [[.d false (.str g.name),.d false (.int .i64 g.arity),.d false (.sl 3 (g.code.map q0j))]]),(3,.mix 3 [[.d false (.str h.name),.d false (.int .i64 h.arity),.d false (.sl 3 (h.code.map q0j))]])]
def y1(a b:Table)(j:Nat)(r:Bool):Ex×S:=if r then(.exit 4,⟨[(2,.ptr 0 0 0),(3,.ptr 1 0 0),(6,.d false (.int .i64 j))],h2 a b,2,[]⟩) else noV
theorem y1_t(a b j):y1 a b j true=(.exit 4,⟨[(2,.ptr 0 0 0),(3,.ptr 1 0 0),(6,.d false (.int .i64 j))],h2 a b,2,[]⟩):=rfl
theorem y1_f(a b j):y1 a b j false=(.ret,⟨[(4,.d false (.bool false))],[],0,[]⟩):=rfl
theorem z8N(K:Cx)(a b:Table)(g h:Glob)(hgh:g.code.length=h.code.length)(hl:(g.code.length:Int)≤9223372036854775807)(j:Nat):∀(k i:Nat),i+k=g.code.length→
  lp K 0 [2,3,6,7,8,9] f15_L1 ⟨[(2,.ptr 0 0 0),(3,.ptr 1 0 0),(6,.d false (.int .i64 j)),(7,.ptr 2 0 0),(8,.ptr 3 0 0),(9,.d false (.int .i64 i))],h4 a b g h,4,[]⟩=some (y1 a b j (decide (g.code.drop i=h.code.drop i))):=by
 intro k
 induction k with
 |zero=>
  intro i hi
  rw[q0I f15_L1.eq_1,List.drop_of_length_le (by omega),List.drop_of_length_le (by omega)]
  simp only[decide_true,y1_t,h4,h2,tabV]
  simp(disch:=first|decide|omega|(simp only[LN];first|done|omega)) only[SV,SW,Nat.reduceBEq,reduceCtorEq,Nat.reduceAdd]
 |succ k ih=>
  intro i hi
  have hcast:((i+1:Nat):Int)=(i:Int)+1:=by omega
  have ih:=ih (i+1) (by omega)
  rw[hcast] at ih
  rw[q0I f15_L1.eq_1,q0F (by omega:i<g.code.length),q0F (by omega:i<h.code.length)]
  generalize hx:nth g.code (i:Int)=x
  generalize hy:nth h.code (i:Int)=y
  by_cases e:x=y
  ·subst e
   rw[show decide (x :: g.code.drop (i+1)=x :: h.code.drop (i+1))=decide (g.code.drop (i+1)=h.code.drop (i+1)) by simp]
   simp only[h4,h2,tabV] at ih ⊢
   simp(disch:=first|decide|omega|(simp only[LN];first|done|omega)) only[SV,SW,Nat.reduceBEq,hx,q0e,Nat.reduceAdd,hy,q1r,q0s,q0D,reduceCtorEq,Nat.reduceEqDiff]
   exact ih
  ·have hd:decide (x :: g.code.drop (i+1)=y :: h.code.drop (i+1))=false:=by simp [e]
   rw[hd,y1_f]
   clear ih
   simp only[h4,h2,tabV]
   by_cases e1:x.op=y.op
   ·by_cases e2:x.a=y.a
    ·have e3:(x.b==y.b)=false:=by
      simp only[beq_eq_false_iff_ne];intro e3;apply e;cases x;cases y;simp_all
     have e2:(x.a==y.a)=true:=by simpa using e2
     have e1:(x.op==y.op)=true:=by simpa using e1
     clear e
     simp(disch:=first|decide|omega|(simp only[LN];first|done|omega)) only[SV,SW,Nat.reduceBEq,hx,q0e,Nat.reduceAdd,hy,q1r,q0s,q0D,e1,e2,e3]
    ·have e2:(x.a==y.a)=false:=by simpa using e2
     have e1:(x.op==y.op)=true:=by simpa using e1
     clear e
     simp(disch:=first|decide|omega|(simp only[LN];first|done|omega)) only[SV,SW,Nat.reduceBEq,hx,q0e,Nat.reduceAdd,hy,q1r,q0s,q0D,e1,e2]
   ·have e1:(x.op==y.op)=false:=by simpa using e1
    clear e
    simp(disch:=first|decide|omega|(simp only[LN];first|done|omega)) only[SV,SW,Nat.reduceBEq,hx,q0e,Nat.reduceAdd,hy,q1r,q0s,q0D,e1]
def y2(r:Bool):Ex×S:=if r then(.exit 2,⟨[],[],0,[]⟩) else noV
theorem y2_t:y2 true=(.exit 2,⟨[],[],0,[]⟩):=rfl
theorem y2_f:y2 false=(.ret,⟨[(4,.d false (.bool false))],[],0,[]⟩):=rfl
set_option maxHeartbeats 1000000 in
theorem z8M(K:Cx)(a b:Table)(ha:Big a)(hab:a.globals.length=b.globals.length):∀(k i:Nat),i+k=a.globals.length→
  lp K 0 [2,3,6] f15_L2 ⟨[(2,.ptr 0 0 0),(3,.ptr 1 0 0),(6,.d false (.int .i64 i))],h2 a b,2,[]⟩=some (y2 (decide (a.globals.drop i=b.globals.drop i))):=by
 have hl:=ha.gl
 intro k
 induction k with
 |zero=>
  intro i hi
  rw[q0I f15_L2.eq_1,List.drop_of_length_le (by omega),List.drop_of_length_le (by omega)]
  simp only[decide_true,y2_t,h2,tabV]
  simp(disch:=first|decide|omega|(simp only[LN];first|done|omega)) only[SV,SW,Nat.reduceBEq]
 |succ k ih=>
  intro i hi
  have hcast:((i+1:Nat):Int)=(i:Int)+1:=by omega
  have ih:=ih (i+1) (by omega)
  rw[hcast] at ih
  rw[q0I f15_L2.eq_1,q0F (by omega:i<a.globals.length),q0F (by omega:i<b.globals.length)]
  have hmem:nth a.globals (i:Int)∈a.globals:=List.mem_of_getElem? (q0U (by omega))
  generalize hx:nth a.globals (i:Int)=x at *
  generalize hy:nth b.globals (i:Int)=y
  have hcd:=ha.cd x hmem
  clear hmem
  by_cases e0:x.name=y.name
  ·have d0:decide (x.name=y.name)=true:=decide_eq_true e0
   by_cases e1:x.arity=y.arity
   ·have e1':(x.arity==y.arity)=true:=by simpa using e1
    have n1:(x.arity != y.arity)=false:=by simp [e1]
    by_cases e2:x.code.length=y.code.length
    ·have n2:((x.code.length:Int) != (y.code.length:Int))=false:=by simp [e2]
     have l1:=z8N K a b x y e2 hcd i x.code.length 0 (by omega)
     simp only[Int.natCast_zero,List.drop_zero] at l1
     have e2':=e2
     clear e2
     by_cases e3:x.code=y.code
     ·have e:x=y:=by cases x;cases y;simp_all
      rw[show decide (x :: a.globals.drop (i+1)=y :: b.globals.drop (i+1))=decide (a.globals.drop (i+1)=b.globals.drop (i+1)) by simp [e]]
      rw[decide_eq_true e3,y1_t] at l1
      clear e e1 e2' e0
      simp only[h4,h2,tabV] at ih l1 ⊢
      simp(disch:=first|decide|omega|(simp only[LN];first|done|omega)) only[SV,SW,Nat.reduceBEq,Nat.reduceAdd,hx,q0k,lose,hy,d0,n1,n2,reduceCtorEq,Nat.reduceEqDiff,l1]
      exact ih
     ·have hd:decide (x :: a.globals.drop (i+1)=y :: b.globals.drop (i+1))=false:=by
       simp only[decide_eq_false_iff_not,List.cons.injEq,not_and];intro e;exact absurd (by rw[e]) e3
      rw[hd,y2_f]
      rw[decide_eq_false e3,y1_f] at l1
      clear e1 e2' ih e3 hd e0
      simp only[h4,h2,tabV] at l1 ⊢
      simp(disch:=first|decide|omega|(simp only[LN];first|done|omega)) only[SV,SW,Nat.reduceBEq,Nat.reduceAdd,hx,q0k,lose,hy,d0,n1,n2,reduceCtorEq,Nat.reduceEqDiff,l1]
    ·have hd:decide (x :: a.globals.drop (i+1)=y :: b.globals.drop (i+1))=false:=by
      simp only[decide_eq_false_iff_not,List.cons.injEq,not_and];intro e;exact absurd (by rw[e]) e2
     have n2:((x.code.length:Int) != (y.code.length:Int))=true:=by simp;omega
     rw[hd,y2_f]
     clear e1 e2 ih hd e0
     simp only[h2,tabV]
     simp(disch:=first|decide|omega|(simp only[LN];first|done|omega)) only[SV,SW,Nat.reduceBEq,Nat.reduceAdd,hx,q0k,lose,hy,d0,n1,n2]
   ·have hd:decide (x :: a.globals.drop (i+1)=y :: b.globals.drop (i+1))=false:=by
     simp only[decide_eq_false_iff_not,List.cons.injEq,not_and];intro e;exact absurd (by rw[e]) e1
    have n1:(x.arity != y.arity)=true:=by simp [e1]
    rw[hd,y2_f]
    clear e1 ih hd e0
    simp only[h2,tabV]
    simp(disch:=first|decide|omega|(simp only[LN];first|done|omega)) only[SV,SW,Nat.reduceBEq,Nat.reduceAdd,hx,q0k,lose,hy,d0,n1]
  ·have hd:decide (x :: a.globals.drop (i+1)=y :: b.globals.drop (i+1))=false:=by
    simp only[decide_eq_false_iff_not,List.cons.injEq,not_and];intro e;exact absurd (by rw[e]) e0
   have d0:decide (x.name=y.name)=false:=decide_eq_false e0
   rw[hd,y2_f]
   clear ih hd e0
   simp only[h2,tabV]
   simp(disch:=first|decide|omega|(simp only[LN];first|done|omega)) only[SV,SW,Nat.reduceBEq,Nat.reduceAdd,hx,q0k,lose,hy,d0]
set_option maxHeartbeats 1000000 in
theorem z9G(K:Cx)(a b:Table)(ha:Big a)(hb:Big b):q0o K f15 [.agg (tabV a),.agg (tabV b)] []=some (.d false (.bool (decide (a=b))),[],[]):=by
 have hne:∀ {x y:Bool},a≠b→decide (a=b)=false:=fun h=>decide_eq_false h
 have b1:=hb.sh
 have b2:=hb.gl
 by_cases hs:a.shapes.length=b.shapes.length
 ·by_cases hg:a.globals.length=b.globals.length
  ·have n1:((a.shapes.length:Int) != (b.shapes.length:Int))=false:=by simp [hs]
   have n2:((a.globals.length:Int) != (b.globals.length:Int))=false:=by simp [hg]
   have l0:=z8O K a b ha hs a.shapes.length 0 (by omega)
   have l2:=z8M K a b ha hg a.globals.length 0 (by omega)
   simp only[Int.natCast_zero,List.drop_zero] at l0 l2
   by_cases e1:a.shapes=b.shapes
   ·rw[decide_eq_true e1,y0_t] at l0
    by_cases e2:a.globals=b.globals
    ·rw[decide_eq_true e2,y2_t] at l2
     rw[show decide (a=b)=true from decide_eq_true (by cases a;cases b;simp_all)]
     clear hs hg e1 e2
     simp only[h2,tabV] at l0 l2 ⊢
     simp(disch:=first|decide|omega|(simp only[LN];first|done|omega)) only[SV,SW,f15,Nat.reduceAdd,Nat.reduceBEq,n1,n2,reduceCtorEq,l0,l2,q0b]
    ·rw[decide_eq_false e2,y2_f] at l2
     rw[show decide (a=b)=false from decide_eq_false (fun h=>e2 (by rw[h]))]
     clear hs hg e1 e2
     simp only[h2,tabV] at l0 l2 ⊢
     simp(disch:=first|decide|omega|(simp only[LN];first|done|omega)) only[SV,SW,f15,Nat.reduceAdd,Nat.reduceBEq,n1,n2,reduceCtorEq,l0,l2,q0b]
   ·rw[decide_eq_false e1,y0_f] at l0
    rw[show decide (a=b)=false from decide_eq_false (fun h=>e1 (by rw[h]))]
    clear hs hg e1 l2
    simp only[h2,tabV] at l0 ⊢
    simp(disch:=first|decide|omega|(simp only[LN];first|done|omega)) only[SV,SW,f15,Nat.reduceAdd,Nat.reduceBEq,n1,n2,reduceCtorEq,l0,q0b]
  ·have n2:((a.globals.length:Int) != (b.globals.length:Int))=true:=by simp;omega
   rw[show decide (a=b)=false from decide_eq_false (fun h=>hg (by rw[h]))]
   have n1:((a.shapes.length:Int) != (b.shapes.length:Int))=false:=by simp [hs]
   clear hs hg
   simp only[tabV]
   simp(disch:=first|decide|omega|(simp only[LN];first|done|omega)) only[SV,SW,f15,Nat.reduceAdd,Nat.reduceBEq,n1,n2,q0b]
 ·have n1:((a.shapes.length:Int) != (b.shapes.length:Int))=true:=by simp;omega
  rw[show decide (a=b)=false from decide_eq_false (fun h=>hs (by rw[h]))]
  clear hs
  simp only[tabV]
  simp(disch:=first|decide|omega|(simp only[LN];first|done|omega)) only[SV,SW,f15,Nat.reduceAdd,Nat.reduceBEq,n1,q0b]
end Go.Vm
end

section
namespace Go.Vm
set_option maxRecDepth 20000
open Go.Proofs
def gL(z:Bool)(L:Gl):Blk:=if L=[] then .dat z 3 [behD,behD] else .mix 3 (L.map rowG++[behG z,behG z])
theorem z6N{p:Nat}{gs:List Glob}:numG p gs=[]↔gs=[]:=by
 cases gs <;> simp [numG]
theorem gB_L(z p gs):gB z p gs=gL z (numG p gs):=by
 unfold gB gL;simp only[z6N]
theorem q72:∀(gs:List Glob)(p:Nat),(numG p gs).map (·.2)=gs
 |[],_=>rfl
 |g :: r,p=>by simp only[numG,List.map_cons,q72 r]
def q7e(p:Nat)(t:Table):Gl:=if t.globals=[] then [] else(numG p (t.globals.map q24)).set (i0 t) (p+(t.globals.length - 1),(q9U t).2)
def q5y(t:Table):Table:=⟨t.shapes,(q7e 2 t).map (·.2)⟩
theorem q8E(p:Nat)(t:Table):(q7e p t).length=t.globals.length:=by
 unfold q7e
 split
 ·rename_i h;simp [h]
 ·simp [q1c]
theorem z8E(z t):q39 z t=gL z (q7e 2 t):=by
 unfold q39 q7e gL
 by_cases h:t.globals=[]
 ·simp only[if_pos h,if_true]
 ·have:¬((numG 2 (t.globals.map q24)).set (i0 t) (2+(t.globals.length - 1),(q9U t).2)=[]):=by
   intro e
   have:=congrArg List.length e
   simp [q1c] at this
   exact h this
  simp only[if_neg h,if_neg this]
  rfl
theorem z6m{H:List (Nat×Blk)}{z:Bool}{q:Nat×Glob}(h:look H q.1=some (cB z q.2)):mapO (q0d 5 H) (rowG q)=some (q0l q.2):=by
 have e:q0d 5 H (.bsx q.1 0 q.2.code.length)=some (.sl 3 (q.2.code.map q0j)):=by
  simp only[q0d,h,cB]
  rw[if_pos (by simp [finI])]
  congr 2
  rw[List.drop_zero,←List.map_take]
  unfold finI
  rw[List.take_append_of_le_length (Nat.le_refl _),List.take_length]
 simp only[rowG,mapO,e]
 rfl
theorem q8B{H:List (Nat×Blk)}{z:Bool}:∀(L:Gl),(∀ q∈L,look H q.1=some (cB z q.2))→mapO (fun r:List V=>mapO (q0d 5 H) r) (L.map rowG)=some (L.map fun q=>q0l q.2)
 |[],_=>rfl
 |q :: L,h=>by
  simp only[List.map_cons,mapO,z6m (h q (by simp)),q8B L fun q hq=>h q (by simp [hq])]
theorem z7T{H:List (Nat×Blk)}{b:Nat}{z:Bool}{L:Gl}(hg:look H b=some (gL z L))(hL:∀ q∈L,look H q.1=some (cB z q.2)):q0d 6 H (.bsx b 0 L.length)=some (.sl 3 (L.map fun q=>q0l q.2)):=by
 unfold gL at hg
 by_cases h:L=[]
 ·subst h
  rw[if_pos rfl] at hg
  simp only[q0d,hg];rfl
 ·rw[if_neg h] at hg
  simp only[q0d,hg]
  rw[if_pos (by simp),List.drop_zero,List.take_append_of_le_length (by simp),List.take_of_length_le (by simp),q8B L hL]
  rfl
theorem z7S{H:List (Nat×Blk)}{b:Nat}{z:Bool}{t:Table}(h:look H b=some (.dat z 2 ((finS t).map q0c))):q0d 6 H (.bsx b 0 t.shapes.length)=some (.sl 2 (t.shapes.map q0c)):=by
 simp only[q0d,h]
 rw[if_pos (by simp [finS])]
 congr 2
 rw[List.drop_zero,←List.map_take]
 unfold finS
 rw[List.take_append_of_le_length (Nat.le_refl _),List.take_length]
theorem j0m{H:List (Nat×Blk)}{z:Bool}{p:Nat}{gs:List Glob}(h:∀ j,j<gs.length→look H (p+j)=some (cB z (nth gs j))):∀ q∈numG p gs,look H q.1=some (cB z q.2):=by
 intro q hq
 obtain⟨j,hj⟩:=List.getElem?_of_mem hq
 rw[q4o] at hj
 have hl:j<gs.length:=by
  rcases Nat.lt_or_ge j gs.length with h|h
  ·exact h
  ·rw[List.getElem?_eq_none h] at hj;cases hj
 rw[q0U hl] at hj
 obtain rfl:=Option.some.inj hj
 exact h j hl
theorem TB.view{H:List (Nat×Blk)}{p:Nat}{z:Bool}{t:Table}(h:TB H p z t):q0d 6 H (.bsx p 0 t.shapes.length)=some (.sl 2 (t.shapes.map q0c))∧q0d 6 H (.bsx (p+1) 0 t.globals.length)=some (.sl 3 (t.globals.map q0l)):=by
 refine⟨z7S h.s,?_⟩
 have hg:=h.g
 rw[gB_L] at hg
 have:=z7T hg (j0m h.c)
 rw[q1c] at this
 rw[this]
 congr 2
 conv=>rhs;rw[←q72 t.globals (p+2)]
 rw[List.map_map];rfl
theorem z6F(g:Nat→Nat)(L:Gl):(L.map rowG).map (renL g)=(L.map fun q=>(g q.1,q.2)).map rowG:=by
 rw[List.map_map,List.map_map];rfl
theorem z4R(g:Nat→Nat)(z:Bool)(L:Gl):(gL z L).ren g=gL z (L.map fun q=>(g q.1,q.2)):=by
 unfold gL
 by_cases h:L=[]
 ·subst h;rfl
 ·rw[if_neg h,if_neg (by simpa using h)]
  simp only[Blk.ren,List.map_append,z6F]
  rfl
theorem z7C(L:Gl):(L.map rowG).map dimL=L.map rowG:=by
 rw[List.map_map];rfl
theorem j0W(z:Bool)(L:Gl):(gL z L).dim=gL false L:=by
 unfold gL
 by_cases h:L=[]
 ·subst h;rfl
 ·rw[if_neg h,if_neg h]
  simp only[Blk.dim,List.map_append,z7C]
  rfl
theorem q73(g:Nat→Nat):∀(gs:List Glob)(p q:Nat),(∀ i,i<gs.length→g (p+i)=q+i)→(numG p gs).map (fun x=>(g x.1,x.2))=numG q gs
 |[],_,_,_=>rfl
 |a :: r,p,q,h=>by
  have h0:=h 0 (by simp)
  simp only[numG,List.map_cons,Nat.add_zero] at h0 ⊢
  rw[h0,q73 g r (p+1) (q+1) fun i hi=>by have:=h (i+1) (by simp;omega);rw[show p+1+i=p+(i+1) by omega,show q+1+i=q+(i+1) by omega];exact this]
theorem TB.handed{H:List (Nat×Blk)}{p:Nat}{z:Bool}{t:Table}(h:TB H p z t):handed H (List.range' p (t.globals.length+2))=some (tblk false 2 t):=by
 unfold Vm.handed
 refine q6u (by simp [q1O]) fun j b hb=>?_
 obtain⟨hj,rfl⟩:=z8U _ _ _ _ hb
 match j,hj with
 |0,_=>simp only[Nat.add_zero,h.s];rfl
 |1,_=>
  show(look H (p+1)).map _=some (gB false 2 t.globals)
  rw[h.g,gB_L,gB_L]
  simp only[Option.map_some,j0W,z4R]
  congr 2
  exact q73 (List.range' p (t.globals.length+2)).idxOf t.globals (p+2) 2 fun i hi=>by rw[show p+2+i=p+(2+i) by omega];exact q98 (by omega)
 |j+2,hj=>
  rw[show p+(j+2)=p+2+j by omega,h.c j (by omega)]
  simp only[tblk,List.getElem?_cons_succ,List.getElem?_map,q0U (show j<t.globals.length by omega),Option.map_some]
  rfl
theorem z4Q(pr:Nat→Bool)(z:Bool)(L:Gl)(h:∀ q∈L,pr q.1=true):(gL z L).within pr=true:=by
 unfold gL
 by_cases he:L=[]
 ·rw[if_pos he];rfl
 ·rw[if_neg he]
  simp only[Blk.within,List.all_append,Bool.and_eq_true,List.all_eq_true]
  refine⟨fun r hr=>?_,fun r hr=>?_⟩
  ·obtain⟨q,hq,rfl⟩:=List.mem_map.1 hr
   simp only[rowG,withinL,V.within,h q hq,Bool.and_self]
  ·simp only[List.mem_cons,List.not_mem_nil,or_false,or_self] at hr
   subst hr;rfl
theorem TB.closed{H:List (Nat×Blk)}{p:Nat}{z:Bool}{t:Table}(h:TB H p z t):closedB H (List.range' p (t.globals.length+2))=true:=by
 unfold closedB
 rw[List.all_eq_true]
 intro b hb
 rw[List.mem_range'_1] at hb
 obtain⟨j,rfl⟩:∃ j,b=p+j:=⟨b - p,by omega⟩
 match j,hb with
 |0,_=>simp only[Nat.add_zero,h.s];rfl
 |1,_=>
  simp only[h.g,gB_L]
  exact z4Q _ _ _ fun q hq=>by have:=q5K _ _ q hq;rw[q1w,decide_eq_true_eq];omega
 |j+2,hb=>
  rw[show p+(j+2)=p+2+j by omega]
  simp only[h.c j (by omega),cB];rfl
theorem z5p{C:Cx}{H:List (Nat×Blk)}{p nx:Nat}{z:Bool}{t:Table}{f:FuncId}{r:V}{blks':List Blk}(hT:TB H p z t)(hC:C.eff f [.agg [.bsx 0 0 t.shapes.length,.bsx 1 0 t.globals.length]] (tblk false 2 t)=some (r,blks',[]))(hl:blks'.length=t.globals.length+2) :
  q5C C nx H f [.agg [.bsx p 0 t.shapes.length,.bsx (p+1) 0 t.globals.length]] (List.range' p (t.globals.length+2))=some (putAll H (q0E (List.range' p (t.globals.length+2)) nx) 0 blks',r.ren (q0E (List.range' p (t.globals.length+2)) nx),.many [],nx):=by
 have c0:(List.range' p (t.globals.length+2)).contains p=true:=by rw[q1w,decide_eq_true_eq];omega
 have c1:(List.range' p (t.globals.length+2)).contains (p+1)=true:=by rw[q1w,decide_eq_true_eq];omega
 have x0:(List.range' p (t.globals.length+2)).idxOf p=0:=by have:=q98 (p:=p) (m:=t.globals.length+2) (j:=0) (by omega);rwa [Nat.add_zero] at this
 have x1:(List.range' p (t.globals.length+2)).idxOf (p+1)=1:=q98 (by omega)
 have hnd:(List.range' p (t.globals.length+2)).Nodup:=List.nodup_range' (step:=1)
 unfold q5C
 simp only[hnd,decide_true,List.all_cons,List.all_nil,V.within,withinL,c0,c1,hT.closed,Bool.and_self,if_true,hT.handed,List.map_cons,List.map_nil,V.dim,dimL,V.ren,renL,x0,x1,hC,hl,List.length_range',Nat.le_refl,q3I,Nat.sub_self,Nat.add_zero]
theorem q2c(g:Nat→Nat)(b:Nat):∀(l:List Blk)(k:Nat)(H:List (Nat×Blk)),(∀ j,j<l.length→g (k+j)≠b)→look (putAll H g k l) b=look H b
 |[],_,_,_=>rfl
 |x :: l,k,H,h=>by
  simp only[putAll]
  rw[q2c g b l (k+1) _ fun j hj=>by have:=h (j+1) (by simp;omega);rwa [show k+(j+1)=k+1+j by omega] at this]
  exact q0a _ _ (by have:=h 0 (by simp);simpa using this)
theorem q3M(g:Nat→Nat):∀(l:List Blk)(k:Nat)(H:List (Nat×Blk)),(∀ i j,i<l.length→j<l.length→g (k+i)=g (k+j)→i=j)→∀ j x,l[j]? = some x→look (putAll H g k l) (g (k+j))=some (x.ren g)
 |[],_,_,_,j,x,hx=>by simp at hx
 |y :: l,k,H,h,0,x,hx=>by
  obtain rfl:y=x:=by simpa using hx
  simp only[putAll]
  rw[q2c g _ l (k+1) _ fun j hj e=>by have:=h (j+1) 0 (by simp;omega) (by simp) (by rw[show k+(j+1)=k+1+j by omega];exact e);omega]
  exact q0u _ _ _
 |y :: l,k,H,h,j+1,x,hx=>by
  simp only[putAll]
  rw[show k+(j+1)=k+1+j by omega]
  exact q3M g l (k+1) _ (fun i j hi hj e=>by have:=h (i+1) (j+1) (by simp;omega) (by simp;omega) (by rw[show k+(i+1)=k+1+i by omega,show k+(j+1)=k+1+j by omega];exact e);omega) j x (by simpa using hx)
theorem q7Q{p m nx j:Nat}(h:j<m):q0E (List.range' p m) nx j=p+j:=by
 unfold q0E
 have:(List.range' p m)[j]? = some (p+j):=by simp [h]
 rw[this]
theorem z6H{H:List (Nat×Blk)}{p nx:Nat}{l:List Blk}:(∀ j x,l[j]? = some x→look (putAll H (q0E (List.range' p l.length) nx) 0 l) (p+j)=some (x.ren (q0E (List.range' p l.length) nx)))∧
  ∀ b,b<p∨p+l.length≤b→look (putAll H (q0E (List.range' p l.length) nx) 0 l) b=look H b:=by
 refine⟨fun j x hx=>?_,fun b hb=>?_⟩
 ·have hj:=(List.getElem?_eq_some_iff.1 hx).1
  have:=q3M (q0E (List.range' p l.length) nx) l 0 H (fun i j hi hj e=>by
   rw[Nat.zero_add,Nat.zero_add,q7Q hi,q7Q hj] at e;omega) j x hx
  rwa [Nat.zero_add,q7Q hj] at this
 ·exact q2c _ b l 0 H fun j hj e=>by rw[Nat.zero_add,q7Q hj] at e;omega
theorem TB.back{H:List (Nat×Blk)}{p nx:Nat}{z:Bool}{t:Table}(h:TB H p z t):TB (putAll H (q0E (List.range' p (t.globals.length+2)) nx) 0 (tblk false 2 t)) p false t:=by
 obtain⟨h1,_⟩:=z6H (H:=H) (p:=p) (nx:=nx) (l:=tblk false 2 t)
 rw[q1O] at h1
 refine⟨?_,?_,fun j hj=>?_⟩
 ·have:=h1 0 _ rfl
  exact this
 ·have:=h1 1 _ rfl
  rw[this,gB_L,gB_L,z4R]
  congr 2
  exact q73 (q0E (List.range' p (t.globals.length+2)) nx) t.globals 2 (p+2) fun i hi=>by rw[q7Q (by omega)];omega
 ·have:=h1 (j+2) (cB false (nth t.globals j)) (by simp only[tblk,List.getElem?_cons_succ,List.getElem?_map,q0U hj,Option.map_some])
  rw[show p+2+j=p+(j+2) by omega,this];rfl
theorem z3H{H:List (Nat×Blk)}{p nx:Nat}{t:Table}:q0d 6 (putAll H (q0E (List.range' p (t.globals.length+2)) nx) 0 (q2D t)) (.bsx p 0 t.shapes.length)=some (.sl 2 (t.shapes.map q0c))∧
  q0d 6 (putAll H (q0E (List.range' p (t.globals.length+2)) nx) 0 (q2D t)) (.bsx (p+1) 0 t.globals.length)=some (.sl 3 ((q5y t).globals.map q0l)):=by
 have hl:(q2D t).length=t.globals.length+2:=by simp [q2D]
 obtain⟨h1,_⟩:=z6H (H:=H) (p:=p) (nx:=nx) (l:=q2D t)
 rw[hl] at h1
 have hc:∀ j,j<t.globals.length→look (putAll H (q0E (List.range' p (t.globals.length+2)) nx) 0 (q2D t)) (p+2+j)=some (cB false (q24 (nth t.globals j))):=fun j hj=>by
  have:=h1 (j+2) (cB false (q24 (nth t.globals j))) (by simp only[q2D,List.getElem?_cons_succ,List.getElem?_map,q0U hj,Option.map_some])
  rw[show p+2+j=p+(j+2) by omega,this];rfl
 have hg:=h1 1 _ rfl
 rw[z8E,z4R] at hg
 have hm:∀ x∈q7e 2 t,2≤x.1∧x.1<t.globals.length+2:=by
  intro x hx
  unfold q7e at hx
  split at hx
  ·simp at hx
  ·rename_i hne
   have:=z0m t hne
   rcases List.mem_or_eq_of_mem_set hx with hx|rfl
   ·have:=q5K _ _ x hx
    simp only[List.length_map] at this;omega
   ·simp only;omega
 have he:∀ x∈q7e 2 t,x.2.code=(q24 (nth t.globals (x.1 - 2:Nat))).code:=by
  intro x hx
  unfold q7e at hx
  split at hx
  ·simp at hx
  ·rename_i hne
   have:=z0m t hne
   rcases List.mem_or_eq_of_mem_set hx with hx|rfl
   ·obtain⟨j,hj⟩:=List.getElem?_of_mem hx
    rw[q4o] at hj
    have hlt:j<t.globals.length:=by
     rcases Nat.lt_or_ge j t.globals.length with h|h
     ·exact h
     ·rw[List.getElem?_eq_none (by simpa using h)] at hj;cases hj
    rw[q0U (by simpa using hlt),z6O hlt] at hj
    obtain rfl:=Option.some.inj hj
    simp
   ·simp only[q9U,q24]
    rw[show 2+(t.globals.length - 1) - 2=t.globals.length - 1 by omega,show((t.globals.length:Int) - 1)=((t.globals.length - 1:Nat):Int) by omega]
 refine⟨z7S (h1 0 _ rfl),?_⟩
 have hv:=z7T hg (fun q hq=>by
  obtain⟨x,hx,rfl⟩:=List.mem_map.1 hq
  obtain⟨m1,m2⟩:=hm x hx
  simp only
  rw[q7Q m2]
  have:=hc (x.1 - 2) (by omega)
  rw[show p+2+(x.1 - 2)=p+x.1 by omega] at this
  rw[this,cB,cB,he x hx])
 rw[List.length_map,q8E] at hv
 rw[hv]
 simp only[q5y,List.map_map]
 rfl
end Go.Vm
end

section
namespace Go.Vm
set_option maxRecDepth 20000
open Go.Proofs
/- 'sloth/slothlaw17.CodeChecks' -/
def f3_T0:C:= (.seq (.reg [⟨[],[(7,(.call 13 (.cons (.ld 2 true (.sl 6)) .nil)))],[],none,[2,3,5,6],3,[],[],[]⟩]) (.seq (.reg [⟨[],[(8,(.call 13 (.cons (.ld 2 true (.sl 3)) .nil)))],[],none,[2,3,5,6,7],3,[],[],[]⟩]) (.seq (.reg [⟨[],[(9,(.call 13 (.cons (.ld 2 true (.sl 6)) .nil)))],[],none,[2,3,5,6,7,8],3,[],[],[]⟩]) (.seq (.reg [⟨[],[(10,(.call 14 (.cons (.ld 2 true (.sl 2)) .nil)))],[],none,[2,3,5,6,7,8,9],3,[],[],[]⟩]) (.seq (.reg [⟨[],[(11,(.call 14 (.cons (.ld 2 true (.sl 3)) .nil)))],[],none,[2,5,6,7,8,9,10],3,[],[],[]⟩]) (.seq (.reg [⟨[],[(12,(.call 15 (.cons (.ld 2 true (.sl 6)) (.cons (.ld 2 true (.sl 2)) .nil))))],[],none,[5,6,7,8,9,10,11],4,[],[],[]⟩]) (.seq (.reg [⟨[],[],[],some (some 33,.calle 16 (.cons (.ld 2 true (.sl 6)) .nil)),[5,6,7,8,9,10,11,12],2,[],[],[]⟩,⟨[],[(13,(.sl 33))],[],none,[5,6,7,8,9,10,11,12],1,[],[],[]⟩]) (.seq (.seq (.reg [⟨[],[(58,(.or (.or (.or (.or (.or (.un .not (.sl 5)) (.bin .neq (.sl 7) (.sl 10))) (.bin .neq (.sl 8) (.sl 11))) (.bin .neq (.sl 9) (.sl 10))) (.un .not (.sl 12))) (.un .not (.sl 13))))],[],none,[6],25,[],[],[]⟩]) (.cond (.sl 58) (.seq (.reg [⟨[],[(4,(.bool false))],[],none,[],1,[],[],[]⟩]) (.seq (.keep [4]) .ret)) .skip)) (.seq (.reg [⟨[],[],[],some (some 60,.calle 17 (.cons (.ld 2 true (.sl 6)) .nil)),[6],2,[],[],[]⟩]) (.seq (.reg [⟨[],[(14,(.call 14 (.cons (.ld 2 true (.sl 6)) .nil)))],[],none,[6],3,[],[],[]⟩]) (.seq (.reg [⟨[],[(15,(.call 13 (.cons (.ld 2 true (.sl 6)) .nil)))],[],none,[14],3,[],[],[]⟩]) (.seq (.reg [⟨[],[(4,(.bin .eql (.sl 15) (.sl 14)))],[],none,[],4,[],[],[]⟩]) (.seq (.keep [4]) .ret)))))))))))))
def f3:Fun:=⟨ (.seq (.reg [⟨[(2,.box (.sl 0)),(3,.box (.sl 1))],[],[(.bool false)],none,[2,3],3,[],[],[]⟩]) (.seq (.reg [⟨[],[(5,(.call 11 .nil))],[],none,[2,3],2,[],[],[]⟩]) (.seq (.reg [⟨[(18,.callo 12 (.cons (.ld 2 true (.sl 2)) .nil)),(6,.box (.agg (.cons (.nilsl 2) (.cons (.nilsl 3) .nil))))],[],[],some (none,.store 2 (.sl 6) (.sl 18)),[2,3,5,6],4,[],[],[]⟩]) (.seq (.keep [2,3,5,6]) f3_T0)))), [(.sl 4)],false⟩
theorem f3_ok:q0J Go.Proofs.Tryz.prog 3 0 2 f3=true:=by kernel_rfl
def L12(K:Cx):Prop:=∀ t,Sm t→K.call 12 [.agg (tabV t)]=some (.agg [.bsx 0 0 t.shapes.length,.bsx 1 0 t.globals.length],tblk true 2 t)
def L14(K:Cx):Prop:=∀ t:Table,TabOk t→K.call 14 [.agg [.d false (.sl 2 (t.shapes.map q0c)),.d false (.sl 3 (t.globals.map q0l))]]=some (.d false (.int .i64 (q5v t)),[])
def L15(K:Cx):Prop:=∀ a b:Table,Big a→Big b→K.call 15 [.agg (tabV a),.agg (tabV b)]=some (.d false (.bool (decide (a=b))),[])
def L16(K:Cx):Prop:=∀ t,Sm t→K.eff 16 [.agg [.bsx 0 0 t.shapes.length,.bsx 1 0 t.globals.length]] (tblk false 2 t)=some (.d false (.bool true),tblk false 2 t,[])
def L17(K:Cx):Prop:=∀ t,Sm t→K.eff 17 [.agg [.bsx 0 0 t.shapes.length,.bsx 1 0 t.globals.length]] (tblk false 2 t)=some (.tup [],q2D t,[])
theorem z3L(t:Table)(k:Nat):(tblk true 2 t).map (Blk.shift k)=tblk true (2+k) t:=by
  have hr:∀(gs:List Glob) (p:Nat),((numG p gs).map rowG).map (List.map (V.shift k))=(numG (p+k) gs).map rowG:=by
    intro gs
    induction gs with
    |nil=>intro p;rfl
    |cons g r ih=>
      intro p
      simp only[numG,List.map_cons]
      rw[ih (p+1),show p+1+k=p+k+1 by omega]
      rfl
  simp only[tblk,List.map_cons,List.map_map]
  congr 2
  unfold gB
  by_cases h:t.globals=[]
  · rw[if_pos h,if_pos h];rfl
  · rw[if_neg h,if_neg h]
    simp only[Blk.shift,List.map_append,hr]
    rfl
theorem z96(t:Table):mkOR 2 false (some (.agg [.bsx 0 0 t.shapes.length,.bsx 1 0 t.globals.length],tblk true 2 t))=some (.agg [.bsx 2 0 t.shapes.length,.bsx 3 0 t.globals.length],tblk true 4 t):=by
  rw[q9a]
  have hl:(tblk true 2 t).all Blk.lays=true:=by
    simp only[tblk,List.all_cons,List.all_map,Bool.and_eq_true,List.all_eq_true]
    refine⟨rfl,by unfold gB;split <;> rfl,fun g _=>rfl⟩
  by_cases hp:(tblk true 2 t).all Blk.plain=true
  · have hg:t.globals=[]:=by
      simp only[tblk,List.all_cons,Bool.and_eq_true] at hp
      by_cases h:t.globals=[]
      · exact h
      · have:=hp.2.1
        unfold gB at this
        rw[if_neg h] at this
        cases this
    rw[if_pos (by simp [hp])]
    have:tblk true 2 t=tblk true 4 t:=by simp only[tblk,gB,if_pos hg]
    rw[this];rfl
  · rw[if_neg (by simp [hp]),if_pos (by simp [hl]),z3L];rfl
theorem TB.add{H:List (Nat×Blk)}{p:Nat}{z:Bool}{t:Table}{more:List Blk}:TB (addBlks H p (tblk z (p+2) t++more)) p z t:=by
  have hl:=q1O z (p+2) t
  have key:∀ j,j<t.globals.length+2→look (addBlks H p (tblk z (p+2) t++more)) (p+j)=(tblk z (p+2) t)[j]?:=fun j hj=>by
    rw[q0O,if_pos (by rw[List.length_append,hl];omega),Nat.add_sub_cancel_left,List.getElem?_append_left (by omega)]
  refine⟨key 0 (by omega),key 1 (by omega),fun j hj=>?_⟩
  have:=key (j+2) (by omega)
  rw[show p+2+j=p+(j+2) by omega,this]
  simp only[tblk,List.getElem?_cons_succ,List.getElem?_map,q0U hj,Option.map_some]
set_option maxHeartbeats 2000000 in
theorem z5y(K:Cx)(h13:K13 K)(h14:L14 K)(h15:L15 K)(h16:L16 K)(h17:L17 K)(t o:Table)(ht:Sm t)(hto:TabOk t)(hoo:TabOk o)(htt:TabOk (q5y t))(H:List (Nat×Blk))(nx q:Nat)(hq:look H q=some (.mix 2 [[.bsx 2 0 t.shapes.length,.bsx 3 0 t.globals.length]]))
    (h0:look H 0=some (.mix 2 [tabV t])) (h1:look H 1=some (.mix 2 [tabV o])) (hT:TB H 2 true t) (hq2:t.globals.length+4≤q) :
    ∃ H' mv,exec K f3_T0 ⟨[(2,.ptr 0 0 0),(3,.ptr 1 0 0),(5,.d false (.bool true)),(6,.ptr q 0 0)],H,nx,[]⟩=some (.ret,⟨[(4,.d false (.bool true))],H',nx,mv⟩):=by
  have hr:=hT.reach
  obtain⟨v1,v2⟩:=hT.view
  have e16:=z5p (C:=K) (nx:=nx) hT (h16 t ht) (q1O _ _ _)
  have hT2:=hT.back (nx:=nx)
  obtain⟨_,hout⟩:=z6H (H:=H) (p:=2) (nx:=nx) (l:=tblk false 2 t)
  rw[q1O] at hout
  have hq':look (putAll H (q0E (List.range' 2 (t.globals.length+2)) nx) 0 (tblk false 2 t)) q=some (.mix 2 [[.bsx 2 0 t.shapes.length,.bsx 3 0 t.globals.length]]):=by rw[hout q (by omega)];exact hq
  generalize hH2:putAll H (q0E (List.range' 2 (t.globals.length+2)) nx) 0 (tblk false 2 t)=H2 at hT2 hq' e16 hout
  have hr2:=hT2.reach
  have e17:=z5p (C:=K) (nx:=nx) hT2 (h17 t ht) (by simp [q2D])
  obtain⟨w1,w2⟩:=z3H (H:=H2) (p:=2) (nx:=nx) (t:=t)
  obtain⟨_,hout2⟩:=z6H (H:=H2) (p:=2) (nx:=nx) (l:=q2D t)
  rw[show(q2D t).length=t.globals.length+2 by simp [q2D]] at hout2
  have hq'':look (putAll H2 (q0E (List.range' 2 (t.globals.length+2)) nx) 0 (q2D t)) q=some (.mix 2 [[.bsx 2 0 t.shapes.length,.bsx 3 0 t.globals.length]]):=by rw[hout2 q (by omega)];exact hq'
  generalize hH3:putAll H2 (q0E (List.range' 2 (t.globals.length+2)) nx) 0 (q2D t)=H3 at hq'' e17 w1 w2
  have c1:=h13 t hto
  have c2:=h13 o hoo
  have c3:=h14 t hto
  have c4:=h14 o hoo
  have c5:=h15 t t ⟨hto.sh,hto.gl,hto.cd⟩ ⟨hto.sh,hto.gl,hto.cd⟩
  have c6:=h14 (q5y t) htt
  have c7:=h13 (q5y t) htt
  rw[decide_eq_true rfl] at c5
  simp only[q5y] at c6 c7 w2
  simp only[tabV] at h0 h1 c5
  clear hT hT2 hout hout2 ht hto hoo htt h13 h14 h15 h16 h17
  refine⟨H3,[],?_⟩
  rw[f3_T0.eq_1]
  simp(disch:=first|decide|omega|(simp only[LN];first|done|omega)) only[q1U,q25,q00,q27,q2j,q2X,q3R,q2P,q2k,q1j,z1j,z1i,e_ld,e_sl,q2e,Nat.reduceBEq,q1i,beq_self_eq_true,q1y,q29,hq,q6A,q2v,List.getElem?_cons_zero,q6z,List.drop_zero,q4m,List.length_cons,List.length_nil,Nat.zero_add,Nat.reduceAdd,Nat.le_refl,q5E,if_true,z5r,q3S,q4F,q4J,q4B,List.any_cons,V.own,V.own1,List.any_nil,Bool.or_false,Bool.or_self,q4l,List.all_cons,V.new,V.new1,List.all_nil,Bool.and_true,Bool.and_self,V.flatV,V.flat1,Bool.not_false,Bool.false_and,q3k,view,viewDepth,v1,v2,q20,q6v,Option.map_some,List.map_cons,List.map_nil,q5S,c1,q3H,D.flat,Bool.or_true,Bool.not_true,Bool.and_false,Bool.false_eq_true,if_false,q1B,q3X,q16,q0Q,q19,q0X,List.cons_append,List.nil_append,addBlks,q2U,q2q,q2S,h1,q52,c2,h0,c3,c4,c5,q59,q7I,q5Z,refsL,V.refs,List.append_nil,hr,e16,V.ren,q6a,lose,loseH,Lost.ids,q8U,e_or,e_un,evUn,z7z,evBin,intBin,bne_self_eq_false,q7Y,q6T,q65,q6S]
  simp(disch:=first|decide|omega|(simp only[LN];first|done|omega)) only[hq',q2X,q6A,q2v,List.getElem?_cons_zero,q6z,List.drop_zero,q4m,List.length_cons,List.length_nil,Nat.zero_add,Nat.reduceAdd,Nat.le_refl,q5E,if_true,q3S,q4F,q5Z,refsL,V.refs,List.append_nil,List.cons_append,List.nil_append,hr2,e17,V.ren,renL,q6a,lose,loseH,Lost.ids,q2U,q2q,q2S,q1U,q25,q00,q27,q2j,q3R,q2P,q2k,q1j,z1j,z1i,e_ld,e_sl,q2e,Nat.reduceBEq,q1i,beq_self_eq_true,q1y,q29,hq'',z5r,q4J,q4B,List.any_cons,V.own,V.own1,List.any_nil,Bool.or_false,Bool.or_self,q4l,List.all_cons,V.new,V.new1,List.all_nil,Bool.and_true,Bool.and_self,V.flatV,V.flat1,Bool.not_false,Bool.false_and,q3k,view,viewDepth,w1,w2,q20,q6v,Option.map_some,List.map_cons,List.map_nil,q5S,c6,q3H,D.flat,Bool.or_true,Bool.not_true,Bool.and_false,Bool.false_eq_true,if_false,q1B,q3X,q16,q0Q,q19,q0X,addBlks,c7,z7z,evBin,intBin,q0v,q0y,q1X,Nat.reduceEqDiff,q2I,q8g]
set_option maxHeartbeats 2000000 in
theorem z5d(K:Cx)(h11:K.call 11 []=some (.d false (.bool true),[]))(h12:L12 K)(h13:K13 K)(h14:L14 K)(h15:L15 K)(h16:L16 K)(h17:L17 K)(t o:Table)(ht:Sm t)(hto:TabOk t)(hoo:TabOk o)(htt:TabOk (q5y t)) :
    q0o K f3 [.agg (tabV t),.agg (tabV o)] []=some (.d false (.bool true),[],[]):=by
  have c12:=h12 t ht
  have hor:=z96 t
  have hlen:=q1O true 4 t
  have hlk:look (addBlks [(1,.mix 2 [tabV o]),(0,.mix 2 [tabV t])] 2 (tblk true 4 t++[.mix 2 [[.fs true 2 [],.fs true 3 []]]])) (2+(t.globals.length+2))=some (.mix 2 [[.fs true 2 [],.fs true 3 []]]):=by
    rw[q0O,if_pos (by simp [hlen]),Nat.add_sub_cancel_left,List.getElem?_append_right (by omega),hlen,Nat.sub_self];rfl
  have hTB:TB (addBlks [(1,.mix 2 [tabV o]),(0,.mix 2 [tabV t])] 2 (tblk true 4 t++[.mix 2 [[.fs true 2 [],.fs true 3 []]]])) 2 true t:=TB.add
  have hlo:∀ b,b<2→look (addBlks [(1,.mix 2 [tabV o]),(0,.mix 2 [tabV t])] 2 (tblk true 4 t++[.mix 2 [[.fs true 2 [],.fs true 3 []]]])) b=look [(1,.mix 2 [tabV o]),(0,.mix 2 [tabV t])] b:=fun b hb=>by
    rw[q0O,if_neg (by omega)]
  generalize hHB:addBlks [(1,.mix 2 [tabV o]),(0,.mix 2 [tabV t])] 2 (tblk true 4 t++[.mix 2 [[.fs true 2 [],.fs true 3 []]]])=HB at hlk hTB hlo
  obtain⟨H',mv,e⟩:=z5y K h13 h14 h15 h16 h17 t o ht hto hoo htt (put HB (2+(t.globals.length+2)) (.mix 2 [[.bsx 2 0 t.shapes.length,.bsx 3 0 t.globals.length]])) (2+(t.globals.length+2)+1) (2+(t.globals.length+2)) (q0u _ _ _)
    (by rw[q0a _ _ (by omega),hlo 0 (by omega)];rfl) (by rw[q0a _ _ (by omega),hlo 1 (by omega)];rfl) (hTB.mono fun b _ hb=>q0a _ _ (by omega)) (by omega)
  clear hTB hlo ht hto hoo htt h12 h13 h14 h15 h16 h17
  simp only[tabV] at c12 hHB
  simp only[tabV]
  simp(disch:=first|decide|omega|(simp only[LN];first|done|omega)) only[f3,q4h,List.length_nil,startS,List.zipIdx_cons,Nat.zero_add,Nat.reduceAdd,List.zipIdx_nil,List.map_cons,List.map_nil,indexed,q1U,q25,q00,q27,q2N,q4A,e_sl,q2e,beq_self_eq_true,q1y,q2X,mkBox,V.laid,V.cells,List.length_cons,if_true,q6r,q4k,Nat.reduceBEq,q2G,q6e,q1i,q2j,q6q,List.append_nil,List.cons_append,List.nil_append,q3R,q2P,q49,z5s,Option.isSome_some,q2k,Bool.and_self,q1B,q16,q0Q,q19,q0X,addBlks,q2U,q2q,q2S,q1j,z1j,z5r,q4J,q4B,List.any_nil,q4l,List.all_nil,Bool.not_true,Bool.and_false,Bool.false_and,q20,q5S,h11,q3H,V.new,V.new1,D.flat,Bool.or_true,Bool.false_eq_true,if_false,q3S,q3X,q7L,z1i,e_ld,q29,q6A,q2v,List.getElem?_cons_zero,q6z,List.drop_zero,q4m,Nat.le_refl,q5E,q4F,z4r,List.any_cons,V.own,V.own1,Bool.or_self,q3k,view,viewDepth,q52,q6v,Option.map_some,z4s,c12,hor,hlen,j1R,z5q,z1t,q59,hHB,q7H,q5Y,hlk,z7V,z0Q,splice,List.take_zero,List.drop_succ_cons,z0O,q8V,lose,loseH,Lost.ids,q0v,q0y,q1X,Nat.reduceEqDiff,q2I,e,q5O,q0b,finish,z7Z,V.refs,q4Y,List.nodup_nil,decide_true,finV,finA,finC,List.filter_nil]
end Go.Vm
end

section
namespace Go.Vm
open Go.RowKit Go.Shelf Go.Proofs
set_option maxRecDepth 20000
theorem z5G{α:Type}{a b c:List α}(h:a++c=b++c):a=b:=List.append_cancel_right h
theorem z7d{a b:List Instr}(h:finI a=finI b):a=b:=z5G h
theorem z0K{z:Bool}{t u:Table}(h:tblk z 2 t=tblk z 2 u):t=u:=by
 simp only[tblk,List.cons.injEq,Blk.dat.injEq,mS,true_and] at h
 obtain⟨h1,h2,h3⟩:=h
 have hs:t.shapes=u.shapes:=z5G h1
 have hl:t.globals.length=u.globals.length:=by have:=congrArg List.length h3;simpa using this
 have key:∀ i,i<t.globals.length→nth t.globals (i:Int)=nth u.globals i:=by
  intro i hi
  have r1:=q5r (z:=z) (p:=2) hi
  have r2:=q5r (z:=z) (p:=2) (gs:=u.globals) (i:=i) (by omega)
  rw[h2,r2] at r1
  have c1:=congrArg (·[i]?) h3
  simp only[List.getElem?_map,q0U hi,q0U (show i<u.globals.length by omega),Option.map_some,Option.some.injEq,cB,Blk.dat.injEq,mI,true_and] at c1
  have c2:=z7d c1
  have r3:=Option.some.inj r1
  simp only[rowG,List.cons.injEq,V.d.injEq,D.str.injEq,D.int.injEq,true_and] at r3
  generalize nth t.globals (i:Int)=x at *
  generalize nth u.globals (i:Int)=y at *
  cases x;cases y
  simp only at c2 r3
  simp only[Glob.mk.injEq]
  exact⟨r3.1.symm,r3.2.1.symm,c2⟩
 refine q3f _ _ ⟨hs,List.ext_getElem hl fun i a b=>?_⟩
 have:=key i a
 have e1:=q0U a
 have e2:=q0U b
 rw[List.getElem?_eq_getElem a] at e1
 rw[List.getElem?_eq_getElem b] at e2
 rw[Option.some.inj e1,Option.some.inj e2,this]
noncomputable def z84:Sp where
 α:=Int×Int×Int
 f:=84
 ok:=fun(op,a,b)=>True
 args:=fun(op,a,b)=>[.agg [.d false (.int .i64 op),.d false (.int .i64 a),.d false (.int .i64 b)]]
 res:=fun(op,a,b)=>(.d false (.bool (q6D ⟨op,a,b⟩)),[])
 inj:=by
  rintro⟨op,a,b⟩ ⟨op',a',b'⟩ _ _ h
  simp only[List.cons.injEq,V.agg.injEq,V.d.injEq,D.sl.injEq,D.int.injEq,D.str.injEq,D.ptr.injEq,Int.natCast_inj,mI,mS,mG,mN,true_and,and_true] at h
  simp only[h]
theorem j0v{G:Nat→Option (List D)}{L:List Sp}{E:List Se}(h:Has L z84):K47 (cx G L E):=fun⟨op,a,b⟩=>h (op,a,b) trivial
noncomputable def ZL14:List Sp:=z84 :: ZL13
theorem zn14:Known Tryz.prog GT ZL14 ZE0:=by
 exact zn13.add q0C (fun⟨op,a,b⟩ _=>j01) (fun⟨op,a,b⟩ _=>⟨_,z7j _ ⟨op,a,b⟩⟩)
noncomputable def z83:Sp where
 α:=List UInt8
 f:=83
 ok:=fun s=>((s.length:Int)≤9223372036854775807)
 args:=fun s=>[.d false (.str s)]
 res:=fun s=>(.d false (.bool (q1p s)),[])
 inj:=by
  rintro s s' _ _ h
  simp only[List.cons.injEq,V.agg.injEq,V.d.injEq,D.sl.injEq,D.int.injEq,D.str.injEq,D.ptr.injEq,Int.natCast_inj,mI,mS,mG,mN,true_and,and_true] at h
  rw[h]
theorem z74{G:Nat→Option (List D)}{L:List Sp}{E:List Se}(h:Has L z83):K44 (cx G L E):=fun s h1=>h s h1
noncomputable def ZL15:List Sp:=z83 :: ZL14
theorem zn15:Known Tryz.prog GT ZL15 ZE0:=by
 exact zn14.add q0C (fun s _=>j02) (fun s h1=>⟨_,z7h _ s h1⟩)
noncomputable def z78:Sp where
 α:=Unit
 f:=78
 ok:=fun u=>True
 args:=fun u=>[]
 res:=fun u=>(.bsl 0 0 7,[.dat true 2 (givenS.map q0c)])
 inj:=by
  rintro u u' _ _ h
  rfl
theorem j0A{G:Nat→Option (List D)}{L:List Sp}{E:List Se}(h:Has L z78):K45 (cx G L E):=h () trivial
noncomputable def ZL16:List Sp:=z78 :: ZL15
theorem zn16:Known Tryz.prog GT ZL16 ZE0:=by
 exact zn15.add q0C (fun u _=>j07) (fun u _=>⟨_,z2x _⟩)
noncomputable def z38:Sp where
 α:=Table
 f:=38
 ok:=fun t=>(TabOk t)
 args:=fun t=>[.agg [.d false (.sl 2 (t.shapes.map q0c)),.d false (.sl 3 (t.globals.map q0l))]]
 res:=fun t=>(.d false (.bool (q2M t)),[])
 inj:=by
  rintro t t' _ _ h
  simp only[tabV,List.cons.injEq,V.agg.injEq,V.d.injEq,D.sl.injEq,mS,mG,true_and,and_true] at h
  rw[q3f _ _ h]
theorem j0F{G:Nat→Option (List D)}{L:List Sp}{E:List Se}(h:Has L z38):K24 (cx G L E):=fun t h1=>h t h1
noncomputable def ZL17:List Sp:=z38 :: ZL16
theorem zn17:Known Tryz.prog GT ZL17 ZE0:=by
 exact zn16.add q0C (fun t _=>j1o) (fun t h1=>⟨_,z9I _ t h1.gl h1.sh h1.cd⟩)
noncomputable def z39:Sp where
 α:=List Shape
 f:=39
 ok:=fun l=>((l.length:Int)≤9223372036854775807)∧(∀ s∈l,(s.name.length:Int)≤9223372036854775807)
 args:=fun l=>[.d false (.sl 2 (l.map q0c))]
 res:=fun l=>(.d false (.int .i64 (q4g l)),[])
 inj:=by
  rintro l l' _ _ h
  simp only[List.cons.injEq,V.agg.injEq,V.d.injEq,D.sl.injEq,D.int.injEq,D.str.injEq,D.ptr.injEq,Int.natCast_inj,mI,mS,mG,mN,true_and,and_true] at h
  rw[h]
theorem j0E{G:Nat→Option (List D)}{L:List Sp}{E:List Se}(h:Has L z39):K25 (cx G L E):=fun l h1 h2=>h l ⟨h1,h2⟩
noncomputable def ZL18:List Sp:=z39 :: ZL17
theorem zn18:Known Tryz.prog GT ZL18 ZE0:=by
 have k83:=z74 (G:=GT) (E:=ZE0) (show Has ZL17 z83 by repeat(first|exact q0n _ _|refine q0m ?_ (by decide)))
 have k78:=j0A (G:=GT) (E:=ZE0) (show Has ZL17 z78 by repeat(first|exact q0n _ _|refine q0m ?_ (by decide)))
 exact zn17.add q0C (fun l _=>j1n) (fun l ⟨h1,h2⟩=>⟨_,z0s _ k83 k78 l h1 h2⟩)
noncomputable def z40:Sp where
 α:=List Glob
 f:=40
 ok:=fun l=>((l.length:Int)≤9223372036854775807)∧(∀ s∈l,(s.name.length:Int)≤9223372036854775807)
 args:=fun l=>[.d false (.sl 3 (l.map q0l))]
 res:=fun l=>(.d false (.int .i64 (q6H l)),[])
 inj:=by
  rintro l l' _ _ h
  simp only[List.cons.injEq,V.agg.injEq,V.d.injEq,D.sl.injEq,D.int.injEq,D.str.injEq,D.ptr.injEq,Int.natCast_inj,mI,mS,mG,mN,true_and,and_true] at h
  rw[h]
theorem j0D{G:Nat→Option (List D)}{L:List Sp}{E:List Se}(h:Has L z40):K26 (cx G L E):=fun l h1 h2=>h l ⟨h1,h2⟩
noncomputable def ZL19:List Sp:=z40 :: ZL18
theorem zn19:Known Tryz.prog GT ZL19 ZE0:=by
 have k83:=z74 (G:=GT) (E:=ZE0) (show Has ZL18 z83 by repeat(first|exact q0n _ _|refine q0m ?_ (by decide)))
 exact zn18.add q0C (fun l _=>j1m) (fun l ⟨h1,h2⟩=>⟨_,z5a _ k83 l h1 h2⟩)
noncomputable def z41:Sp where
 α:=List Shape×List Glob×List Instr
 f:=41
 ok:=fun(sh,gl,cd)=>(cd.length≤8000)
 args:=fun(sh,gl,cd)=>[.agg [.d false (.sl 2 (sh.map q0c)),.d false (.sl 3 (gl.map q0l))],.d false (.sl 3 (cd.map q0j))]
 res:=fun(sh,gl,cd)=>(.d false (.int .i64 (q3j gl.length sh cd)),[])
 inj:=by
  rintro⟨sh,gl,cd⟩ ⟨sh',gl',cd'⟩ _ _ h
  simp only[List.cons.injEq,V.agg.injEq,V.d.injEq,D.sl.injEq,D.int.injEq,D.str.injEq,D.ptr.injEq,Int.natCast_inj,mI,mS,mG,mN,true_and,and_true] at h
  simp only[h]
theorem j0C{G:Nat→Option (List D)}{L:List Sp}{E:List Se}(h:Has L z41):K27 (cx G L E):=fun sh gl cd h1=>h (sh,gl,cd) h1
noncomputable def ZL20:List Sp:=z41 :: ZL19
theorem zn20:Known Tryz.prog GT ZL20 ZE0:=by
 have k28:=j0N (G:=GT) (E:=ZE0) (show Has ZL19 z28 by repeat(first|exact q0n _ _|refine q0m ?_ (by decide)))
 have k84:=j0v (G:=GT) (E:=ZE0) (show Has ZL19 z84 by repeat(first|exact q0n _ _|refine q0m ?_ (by decide)))
 have k32:=z77 (G:=GT) (E:=ZE0) (show Has ZL19 z32 by repeat(first|exact q0n _ _|refine q0m ?_ (by decide)))
 exact zn19.add q0C (fun⟨sh,gl,cd⟩ _=>j1l) (fun⟨sh,gl,cd⟩ h1=>⟨_,z0t _ k28 k84 k32 sh gl cd h1⟩)
open Classical in
noncomputable def z5w:List Shape×List Glob×List UInt8×Int×List Instr→Bool×List (List D):=fun(sh,gl,nm,ar,cd)=>if h:∃ q:Bool×List (List D),q0o (cx GT ZL20 ZE0) f42 [.agg [.d false (.sl 2 (sh.map q0c)),.d false (.sl 3 (gl.map q0l))],.agg [.d false (.str nm),.d false (.int .i64 ar),.d false (.sl 3 (cd.map q0j))]] []=some (.tup [.d q.1 (.sl 1 q.2),.d false (.int .i64 (depL sh cd cd.length 0 ((List.replicate cd.length 0).set 0 (ar+1))))],[],[]) then h.choose else(false,[])
noncomputable def z42:Sp where
 α:=List Shape×List Glob×List UInt8×Int×List Instr
 f:=42
 ok:=fun(sh,gl,nm,ar,cd)=>(cd.length≤8000)∧(0<cd.length)∧(0≤ar∧ar≤24)∧(ShOk sh)∧(∀ i:Nat,i<cd.length→NumOk sh.length cd.length i (nth cd i))∧(∀ x∈cd,x.a≤9223372036854775807)
 args:=fun(sh,gl,nm,ar,cd)=>[.agg [.d false (.sl 2 (sh.map q0c)),.d false (.sl 3 (gl.map q0l))],.agg [.d false (.str nm),.d false (.int .i64 ar),.d false (.sl 3 (cd.map q0j))]]
 res:=fun(sh,gl,nm,ar,cd)=>(.tup [.d (z5w (sh,gl,nm,ar,cd)).1 (.sl 1 (z5w (sh,gl,nm,ar,cd)).2),.d false (.int .i64 (depL sh cd cd.length 0 ((List.replicate cd.length 0).set 0 (ar+1))))],[])
 inj:=by
  rintro⟨sh,gl,nm,ar,cd⟩ ⟨sh',gl',nm',ar',cd'⟩ _ _ h
  simp only[List.cons.injEq,V.agg.injEq,V.d.injEq,D.sl.injEq,D.int.injEq,D.str.injEq,D.ptr.injEq,Int.natCast_inj,mI,mS,mG,mN,true_and,and_true] at h
  simp only[h]
theorem j0B{G:Nat→Option (List D)}{L:List Sp}{E:List Se}(h:Has L z42):K28 (cx G L E):=fun sh gl nm ar cd h1 h2 h3 h4 h5 h6=>⟨_,_,h (sh,gl,nm,ar,cd) ⟨h1,h2,h3,h4,h5,h6⟩⟩
noncomputable def ZL21:List Sp:=z42 :: ZL20
theorem zn21:Known Tryz.prog GT ZL21 ZE0:=by
 have k32:=z77 (G:=GT) (E:=ZE0) (show Has ZL20 z32 by repeat(first|exact q0n _ _|refine q0m ?_ (by decide)))
 have k29:=j0M (G:=GT) (E:=ZE0) (show Has ZL20 z29 by repeat(first|exact q0n _ _|refine q0m ?_ (by decide)))
 have k31:=j0K (G:=GT) (E:=ZE0) (show Has ZL20 z31 by repeat(first|exact q0n _ _|refine q0m ?_ (by decide)))
 have k30:=j0L (G:=GT) (E:=ZE0) (show Has ZL20 z30 by repeat(first|exact q0n _ _|refine q0m ?_ (by decide)))
 refine zn20.add q0C (fun⟨sh,gl,nm,ar,cd⟩ _=>j1k) (fun⟨sh,gl,nm,ar,cd⟩ ⟨h1,h2,h3,h4,h5,h6⟩=>⟨[],?_⟩)
 obtain⟨cc,U,e⟩:=z5b _ k32 k29 k31 k30 sh gl nm ar cd h1 h2 h3 h4 h5 h6
 have hx:∃ q:Bool×List (List D),q0o (cx GT ZL20 ZE0) f42 [.agg [.d false (.sl 2 (sh.map q0c)),.d false (.sl 3 (gl.map q0l))],.agg [.d false (.str nm),.d false (.int .i64 ar),.d false (.sl 3 (cd.map q0j))]] []=some (.tup [.d q.1 (.sl 1 q.2),.d false (.int .i64 (depL sh cd cd.length 0 ((List.replicate cd.length 0).set 0 (ar+1))))],[],[]):=⟨(cc,U),e⟩
 have e2:z5w (sh,gl,nm,ar,cd)=hx.choose:=dif_pos hx
 show q0o (cx GT ZL20 ZE0) f42 _ []=some (.tup [.d (z5w (sh,gl,nm,ar,cd)).1 (.sl 1 (z5w (sh,gl,nm,ar,cd)).2),_],[],[])
 rw[e2]
 exact hx.choose_spec
noncomputable def z14:Sp where
 α:=Table
 f:=14
 ok:=fun t=>(TabOk t)
 args:=fun t=>[.agg [.d false (.sl 2 (t.shapes.map q0c)),.d false (.sl 3 (t.globals.map q0l))]]
 res:=fun t=>(.d false (.int .i64 (q5v t)),[])
 inj:=by
  rintro t t' _ _ h
  simp only[tabV,List.cons.injEq,V.agg.injEq,V.d.injEq,D.sl.injEq,mS,mG,true_and,and_true] at h
  rw[q3f _ _ h]
theorem j0P{G:Nat→Option (List D)}{L:List Sp}{E:List Se}(h:Has L z14):L14 (cx G L E):=fun t h1=>h t h1
noncomputable def ZL22:List Sp:=z14 :: ZL21
theorem zn22:Known Tryz.prog GT ZL22 ZE0:=by
 have k38:=j0F (G:=GT) (E:=ZE0) (show Has ZL21 z38 by repeat(first|exact q0n _ _|refine q0m ?_ (by decide)))
 have k39:=j0E (G:=GT) (E:=ZE0) (show Has ZL21 z39 by repeat(first|exact q0n _ _|refine q0m ?_ (by decide)))
 have k40:=j0D (G:=GT) (E:=ZE0) (show Has ZL21 z40 by repeat(first|exact q0n _ _|refine q0m ?_ (by decide)))
 have k41:=j0C (G:=GT) (E:=ZE0) (show Has ZL21 z41 by repeat(first|exact q0n _ _|refine q0m ?_ (by decide)))
 have k42:=j0B (G:=GT) (E:=ZE0) (show Has ZL21 z42 by repeat(first|exact q0n _ _|refine q0m ?_ (by decide)))
 exact zn21.add q0C (fun t _=>j1F) (fun t h1=>⟨_,z5e _ k38 k39 k40 k41 k42 t h1⟩)
noncomputable def z15:Sp where
 α:=Table×Table
 f:=15
 ok:=fun(a,b)=>(Big a)∧(Big b)
 args:=fun(a,b)=>[.agg (tabV a),.agg (tabV b)]
 res:=fun(a,b)=>(.d false (.bool (decide (a=b))),[])
 inj:=by
  rintro⟨a,b⟩ ⟨a',b'⟩ _ _ h
  simp only[tabV,List.cons.injEq,V.agg.injEq,V.d.injEq,D.sl.injEq,mS,mG,true_and,and_true] at h
  rw[q3f _ _ h.1,q3f _ _ h.2]
theorem j0O{G:Nat→Option (List D)}{L:List Sp}{E:List Se}(h:Has L z15):L15 (cx G L E):=fun a b h1 h2=>h (a,b) ⟨h1,h2⟩
noncomputable def ZL23:List Sp:=z15 :: ZL22
theorem zn23:Known Tryz.prog GT ZL23 ZE0:=by
 exact zn22.add q0C (fun⟨a,b⟩ _=>j1E) (fun⟨a,b⟩ ⟨h1,h2⟩=>⟨_,z9G _ a b h1 h2⟩)
noncomputable def z12:Sp where
 α:=Table
 f:=12
 ok:=fun t=>(Sm t)
 args:=fun t=>[.agg (tabV t)]
 res:=fun t=>(.agg [.bsx 0 0 t.shapes.length,.bsx 1 0 t.globals.length],tblk true 2 t)
 inj:=by
  rintro t t' _ _ h
  simp only[tabV,List.cons.injEq,V.agg.injEq,V.d.injEq,D.sl.injEq,mS,mG,true_and,and_true] at h
  rw[q3f _ _ h]
theorem j0R{G:Nat→Option (List D)}{L:List Sp}{E:List Se}(h:Has L z12):L12 (cx G L E):=fun t h1=>h t h1
noncomputable def ZL24:List Sp:=z12 :: ZL23
theorem zn24:Known Tryz.prog GT ZL24 ZE0:=by
 exact zn23.add q0C (fun t _=>j1H) (fun t h1=>⟨_,z61 _ t h1⟩)
noncomputable def y16:Se where
 α:=Table
 f:=16
 ok:=fun t=>Sm t
 args:=fun t=>[.agg [.bsx 0 0 t.shapes.length,.bsx 1 0 t.globals.length]]
 blks:=fun t=>tblk false 2 t
 res:=fun t=>(.d false (.bool true),tblk false 2 t,[])
 inj:=by
  rintro t t' _ _ _ h
  rw[z0K h]
noncomputable def y17:Se where
 α:=Table
 f:=17
 ok:=fun t=>Sm t
 args:=fun t=>[.agg [.bsx 0 0 t.shapes.length,.bsx 1 0 t.globals.length]]
 blks:=fun t=>tblk false 2 t
 res:=fun t=>(.tup [],q2D t,[])
 inj:=by
  rintro t t' _ _ _ h
  rw[z0K h]
noncomputable def ZE1:List Se:=y17 :: y16 :: ZE0
theorem znE:Known Tryz.prog GT ZL24 ZE1:=(zn24.addE (s:=y16) q0C (fun t _=>z9A _) (fun t h=>z67 _ t h)).addE (s:=y17) q0C (fun t _=>z9z _) (fun t h=>z6q _ t h)
theorem j0u{G:Nat→Option (List D)}{L:List Sp}{E:List Se}(h:HasE E y16):L16 (cx G L E):=fun t ht=>h t ht
theorem j0t{G:Nat→Option (List D)}{L:List Sp}{E:List Se}(h:HasE E y17):L17 (cx G L E):=fun t ht=>h t ht
theorem z2k(t o:Table)(ht:Sm t)(hto:TabOk t)(hoo:TabOk o)(htt:TabOk (q5y t)) :
  q0p Tryz.prog 3=true∧q1f Tryz.prog GT 3 [.agg (tabV t),.agg (tabV o)] (.d false (.bool true)) []:=by
 have k11:=j0S (G:=GT) (E:=ZE1) (show Has ZL24 z11 by repeat(first|exact q0n _ _|refine q0m ?_ (by decide)))
 have k12:=j0R (G:=GT) (E:=ZE1) (show Has ZL24 z12 by repeat(first|exact q0n _ _|refine q0m ?_ (by decide)))
 have k13:=j0Q (G:=GT) (E:=ZE1) (show Has ZL24 z13 by repeat(first|exact q0n _ _|refine q0m ?_ (by decide)))
 have k14:=j0P (G:=GT) (E:=ZE1) (show Has ZL24 z14 by repeat(first|exact q0n _ _|refine q0m ?_ (by decide)))
 have k15:=j0O (G:=GT) (E:=ZE1) (show Has ZL24 z15 by repeat(first|exact q0n _ _|refine q0m ?_ (by decide)))
 have k17:=j0t (G:=GT) (L:=ZL24) (q6L y17 (y16 :: ZE0))
 have k16:=j0u (G:=GT) (L:=ZL24) (E:=ZE1) (z4P (q6L y16 ZE0) (by decide))
 exact q3B (args:=[.agg (tabV t),.agg (tabV o)]) q0C znE.sound f3_ok (z5d _ k11 k12 k13 k14 k15 k16 k17 t o ht hto hoo htt)
end Go.Vm
end

section
namespace Go.Vm
open Go.RowKit Go.Deep
variable {H:Type}{enc:TypeId×Value→H}{P:Program}{w:World}{spare:Nat→Bool}{held:Bool}
def q2s(P:Program)(T:TypeId→Bool):Nat→List Field→Option Nat
 |off,[]=>some off
 |off,f :: fs=>if f.offset=off∧T f.type=true then q2s P T (off+P.cellsOf f.type) fs else none
def q3K(P:Program):Nat→TypeId→Bool
 |0,_=>false
 |n+1,t=>match P.underlying t with
  |some .bool|some (.int _)|some .string=>true
  |some (.slice e)=>decide (0<P.cellsOf e)&&q3K P n e
  |some (.struct fs)=>decide (q2s P (q3K P n) 0 fs.toList=some (P.cellsOf t))
  |_=>false
def q5x(P:Program)(T:TypeId→List D→Prop):List Field→List D→Prop
 |[],ds=>ds=[]
 |f :: fs,ds=>∃ a b,ds=a++b∧a.length=P.cellsOf f.type∧T f.type a∧q5x P T fs b
def j1Z(P:Program):Nat→TypeId→List D→Prop
 |0,_,_=>False
 |n+1,t,ds=>match P.underlying t with
  |some .bool=>∃ b,ds=[.bool b]
  |some (.int k)=>∃ m,ds=[.int k m]∧(Lit.int k m).wf=true
  |some .string=>∃ s,ds=[.str s]∧s.length≤maxLen
  |some (.slice e)=>∃ rows:List (List D),ds=[.sl (P.cellsOf e) rows]∧rows.length≤maxLen∧∀ r∈rows,r.length=P.cellsOf e∧j1Z P n e r
  |some (.struct fs)=>q5x P (j1Z P n) fs.toList ds
  |_=>False
def q9F(w:World)(b:Nat):Prop:=b<w.heap.size
def RepL(w:World)(cs:List Value)(ds:List D):Prop:=ds.length=cs.length∧∀(j:Nat)(v:Value)(d:D),cs[j]? = some v→ds[j]? = some d→RepD w (q9F w) v d
theorem RepL.append{a b:List Value}{x y:List D}(h1:RepL w a x)(h2:RepL w b y):RepL w (a++b) (x++y):=by
 refine⟨by simp [h1.1,h2.1],fun j v d hv hd=>?_⟩
 by_cases hj:j<a.length
 ·rw[List.getElem?_append_left hj] at hv
  rw[List.getElem?_append_left (by rw[h1.1];exact hj)] at hd
  exact h1.2 j v d hv hd
 ·rw[List.getElem?_append_right (by omega)] at hv
  rw[List.getElem?_append_right (by rw[h1.1];omega),h1.1] at hd
  exact h2.2 _ v d hv hd
theorem RepL.one{v:Value}{d:D}(h:RepD w (q9F w) v d):RepL w [v] [d]:=by
 refine⟨rfl,fun j u x hu hx=>?_⟩
 cases j with
 |zero=>simp at hu hx;subst hu;subst hx;exact h
 |succ j=>simp at hu
theorem q5b{base n:Nat}{a:Addr}{cs:List Value}(h:w.cells? base a n=some cs):cs.length=n∧∀(i:Nat)(v:Value),cs[i]? = some v→w.cell? (a.add i)=some v:=by
 unfold World.cells? at h
 split at h
 case isFalse=>cases h
 have key:∀(l:List Nat) (cs:List Value),(l.mapM fun i=>w.cell? (a.add i))=some cs→cs.length=l.length∧∀(i:Nat) (v:Value),cs[i]? = some v→∃ j:Nat,l[i]? = some j∧w.cell? (a.add j)=some v:=by
  intro l
  induction l with
  |nil=>intro cs h;simp at h;subst h;exact⟨rfl,fun i v h=>by simp at h⟩
  |cons m l ih=>
   intro cs h
   rw[List.mapM_cons] at h
   cases hm:w.cell? (a.add m) with
   |none=>rw[hm] at h;cases h
   |some v=>
    rw[hm] at h
    cases hr:l.mapM (fun i=>w.cell? (a.add i)) with
    |none=>rw[hr] at h;cases h
    |some vs=>
     rw[hr] at h
     obtain rfl:v :: vs=cs:=Option.some.inj h
     obtain⟨h1,h2⟩:=ih vs hr
     refine⟨by simp [h1],fun i u hu=>?_⟩
     cases i with
     |zero=>simp at hu;subst hu;exact⟨m,rfl,hm⟩
     |succ i=>simpa using h2 i u (by simpa using hu)
 obtain⟨h1,h2⟩:=key _ _ h
 refine⟨by simpa using h1,fun i v hv=>?_⟩
 obtain⟨j,hj,hc⟩:=h2 i v hv
 have:j=i:=by
  rw[List.getElem?_range] at hj
  ·simpa using hj.symm
  ·have:=(List.getElem?_eq_some_iff.1 hv).1
   simp at h1;omega
 subst this
 exact hc
theorem q6R{α:Type}{Q:Nat→α→Prop}:∀(n:Nat),(∀ i,i<n→∃ y,Q i y)→∃ l:List α,l.length=n∧∀(i:Nat)(y:α),l[i]? = some y→Q i y
 |0,_=>⟨[],rfl,fun i y h=>by simp at h⟩
 |n+1,h=>by
  obtain⟨l,h1,h2⟩:=q6R n (fun i hi=>h i (by omega))
  obtain⟨y,hy⟩:=h n (by omega)
  refine⟨l++[y],by simp [h1],fun i z hz=>?_⟩
  by_cases hi:i<l.length
  ·rw[List.getElem?_append_left hi] at hz
   exact h2 i z hz
  ·rw[List.getElem?_append_right (by omega)] at hz
   have:i - l.length=0:=by
    rcases Nat.eq_zero_or_pos (i - l.length) with h|h
    ·exact h
    ·rw[List.getElem?_eq_none (by simp;omega)] at hz;cases hz
   rw[this] at hz
   simp at hz
   subst hz
   have:i=n:=by omega
   subst this
   exact hy
end Go.Vm
end

section
namespace Go.Vm
open Go.RowKit Go.Deep
variable {H:Type}{enc:TypeId×Value→H}{P:Program}{w:World}{spare:Nat→Bool}{held:Bool}
def argV(agg:Bool)(ds:List D):V:=if agg then .agg (ds.map (.d false)) else match ds with
 |[d]=>.d false d
 |_=>.junk
theorem z0P{v:Value}{d:D}{base:Nat}(hag:∀ cs,v≠.agg cs)(h:RepL w v.cells.toList [d]):RepV w (q9F w) base (fun _=>none) v (argV false [d]):=by
 have hc:v.cells = #[v]:=by
  cases v with
  |agg cs=>exact absurd rfl (hag cs)
  |_=>rfl
 rw[hc] at h
 exact .d _ _ _ (h.2 0 v d rfl rfl)
end Go.Vm
end

section
namespace Go.Vm
open Go.RowKit Go.Deep
variable {H:Type}{enc:TypeId×Value→H}{P:Program}{w:World}{spare:Nat→Bool}{held:Bool}
structure BulkOk(bulk:DataW H→Nat):Prop where
 str:∀ l,l.length≤bulk (.lit (.string l))
 sl:∀ elems spare,elems.length≤bulk (.slice elems spare)∧∀ e∈elems,bulk e≤bulk (.slice elems spare)
 agg:∀ parts,∀ e∈parts,bulk e≤bulk (.agg parts)
def q0M(P:Program)(B:Nat):Nat→TypeId→List D→Prop
 |0,_,_=>False
 |n+1,t,ds=>match P.underlying t with
  |some .bool=>∃ b,ds=[.bool b]
  |some (.int k)=>∃ m,ds=[.int k m]∧(Lit.int k m).wf=true
  |some .string=>∃ s,ds=[.str s]∧s.length≤B
  |some (.slice e)=>∃ rows:List (List D),ds=[.sl (P.cellsOf e) rows]∧rows.length≤B∧∀ r∈rows,r.length=P.cellsOf e∧q0M P B n e r
  |some (.struct fs)=>q5x P (q0M P B n) fs.toList ds
  |_=>False
theorem q6P(T:TypeId→Bool)(Ty:TypeId→List D→Prop)(Q:DataW H→Prop)(g:TypeId→List Value→Option (DataW H×List MemPlace))
  (hT:∀ t cs x,T t=true→g t cs=some x→Q x.1→cs.length=P.cellsOf t→∃ ds,RepL w cs ds∧Ty t ds) (cs:List Value) :
  ∀(fs:List Field) (off:Nat) (xs:List (DataW H×List MemPlace)),q2s P T off fs=some cs.length→(fs.mapM fun f=>g f.type ((cs.drop f.offset).take (P.cellsOf f.type)))=some xs→(∀ x∈xs,Q x.1)→∃ ds,RepL w (cs.drop off) ds∧q5x P Ty fs ds
 |[],off,xs,hl,_,_=>by
  simp only[q2s,Option.some.injEq] at hl
  refine⟨[],⟨by simp [hl],fun j v d _ hd=>by simp at hd⟩,rfl⟩
 |f :: fs,off,xs,hl,hm,hQ=>by
  simp only[q2s] at hl
  split at hl
  case isFalse=>cases hl
  rename_i hc
  obtain⟨ho,ht⟩:=hc
  rw[List.mapM_cons] at hm
  cases hg:g f.type ((cs.drop f.offset).take (P.cellsOf f.type)) with
  |none=>rw[hg] at hm;cases hm
  |some x=>
   rw[hg] at hm
   cases hr:fs.mapM (fun f=>g f.type ((cs.drop f.offset).take (P.cellsOf f.type))) with
   |none=>rw[hr] at hm;cases hm
   |some ys=>
    rw[hr] at hm
    obtain rfl:x :: ys=xs:=Option.some.inj hm
    have hle:∀(fs:List Field) (off m:Nat),q2s P T off fs=some m→off≤m:=by
     intro fs
     induction fs with
     |nil=>intro off m h;simp only[q2s,Option.some.injEq] at h;omega
     |cons f fs ih=>
      intro off m h
      simp only[q2s] at h
      split at h
      ·have:=ih _ _ h;omega
      ·cases h
    have hb:=hle _ _ _ hl
    obtain⟨ds,h1,h2⟩:=q6P T Ty Q g hT cs fs _ ys hl hr (fun y hy=>hQ y (List.mem_cons_of_mem _ hy))
    have hlen:((cs.drop off).take (P.cellsOf f.type)).length=P.cellsOf f.type:=by
     rw[List.length_take,List.length_drop];omega
    rw[ho] at hg
    obtain⟨asq,h3,h4⟩:=hT f.type _ x ht hg (hQ x (by simp)) hlen
    refine⟨asq++ds,?_,asq,ds,rfl,by rw[h3.1];exact hlen,h4,h2⟩
    have:=h3.append h1
    rwa [←List.drop_drop,List.take_append_drop] at this
theorem q53{bulk:DataW H→Nat}(hbk:BulkOk bulk){B:Nat}:∀(n fuel:Nat)(t:TypeId)(cs:List Value)(x:DataW H×List MemPlace),q3K P n t=true→DataW.trod enc P w 0 spare held fuel t cs=some x→bulk x.1≤B→∃ ds,RepL w cs ds∧q0M P B n t ds
 |0,_,_,_,_,h,_,_=>by simp [q3K] at h
 |_+1,0,_,_,_,_,h,_=>by simp [DataW.trod] at h
 |n+1,fuel+1,t,cs,x,hp,h,hB=>by
  simp only[q3K] at hp
  cases ht:P.underlying t with
  |none=>simp [ht] at hp
  |some d=>
   simp only[q0M,ht] at hp ⊢
   cases d with
   |bool=>
    have:∃ b,cs=[.bool b]:=by
     unfold DataW.trod at h
     simp only[ht] at h
     split at h <;> first|(exact⟨_,rfl⟩)|(simp_all;done)|(cases h;done)
    obtain⟨b,rfl⟩:=this
    exact⟨_,.one (.bool b),b,rfl⟩
   |int k=>
    have:∃ m,cs=[.int k m]∧(Lit.int k m).wf=true:=by
     unfold DataW.trod at h
     simp only[ht] at h
     split at h <;> first|(cases h;done)|skip
     all_goals(try(simp_all;done))
     all_goals(split at h <;> first|(cases h;done)|skip)
     all_goals(simp_all)
    obtain⟨m,rfl,hw⟩:=this
    exact⟨_,.one (.int k m),m,rfl,hw⟩
   |string=>
    obtain⟨s',h1,hx,hs⟩:=DataW.trod_string ht h
    subst h1
    refine⟨_,.one (.str s'),_,rfl,?_⟩
    have:=hbk.str s'.data.toList
    rw[hx] at hB
    exact Nat.le_trans this hB
   |slice e=>
    simp only[Bool.and_eq_true,decide_eq_true_eq] at hp
    rcases open_slice ht h with⟨rfl,_⟩|⟨a,len,cap,m,n',Dd,Pl,rfl,_,hlc,hcm,hm,hxx,hel⟩
    ·exact⟨_,.one (.sl0 none 0 (P.cellsOf e) (fun _=>rfl)),[],rfl,by simp,fun r hr=>by simp at hr⟩
    ·rw[hxx] at hB
     have hsl:=hbk.sl ((List.range len).map Dd) ((List.range (m - len)).map fun j=>Dd (len+j))
     have hlen':len≤B:=by
      have:=hsl.1
      rw[List.length_map,List.length_range] at this
      exact Nat.le_trans this hB
     have hpart:∀ i,i<len→bulk (Dd i)≤B:=fun i hi=>Nat.le_trans (hsl.2 _ (List.mem_map.2 ⟨i,List.mem_range.2 hi,rfl⟩)) hB
     have hml:len≤m:=by rw[hm];split <;> omega
     have q03:∀ i,i<len→∃ ds,∃ cs',w.cells? 0 (a.add (i*P.cellsOf e)) (P.cellsOf e)=some cs'∧RepL w cs' ds∧q0M P B n e ds:=by
      intro i hi
      obtain⟨cs',h1,h2⟩:=hel i (by omega)
      obtain⟨ds,h3,h4⟩:=q53 hbk n n' e cs' _ hp.2 h2 (hpart i hi)
      exact⟨ds,cs',h1,h3,h4⟩
     obtain⟨rows,hr1,hr2⟩:=q6R len q03
     have typed:∀ r∈rows,r.length=P.cellsOf e∧q0M P B n e r:=fun r hr=>by
      obtain⟨i,hi⟩:=List.getElem?_of_mem hr
      obtain⟨cs',h1,h3,h4⟩:=hr2 i r hi
      exact⟨by rw[h3.1,(q5b h1).1],h4⟩
     refine⟨[.sl (P.cellsOf e) rows],.one ?_,rows,rfl,by omega,typed⟩
     by_cases hz:len=0
     ·have:rows=[]:=List.eq_nil_of_length_eq_zero (by omega)
      subst this
      subst hz
      exact .sl0 (some a) cap _ (fun h=>by cases h)
     ·have h0:0<rows.length:=by omega
      obtain⟨cs0,g1,g2,_⟩:=hr2 0 rows[0] (List.getElem?_eq_getElem h0)
      obtain⟨c1,c2⟩:=q5b g1
      have hv:=c2 0 cs0[0] (List.getElem?_eq_getElem (by omega))
      simp only[Nat.zero_mul] at hv
      have hsp:a.spot=none:=by simpa [Addr.add] using World.cell?_spot hv
      have hblk:a.block<w.heap.size:=by
       unfold World.cell? at hv
       split at hv
       ·rename_i hh
        have:=(Array.getElem?_eq_some_iff.1 hh).1
        simpa [Addr.add] using this
       ·cases hv
      obtain⟨ab,ao,asq⟩:=a
      simp only at hsp hblk
      subst hsp
      have cellat:∀(i j:Nat) (r:List D) (d:D),rows[i]? = some r→r[j]? = some d→∃ v,w.cell? ⟨ab,ao+(i*P.cellsOf e+j),none⟩=some v∧RepD w (q9F w) v d:=by
       intro i j r d hi hj
       obtain⟨cs',h1,h3,_⟩:=hr2 i r hi
       have hjl:j<cs'.length:=by rw[←h3.1];exact(List.getElem?_eq_some_iff.1 hj).1
       refine⟨cs'[j],?_,h3.2 j _ d (List.getElem?_eq_getElem hjl) hj⟩
       have:=(q5b h1).2 j _ (List.getElem?_eq_getElem hjl)
       rw[add_lit,add_lit,Nat.add_assoc] at this
       exact this
      refine .sl ab ao len cap (P.cellsOf e) rows (fun i j=>(w.cell? ⟨ab,ao+(i*P.cellsOf e+j),none⟩).getD default) hr1 hlc hblk (fun r hr=>(typed r hr).1) (fun i j r d hi hj=>?_) (fun i j r d hi hj=>?_)
      ·obtain⟨v,hv,_⟩:=cellat i j r d hi hj
       rw[hv];rfl
      ·obtain⟨v,hv,hR⟩:=cellat i j r d hi hj
       rw[hv];exact hR
   |struct fs=>
    simp only[decide_eq_true_eq] at hp
    have hs:cs.length=P.cellsOf t∧∃ xs,(fs.toList.mapM fun f=>DataW.trod enc P w 0 spare held fuel f.type ((cs.drop f.offset).take (P.cellsOf f.type)))=some xs∧∀ y∈xs,bulk y.1≤B:=by
     unfold DataW.trod at h
     simp only[ht] at h
     split at h
     ·rename_i hl
      simp only[Option.map_eq_some_iff] at h
      obtain⟨xs,hx,hxe⟩:=h
      subst hxe
      exact⟨hl,xs,hx,fun y hy=>Nat.le_trans (hbk.agg _ y.1 (List.mem_map.2 ⟨y,hy,rfl⟩)) hB⟩
     ·cases h
    obtain⟨hl,xs,hx,hxb⟩:=hs
    obtain⟨ds,h1,h2⟩:=q6P (q3K P n) (q0M P B n) (fun d=>bulk d≤B) (fun t cs=>DataW.trod enc P w 0 spare held fuel t cs) (fun t cs x hp h hq _=>q53 hbk n fuel t cs x hp h hq) cs fs.toList 0 xs (by rw[hl];exact hp) hx hxb
    exact⟨ds,by simpa using h1,h2⟩
   |_=>simp at hp
theorem z1q{bulk:DataW H→Nat}(hbk:BulkOk bulk){B:Nat}{n:Nat}{t:TypeId}{v:Value}{d:DataW H}{ps:List MemPlace}{r:Reach}{b0 base:Nat}(hB:bulk d≤B)(hp:q3K P n t=true)(hv:Value.okWide P w r b0 t v)(h:DataW.Trod enc P w 0 spare held t v d ps) :
  ∃ ds,q0M P B n t ds∧RepV w (q9F w) base (fun _=>none) v (argV (z7R P t) ds):=by
 obtain⟨fuel,h⟩:=h
 obtain⟨ds,h1,h2⟩:=q53 hbk n fuel t v.cells.toList _ hp h hB
 refine⟨ds,h2,?_⟩
 cases n with
 |zero=>simp [q3K] at hp
 |succ n=>
  simp only[q3K] at hp
  cases ht:P.underlying t with
  |none=>simp [ht] at hp
  |some td=>
   simp only[ht] at hp
   have ha:z7R P t=q1L td:=by simp [z7R,ht]
   cases td with
   |struct fs=>
    simp only[Value.okWide,ht] at hv
    obtain⟨cs,rfl,_,_⟩:=hv
    rw[ha]
    simp only[q1L,argV,if_true]
    have hlen:ds.length=cs.size:=by simpa [Value.cells] using h1.1
    refine .agg _ _ (by simp [hlen]) (fun j u x hu hx=>?_) (fun u hu=>?_)
    ·simp only[List.getElem?_map,Option.map_eq_some_iff] at hx
     obtain⟨y,hy,rfl⟩:=hx
     exact .d _ _ _ (h1.2 j u y (by simpa [Value.cells] using hu) hy)
    ·obtain⟨j,hj⟩:=Array.getElem?_of_mem hu
     have hjl:j<ds.length:=by rw[hlen];exact(Array.getElem?_eq_some_iff.1 hj).1
     exact(h1.2 j u _ (by simpa [Value.cells] using hj) (List.getElem?_eq_getElem hjl)).oneCell
   |bool=>
    simp only[q0M,ht] at h2
    obtain⟨b,rfl⟩:=h2
    have hag:∀ cs,v≠.agg cs:=by rintro cs rfl;simp [Value.okWide,ht,Cell.okWide,Cell.ok] at hv
    rw[ha]
    exact z0P hag h1
   |int k=>
    simp only[q0M,ht] at h2
    obtain⟨m,rfl,_⟩:=h2
    have hag:∀ cs,v≠.agg cs:=by rintro cs rfl;simp [Value.okWide,ht,Cell.okWide,Cell.ok] at hv
    rw[ha]
    exact z0P hag h1
   |string=>
    simp only[q0M,ht] at h2
    obtain⟨m,rfl,_⟩:=h2
    have hag:∀ cs,v≠.agg cs:=by rintro cs rfl;simp [Value.okWide,ht,Cell.okWide,Cell.ok] at hv
    rw[ha]
    exact z0P hag h1
   |slice e=>
    simp only[q0M,ht] at h2
    obtain⟨m,rfl,_⟩:=h2
    have hag:∀ cs,v≠.agg cs:=by rintro cs rfl;simp [Value.okWide,ht,Cell.okWide,Cell.ok] at hv
    rw[ha]
    exact z0P hag h1
   |_=>simp at hp
end Go.Vm
end

section
namespace Go.Vm
open Go.Proofs
set_option maxRecDepth 100000
theorem q5F{α:Type}{e:α→List D}{Q:α→Prop}:∀ rows:List (List D),(∀ r∈rows,∃ x,r=e x∧Q x)→∃ l:List α,rows=l.map e∧∀ x∈l,Q x
 |[],_=>⟨[],rfl,fun x h=>by simp at h⟩
 |r :: rows,h=>by
  obtain⟨x,h1,h2⟩:=h r (by simp)
  obtain⟨l,h3,h4⟩:=q5F rows (fun r hr=>h r (List.mem_cons_of_mem _ hr))
  exact⟨x :: l,by rw[h1,h3];rfl,fun y hy=>by
   rcases List.mem_cons.1 hy with rfl|hy
   ·exact h2
   ·exact h4 y hy⟩
theorem z9U:Tryz.prog.cellsOf 62=2:=by kernel_rfl
theorem z9W:Tryz.prog.cellsOf 50=3:=by kernel_rfl
def I64(n:Int):Prop:=-9223372036854775808≤n∧n≤9223372036854775807
theorem j0U{n:Int}(h:(Lit.int .i64 n).wf=true):I64 n:=by
 simp only[Lit.wf,Bool.and_eq_true,decide_eq_true_eq] at h
 have e1:IntKind.i64.min=-9223372036854775808:=by decide
 have e2:IntKind.i64.max=9223372036854775807:=by decide
 rw[e1,e2] at h
 exact h
theorem z9V:Tryz.prog.cellsOf 53=3:=by kernel_rfl
structure InI(x:Instr):Prop where
 op:I64 x.op
 a:I64 x.a
 b:I64 x.b
structure InS(s:Shape):Prop where
 name:(s.name.length:Int)≤9223372036854775807
 fields:I64 s.fields
structure InG(g:Glob):Prop where
 name:(g.name.length:Int)≤9223372036854775807
 arity:I64 g.arity
 len:(g.code.length:Int)≤9223372036854775807
 code:∀ x∈g.code,InI x
structure InT(t:Table):Prop where
 sl:(t.shapes.length:Int)≤9223372036854775807
 gl:(t.globals.length:Int)≤9223372036854775807
 shapes:∀ s∈t.shapes,InS s
 globals:∀ g∈t.globals,InG g
theorem InT.ok{t:Table}(h:InT t):TabOk t:=
 ⟨h.sl,h.gl,fun g hg=>(h.globals g hg).len,fun s hs=>(h.shapes s hs).name,fun g hg=>(h.globals g hg).name,fun g hg x hx=>((h.globals g hg).code x hx).a.2⟩
theorem z33:q3K Tryz.prog 6 25=true:=by kernel_rfl
end Go.Vm
end

section
namespace Go.Vm
open Go.Proofs Go.Proofs.YtjpnaaebfdnccaaGreatDoor
set_option maxRecDepth 100000
theorem q5T{H:Type}{d:DataW H}{l:List (DataW H)}(h:d∈l):Rows.uptoBulk d≤Rows.uptoBulkAll l:=by
  induction l with
  |nil=>cases h
  |cons x r ih=>
    simp only[Rows.uptoBulkAll]
    cases List.mem_cons.1 h with
    |inl e=>subst e;omega
    |inr e=>have:=ih e;omega
theorem z7J{H:Type}(d:DataW H):1≤Rows.uptoBulk d:=by
  cases d with
  |lit l=>cases l <;> simp [Rows.uptoBulk]
  |nil=>simp [Rows.uptoBulk]
  |ptr d=>simp [Rows.uptoBulk]
  |slice elems spare=>simp [Rows.uptoBulk]
  |agg parts=>simp [Rows.uptoBulk]
  |iface t d=>simp [Rows.uptoBulk]
  |map entries=>simp [Rows.uptoBulk]
  |held h=>simp [Rows.uptoBulk]
theorem z1p{H:Type}(l:List (DataW H)):l.length≤Rows.uptoBulkAll l:=by
  induction l with
  |nil=>simp [Rows.uptoBulkAll]
  |cons x r ih=>have:=z7J x;simp only[Rows.uptoBulkAll,List.length_cons];omega
theorem bulk_ok{H:Type}:BulkOk (Rows.uptoBulk (H:=H)):=
  ⟨fun l=>by simp only[Rows.uptoBulk];omega,fun elems spare=>⟨by have:=z1p elems;simp only[Rows.uptoBulk];omega,fun e he=>by have:=q5T he;simp only[Rows.uptoBulk];omega⟩,
   fun parts e he=>by have:=q5T he;simp only[Rows.uptoBulk];omega⟩
structure SmN(t:Table):Prop where
  sm:Sm t
  sn:∀ s∈t.shapes,s.name.length≤1048576
  gn:∀ g∈t.globals,g.name.length≤1048576
theorem q2C{n:Nat}{ds:List D}(h:q0M Tryz.prog 1048576 (n+1) 3 ds):∃ m,ds=[.int .i64 m]∧I64 m:=by
  simp only[q0M,Tryz.underlying3] at h
  obtain⟨m,h1,h2⟩:=h
  exact⟨m,h1,j0U h2⟩
theorem q7m{n:Nat}{ds:List D}(h:q0M Tryz.prog 1048576 (n+1) 9 ds):∃ s,ds=[.str s]∧s.length≤1048576:=by
  simp only[q0M,Tryz.underlying9] at h
  exact h
theorem q8D{n:Nat}{ds:List D}(h:q0M Tryz.prog 1048576 (n+2) 53 ds):∃ x,ds=q0j x∧InI x:=by
  rw[q0M] at h
  simp only[Tryz.underlying53,q5x] at h
  obtain⟨a,r,rfl,_,h1,b,r2,rfl,_,h2,c,r3,rfl,_,h3,rfl⟩:=h
  obtain⟨x,rfl,hx⟩:=q2C h1
  obtain⟨y,rfl,hy⟩:=q2C h2
  obtain⟨z,rfl,hz⟩:=q2C h3
  exact⟨⟨x,y,z⟩,rfl,⟨hx,hy,hz⟩⟩
theorem q8C{n:Nat}{ds:List D}(h:q0M Tryz.prog 1048576 (n+2) 62 ds):∃ x,ds=q0c x∧InS x∧x.name.length≤1048576:=by
  rw[q0M] at h
  simp only[Tryz.underlying62,q5x] at h
  obtain⟨a,r,rfl,_,h1,b,r2,rfl,_,h2,rfl⟩:=h
  obtain⟨x,rfl,hx⟩:=q7m h1
  obtain⟨y,rfl,hy⟩:=q2C h2
  exact⟨⟨x,y⟩,rfl,⟨by simp only;omega,hy⟩,hx⟩
theorem q9S{n:Nat}{ds:List D}(h:q0M Tryz.prog 1048576 (n+3) 48 ds):∃ l:List Instr,ds=[.sl 3 (l.map q0j)]∧l.length≤1048576∧∀ x∈l,InI x:=by
  rw[q0M] at h
  simp only[Tryz.underlying48,z9V] at h
  obtain⟨rows,rfl,hl,hr⟩:=h
  obtain⟨l,rfl,h2⟩:=q5F (e:=q0j) (Q:=InI) rows (fun r h=>q8D (hr r h).2)
  rw[List.length_map] at hl
  exact⟨l,rfl,hl,h2⟩
theorem q9R{n:Nat}{ds:List D}(h:q0M Tryz.prog 1048576 (n+4) 50 ds):∃ x,ds=q0l x∧InG x∧x.name.length≤1048576∧x.code.length≤1048576:=by
  rw[q0M] at h
  simp only[Tryz.underlying50,q5x] at h
  obtain⟨a,r,rfl,_,h1,b,r2,rfl,_,h2,c,r3,rfl,_,h3,rfl⟩:=h
  obtain⟨x,rfl,hx⟩:=q7m h1
  obtain⟨y,rfl,hy⟩:=q2C h2
  obtain⟨z,rfl,hz,hz2⟩:=q9S h3
  exact⟨⟨x,y,z⟩,rfl,⟨by simp only;omega,hy,by simp only;omega,hz2⟩,hx,hz⟩
theorem q5f{n:Nat}{ds:List D}(h:q0M Tryz.prog 1048576 (n+6) 25 ds):∃ t:Table,ds=[.sl 2 (t.shapes.map q0c),.sl 3 (t.globals.map q0l)]∧InT t∧SmN t:=by
  rw[q0M] at h
  simp only[Tryz.underlying25,q5x] at h
  obtain⟨a,r,rfl,_,h1,b,r2,rfl,_,h2,rfl⟩:=h
  rw[q0M] at h1 h2
  simp only[Tryz.underlying22,Tryz.underlying23,z9U,z9W] at h1 h2
  obtain⟨rows,rfl,hl,hr⟩:=h1
  obtain⟨rows2,rfl,hl2,hr2⟩:=h2
  obtain⟨l,rfl,h3⟩:=q5F (e:=q0c) (Q:=fun x=>InS x∧x.name.length≤1048576) rows (fun r h=>q8C (hr r h).2)
  obtain⟨l2,rfl,h4⟩:=q5F (e:=q0l) (Q:=fun x=>InG x∧x.name.length≤1048576∧x.code.length≤1048576) rows2 (fun r h=>q9R (hr2 r h).2)
  rw[List.length_map] at hl hl2
  exact⟨⟨l,l2⟩,rfl,⟨by simp only;omega,by simp only;omega,fun s hs=>(h3 s hs).1,fun g hg=>(h4 g hg).1⟩,⟨⟨hl,hl2,fun g hg=>(h4 g hg).2.2⟩,fun s hs=>(h3 s hs).2,fun g hg=>(h4 g hg).2.1⟩⟩
theorem z6i(x:Int):IntKind.i64.wrap x≤9223372036854775807:=by
  unfold IntKind.wrap
  have e1:(2:Int) ^ IntKind.i64.bits=18446744073709551616:=by decide
  have e2:(2:Int) ^ (IntKind.i64.bits - 1)=9223372036854775808:=by decide
  simp only[e1,e2]
  have:IntKind.i64.signed=true:=rfl
  simp only[this,Bool.true_and,decide_eq_true_eq]
  split <;> omega
theorem z7b{x:Instr}(h:InI x):(q3t x).a≤9223372036854775807:=by
  unfold q3t
  split
  · show bits .xor .i64 x.a 1≤_
    unfold bits
    exact z6i _
  · exact h.a.2
theorem z8A{t:Table}(h:InT t):TabOk (q5y t):=by
  have key:∀ g∈(q5y t).globals,(∃ a∈t.globals,g.name=a.name)∧∃ a∈t.globals,g.code=a.code.map q3t:=by
    intro g hg
    simp only[q5y] at hg
    obtain⟨q,hq,rfl⟩:=List.mem_map.1 hg
    unfold q7e at hq
    split at hq
    · simp at hq
    · rename_i hne
      rcases List.mem_or_eq_of_mem_set hq with hq|rfl
      · have:q.2∈(numG 2 (t.globals.map q24)).map (·.2):=List.mem_map_of_mem hq
        rw[q72] at this
        obtain⟨a,ha,he⟩:=List.mem_map.1 this
        rw[←he]
        exact⟨⟨a,ha,rfl⟩,⟨a,ha,rfl⟩⟩
      · have h1:=z0m t hne
        obtain⟨m,hm,_⟩:=z0g t hne
        refine⟨⟨_,List.mem_of_getElem? (q0U h1),rfl⟩,⟨nth t.globals (m:Int),List.mem_of_getElem? (q0U (by omega)),?_⟩⟩
        simp only[q9U]
        rw[show((t.globals.length:Int) - 1)=(m:Int) by omega]
  refine⟨h.sl,by simp only[q5y,List.length_map,q8E];exact h.gl,fun g hg=>?_,fun s hs=>(h.shapes s hs).name,fun g hg=>?_,fun g hg x hx=>?_⟩
  · obtain⟨_,a,ha,he⟩:=key g hg
    rw[he,List.length_map];exact(h.globals a ha).len
  · obtain⟨⟨a,ha,he⟩,_⟩:=key g hg
    rw[he];exact(h.globals a ha).name
  · obtain⟨_,a,ha,he⟩:=key g hg
    rw[he] at hx
    obtain⟨y,hy,rfl⟩:=List.mem_map.1 hx
    exact z7b ((h.globals a ha).code y hy)
end Go.Vm
end

section
namespace Go.Vm
open Go.ChangeShapes Go.WideShapes Go.ChangeAt Go.RowKit Go.Proofs Go.Proofs.YtjpnaaebfdnccaaGreatDoor
set_option linter.unusedVariables false
set_option maxRecDepth 100000
theorem ownZ:ownKnob Tryz.prog.godebug=none:=by kernel_rfl
theorem z09:laidOutB Tryz.prog=true:=by kernel_rfl
def z0i:List (String×DataW Unit):=[("math/bits.deBruijn32tab",Rows.laid_math_bits_deBruijn32tab),("math/bits.deBruijn64tab",Rows.laid_math_bits_deBruijn64tab),("internal/strconv.uint64pow10",Rows.laid_internal_strconv_uint64pow10),("unicode/utf8.acceptRanges",Rows.laid_unicode_utf8_acceptRanges),("strconv.ErrRange",Rows.laid_strconv_ErrRange),("strconv.ErrSyntax",Rows.laid_strconv_ErrSyntax),("unicode/utf8.first",Rows.laid_unicode_utf8_first)]
def j10(P:Program)(w:World)(n:String)(d:DataW Unit):Prop:=
 ∃ g t cs fuel p,P.globalNamed n=some g∧(P.globals[g]?).map (·.type)=some t∧w.var? P n=some cs∧DataW.trod (fun _=>()) P w 0 (fun _=>true) false fuel t cs.toList=some (d,p)
theorem z0U{P:Program}{w:World}:∀ {l:List (String×DataW Unit)}{ps:List MemPlace},DataW.LaidVars P w l ps→∀ n d,(n,d)∈l→j10 P w n d
 |[],_,_,_,_,hm=>by cases hm
 |(n',d') :: r,ps,h,n,d,hm=>by
  obtain⟨g,t,cs,fuel,p,q,h1,h2,h3,h4,h5,_⟩:=h
  rcases List.mem_cons.1 hm with e|e
  ·cases e
   exact⟨g,t,cs,fuel,p,h1,h2,h3,h4⟩
  ·exact z0U h5 n d e
theorem q8I{P:Program}{W:World}{name:String}{k:IntKind}{zs:List Int}{g:Nat}{t e:TypeId}{n:Nat}
  (hg:P.globalNamed name=some g) (hty:(P.globals[g]?).map (·.type)=some t) (ht:P.underlying t=some (.array n e)) (he:P.underlying e=some (.int k)) (hce:P.cellsOf e=1) (hct:P.cellsOf t=n)
  (h:j10 P W name (Lib.tabData k zs)):Lib.TabIs P W name k zs:=by
 obtain⟨g',t',cs,fuel,p,hg',ht',hvar,hd⟩:=h
 obtain rfl:=Option.some.inj (hg.symm.trans hg')
 obtain rfl:=Option.some.inj (hty.symm.trans ht')
 unfold Lib.TabIs
 rw[hvar,←Lib.cells_of_tab ht he hce hct hd]
theorem gP10T:(Tryz.prog.globals[0]?).map (·.type)=some 167:=by kernel_rfl
theorem z8X:(Rows.laid_internal_strconv_uint64pow10:DataW Unit)=Lib.tabData .u64 Lib.pow10Tab:=by kernel_rfl
theorem z0q{W:World}{name:String}{k:IntKind}{zs:List Int}{g:Nat}(h:Lib.TabIs Tryz.prog W name k zs)(hg:Tryz.prog.globalNamed name=some g) :
  RepD W (q9F W) (.pointer (some ⟨g,0,none⟩)) (.ptr (zs.map fun z=>.int k z))∧∃ cs t fz,W.heap[g]? = some (.cells cs t fz)∧cs.size=(zs.map fun z=>D.int k z).length:=by
 have hb:∃ cs t fz,W.heap[g]? = some (.cells cs t fz)∧cs.size=(zs.map fun z=>D.int k z).length:=by
  unfold Lib.TabIs World.var? at h
  rw[hg] at h
  replace h:(match W.heap[g]? with|some (.cells cs _ _)=>some cs|_=>none)=some (zs.map fun z=>Value.int k z).toArray:=h
  split at h
  ·rename_i cs t fz hh
   obtain rfl:=Option.some.inj h
   exact⟨_,t,fz,hh,by simp⟩
  ·cases h
 refine⟨?_,hb⟩
 obtain⟨cs,t,fz,hh,hsz⟩:=hb
 refine .ptr g 0 _ (fun j=>.int k (zs.getD j 0)) ?_ (fun j d hd=>?_) (fun j d hd=>?_)
 ·show g<W.heap.size
  rcases Nat.lt_or_ge g W.heap.size with h'|h'
  ·exact h'
  ·simp [Array.getElem?_eq_none h'] at hh
 ·have hj:j<zs.length:=by
   rcases Nat.lt_or_ge j zs.length with h'|h'
   ·exact h'
   ·rw[List.getElem?_eq_none (by simpa using h')] at hd;cases hd
  rw[Nat.zero_add]
  exact h.cell hg j hj
 ·rw[List.getElem?_map,Option.map_eq_some_iff] at hd
  obtain⟨z,hz,rfl⟩:=hd
  have:zs.getD j 0=z:=by rw[List.getD_eq_getElem?_getD,hz];rfl
  rw[this]
  exact .int k z
theorem q8d{W:World}(h:laidMetH Tryz.prog z0i W):GlobRel W (q9F W) GT:=by
 have h':laidMet Tryz.prog z0i W:=h
 obtain⟨ps,hv,_⟩:laidMet Tryz.prog z0i W:=h'
 have h0:=z0U hv "internal/strconv.uint64pow10" Rows.laid_internal_strconv_uint64pow10 (by simp [z0i])
 rw[z8X] at h0
 have t0:=q8I gP10 gP10T Tryz.underlying167 Tryz.underlying105 (by kernel_rfl) (by kernel_rfl) h0
 intro g cells hg
 match g,hg with
 |0,hg=>
  obtain rfl:=Option.some.inj hg
  rw[if_neg (show ¬ q5M (Lib.pow10Tab.map fun z=>D.int .u64 z)=true from fun e=>Bool.noConfusion (show false=true from e))]
  exact z0q t0 gP10
 |n+1,hg=>cases hg
def j0X:Nat→DataW Unit→List Value
 |_,.lit (.int k n)=>[.int k n]
 |n+1,.agg ps=>ps.flatMap (j0X n)
 |_,_=>[]
def lay(g:Nat)(d:DataW Unit)(h:Array Obj):Array Obj:=h.modify g fun
 |.cells _ t frozen=>.cells (j0X 3 d).toArray t frozen
 |o=>o
def z7W(g n:Nat)(h:Array Obj):Array Obj:=h.modify g fun
 |.cells _ t frozen=>.cells #[.iface 193 (.pointer (some ⟨n,0,none⟩))] t frozen
 |o=>o
def pushE(h:Array Obj):Array Obj:=((z7W 5 h.size (z7W 4 (h.size+1) h)).push (.cells #[.string ⟨#[118,97,108,117,101,32,111,117,116,32,111,102,32,114,97,110,103,101]⟩] 195 (0,0))).push (.cells #[.string ⟨#[105,110,118,97,108,105,100,32,115,121,110,116,97,120]⟩] 195 (0,0))
noncomputable def q41(os:Os):World:=
 { World.holding Tryz.prog os ⟨#[],#[],[]⟩ with heap:=pushE (lay 7 Rows.laid_math_bits_deBruijn64tab (lay 6 Rows.laid_math_bits_deBruijn32tab (lay 3 Rows.laid_unicode_utf8_acceptRanges (lay 2 Rows.laid_unicode_utf8_first (lay 0 Rows.laid_internal_strconv_uint64pow10 (World.holding Tryz.prog os ⟨#[],#[],[]⟩).heap))))) }
theorem z4E(os:Os)(args:Array Value):laidMetH Tryz.prog z0i ((q41 os).forCall (fun _ _=>0) ⟨#[],args,[]⟩).memory:=
 laidMetH_of_parts (show laidMet Tryz.prog z0i _ from(LaidIn.of_run (List.range 20) 8 (by kernel_rfl) (by kernel_rfl) (by kernel_rfl) (by kernel_rfl)).met) (by kernel_rfl)
end Go.Vm
end

section
namespace Go.Proofs.YtjpnaaebfdnccaaGreatDoor.codeChecks
open Go.ChangeShapes Go.WideShapes Go.ChangeAt Go.RowKit Go.Vm Go.ChangeMaps
set_option linter.unusedVariables false
theorem z19{H:Type}{enc:TypeId×Value→H}{P:Program}{f:Func}{s:ChangeSpec}{apart fresh handsOn again:Bool}{W W':World}{args:Array Value}{v:Value}{ds gs:List (DataW H)}{before:List MemPlace}
    (hW:DataW.Whole enc P f.params.toList s.vars apart W args.toList ds gs before) (hb:Below W.heap.size W W')
    (hres:∀(b:Nat) (sp:Nat→Bool) (hd:Bool),DataW.TrodAll enc P W' b sp hd f.resultTypes.toList (v.resultList f.resultTypes.size) (s.fn H (ds++gs)).results [])
    (hargs:∀ sp:Nat→Bool,(∀ p∈before,sp p.block=true)→DataW.TrodAll enc P W' 0 sp true f.params.toList args.toList (s.fn H (ds++gs)).args before)
    (hvars:∀ sp:Nat→Bool,DataW.TrodVars enc P W' sp s.vars (s.fn H (ds++gs)).vars [])
    (hok:∀(j:Nat) (t:TypeId) (r:Value),f.resultTypes[j]? = some t→(v.resultList f.resultTypes.size)[j]? = some r→Value.okWide P W' .any 0 t r) :
    s.post enc P f apart fresh handsOn again W args v W':=by
  have hlt:=hW.lt
  have hsp:∀ p∈before,(fun b=>decide (b<W.heap.size)) p.block=true:=fun p hp=>decide_eq_true (hlt p hp)
  have all:=trodAll_append (hargs (fun _=>true) (fun _ _=>rfl)) (hres 0 (fun _=>true) true)
  rw[List.nil_append] at all
  obtain⟨_,_,_,_,_,hz,hn⟩:=id hW
  refine⟨ds,gs,before,[],before,[],hW,hres _ _ _,hargs _ hsp,hvars _,hb.frame _,fun _=>⟨hok,_,_,before,⟨before,[],all,hvars _,by simp,fun b off hp=>?_,hn⟩,fun p hp _=>hp⟩⟩
  rw[hb.frozen (hlt _ hp)]
  exact hz b off hp
theorem bulk2{H:Type}{a b:DataW H}(h:Rows.uptoSmall H ([a,b]++[])=true):Rows.uptoBulk a≤1048576∧Rows.uptoBulk b≤1048576:=by
  have h:=of_decide_eq_true h
  simp only[List.append_nil,Rows.uptoBulkAll,Nat.add_zero] at h
  omega
theorem bulk_ok{H:Type}:BulkOk (Rows.uptoBulk (H:=H)):=
  ⟨fun l=>by simp only[Rows.uptoBulk];omega,fun elems spare=>⟨by have:=z1p elems;simp only[Rows.uptoBulk];omega,fun e he=>by have:=q5T he;simp only[Rows.uptoBulk];omega⟩,
   fun parts e he=>by have:=q5T he;simp only[Rows.uptoBulk];omega⟩
set_option maxRecDepth 100000 in
theorem contract(H:Type)(enc:TypeId×Value→H)(W:World)(base:Nat)(args:Array Value)(ds gs:List (DataW H))(before:List MemPlace)
    (hval:∀(j:Nat) t v,Tryz.f3.params[j]? = some t→args[j]? = some v→Value.okWide Tryz.prog W .any base t v)
    (hW:DataW.Whole enc Tryz.prog Tryz.f3.params.toList Rows.codeChecksSpec.vars false W args.toList ds gs before) (hk:Rows.uptoSmall H (ds++gs)=true) (hL:laidMetH Tryz.prog z0i W) :
    Calls Tryz.prog 3 args W fun e W'=>∃ v,e=.returned v∧Rows.codeChecksSpec.post enc Tryz.prog Tryz.f3 false true false false W args v W':=by
  have hW':=hW
  obtain⟨p,q,hA0,hV,rfl,hfz,hnd⟩:=hW
  have hA:DataW.TrodAll enc Tryz.prog W 0 (fun _=>true) true Tryz.f3.params.toList args.toList ds p:=hA0
  rw[Tryz.params3] at hA hval
  obtain⟨v0,vs0,d0,ds0,p0,q0,hargs,rfl,rfl,h0,r0⟩:=trodAll_cons hA
  obtain⟨v1,vs1,d1,ds1,p1,q1,rfl,rfl,rfl,h1,r1⟩:=trodAll_cons r0
  obtain⟨rfl,rfl,rfl⟩:=trodAll_nil r1
  obtain rfl:args = #[v0,v1]:=by cases args;simp_all
  obtain⟨rfl,rfl⟩:=trodVars_none hV
  clear hA0
  simp only[List.append_nil] at hW'
  obtain⟨b0,b1⟩:=bulk2 hk
  obtain⟨e0,ht0,hr0⟩:=z1q bulk_ok b0 z33 (hval 0 25 v0 rfl rfl) h0 (base:=W.heap.size)
  obtain⟨e1,ht1,hr1⟩:=z1q bulk_ok b1 z33 (hval 1 25 v1 rfl rfl) h1 (base:=W.heap.size)
  obtain⟨t,rfl,hin,hsm⟩:=q5f (n:=0) ht0
  obtain⟨o,rfl,hio,hso⟩:=q5f (n:=0) ht1
  have hag:z7R Tryz.prog 25=true:=by kernel_rfl
  rw[hag] at hr0 hr1
  have hcall:=(z2k t o hsm.sm hin.ok hio.ok (z8A hin)).2 W (q9F W) #[v0,v1] (fun b h=>h) (q8d hL) ⟨rfl,fun j v x hv hx=>by
    match j,hv,hx with
    |0,hv,hx=>simp at hv hx;subst hv;subst hx;exact hr0
    |1,hv,hx=>simp at hv hx;subst hv;subst hx;exact hr1
    |j+2,hv,hx=>simp at hv⟩
  refine hcall.mono fun e W' ⟨v,F',σ',he,hb,_,hR,_⟩=>?_
  have hv:=hR.bool_inv
  subst hv
  subst he
  have hlt:∀ x∈p0++p1,x.block<W.heap.size:=fun x hx=>by simpa using hW'.lt x (by simpa using hx)
  refine⟨_,rfl,z19 hW' hb (fun _ _ _=>(trodAll_cons_mk (shut_bool Tryz.underlying4 _) trodAll_mk0))
    (fun sp hsp=>?_) (fun _=>rfl) (ok_one (by kernel_rfl) rfl (okWide_bool_mk Tryz.underlying4 _))⟩
  have k0:=WideElems.Trod_stays z09 (by kernel_rfl) (of_decide_eq_true (by kernel_rfl)) h0 (fun x hx=>hb.same (hlt x (by simp [hx]))) (fun x hx=>hsp x (by simp [hx]))
  have k1:=WideElems.Trod_stays z09 (by kernel_rfl) (of_decide_eq_true (by kernel_rfl)) h1 (fun x hx=>hb.same (hlt x (by simp [hx]))) (fun x hx=>hsp x (by simp [hx]))
  exact trodAll_cons_mk k0 (trodAll_mk1 k1)
def wargs:Array Value:=#[.agg #[.slice none 0 0,.slice none 0 0],.agg #[.slice none 0 0,.slice none 0 0]]
theorem reads(os:Os){H:Type}(enc:TypeId×Value→H):∃ places,DataW.whole enc Tryz.prog ((q41 os).forCall (fun _ _=>0) ⟨#[],wargs,[]⟩).memory Tryz.f3.params.toList Rows.codeChecksSpec.vars false wargs.toList 8=some ([.agg [.nil,.nil],.agg [.nil,.nil]],[],places):=
  ⟨[],by kernel_rfl⟩
set_option maxRecDepth 100000 in
theorem liftedUpto(os:Os)(started:os.Started)(H:Type)(enc:TypeId×Value→H)(F:Stop.Interp) :
    ReturnsInHanded {} Tryz.checked os 3 .any ((Rows.OpenSpec.upto Rows.codeChecksSpec).preRow enc Tryz.prog Tryz.f3 Rows.codeChecksUptoRow.domain false Rows.codeChecksUptoRow.laid) (((Rows.OpenSpec.upto Rows.codeChecksSpec).at F).post enc Tryz.prog Tryz.f3 false true false false):=by
  obtain⟨places,hx⟩:=reads os enc
  refine returnsInHanded_of_row (C:=Tryz.checked) (s:=Rows.OpenSpec.upto Rows.codeChecksSpec) ownZ started (by kernel_rfl) Tryz.func3
    (witness_row_at (enc:=enc) (C:=Tryz.checked) false (q41 os) wargs rfl (by kernel_rfl) (by kernel_rfl) (by kernel_rfl)
      (OpenSpec.preRow_of_cond 8 hx (by kernel_rfl) (fun k hk=>by cases hk;kernel_rfl) (by kernel_rfl) (z4E os wargs))) ?_
  intro W base args ds gs before hval hW _ hcond _ hL _ _
  exact contract H enc W base args ds gs before hval hW (hcond _ rfl) hL
theorem saidUpto:Rows.CodeChecksUptoSaid:=
  OpenClaim.holds_of_cond 3 Tryz.f3 rfl rfl rfl rfl rfl rfl rfl ⟨rfl,rfl,rfl,rfl,rfl⟩ rfl rfl rfl rfl rfl (by kernel_rfl) Tryz.func3 (by kernel_rfl)
    (of_decide_eq_true (by kernel_rfl)) (by unfold Func.isWrapper;first|(rw[if_pos (by decide +kernel)];kernel_rfl)|(rw[if_neg (by decide +kernel)];exact⟨rfl,rfl⟩))
    (fun os started H enc _ F=>by rw[OpenClaim.pre_eq_preRow];exact liftedUpto os started H enc F)
theorem plain(f:FuncId)(fn:Func)(hf:Tryz.pinned.checked.prog.funcNamed "sloth/slothlaw17.CodeChecks" = some f) (hfn:Tryz.pinned.checked.prog.funcs[f]? = some fn) :
    true=Tryz.pinned.checked.prog.looks []∧∀(j:Nat) t,fn.params[j]? = some t→Tryz.pinned.checked.prog.wantsStandIn t=false:=by
  obtain rfl:f=3:=Option.some.inj ((show Tryz.prog.funcNamed "sloth/slothlaw17.CodeChecks" = some 3 by kernel_rfl).symm.trans hf) |>.symm
  obtain rfl:fn=Tryz.f3:=(Option.some.inj (Tryz.func3.symm.trans hfn)).symm
  refine⟨by kernel_rfl,fun j t ht=>?_⟩
  rw[Tryz.params3] at ht
  have h25:Tryz.prog.wantsStandIn 25=false:=by kernel_rfl
  match j,ht with
  |0,ht=>simp at ht;subst ht;exact h25
  |1,ht=>simp at ht;subst ht;exact h25
  |j+2,ht=>simp at ht
theorem cardUpto:Rows.CodeChecksUptoCardSaid:=
  Claim7.holds_tied_plain_at .later [] _ _ _ _ saidUpto (fun _ h=>by cases h) (by kernel_rfl) (fun _ h=>by cases h) codeChecksUpto_row_tie rfl ⟨rfl,rfl⟩ (by kernel_rfl) rfl plain (by kernel_rfl)
#print axioms cardUpto
end Go.Proofs.YtjpnaaebfdnccaaGreatDoor.codeChecks
end
