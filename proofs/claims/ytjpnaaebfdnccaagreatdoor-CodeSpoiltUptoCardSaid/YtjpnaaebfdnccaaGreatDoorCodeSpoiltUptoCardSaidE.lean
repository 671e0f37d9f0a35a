/-
  Parts of the proof: The program's Load: numbers. Pieces that overlap over a heap of any size. The program's Load: a table in memory of its own, shapes. The program's Load: a table in memory of its own, loops. The program's Load: a table in memory of its own, globals. The program's Load: a table in memory of its own, what comes of it. What Load reads is a good table. The document's bytes of codes: a table. Package code's bytes: a name, an instruction. Package code's bytes: a table. Package code's bytes: a table, its loops and the whole. What Bytes writes, Load reads: the plain law. Functions that defer one closure which stops a panic. The closures that code.Read and code.Load defer: they stop a reader's panic. code.Bytes evaluated. slothlaw17.awake: Check, Print, Read, Bytes, Load of the table of id. The program's Load. The sum tells one turned byte; what is read of a longer text. CodeBytes: what comes out is written over. CodeBytes evaluated: its last part. CodeSpoilt evaluated. CodeBytes evaluated: grown bytes. CodeBytes evaluated: its middle part. CodeBytes evaluated. slothlaw17.awake: Load, and the whole. code.number, reach, stacked, forms. What is known of the functions that CodeEnds runs through, put together. What is known of the functions that CodeChecks runs through, put together. CodeBytes: what is known, put together; the law. CodeSpoilt: what is known, put together; the law. What a row hands in reads as plain data. The arguments of a row, as values of the machine. What a row hands in reads as plain data, no part of it longer than a bound. A table that is handed in at p8, as a list of shapes and of globals; bools handed in. Conditions: none.
-/
import Derived.Test.YtjpnaaebfdnccaaGreatDoorCodeSpoiltUptoCardSaidD
import Derived.Test.YtjpnaaebfdnccaaGreatDoorChecked
import Derived.Deep.Slices
import Derived.DataReads
import Derived.KernelRfl
import Derived.Test.YtjpnaaebfdnccaaGreatDoorRows
set_option linter.unusedVariables false
set_option linter.unusedSimpArgs false

section
namespace Go.Vm
set_option maxRecDepth 20000
open Go.Proofs
theorem z3x {α:Type} (H k c) (l:List α) (e:α→List D) (lo mx:V) (c1 k1) (p:Int) (h0:0≤p) (h1:p≤l.length):q5i H false false true false k (.d c (.sl k (l.map e))) lo (.d c1 (.int k1 p)) mx=some (.d c (.sl k ((l.take p.toNat).map e))):=by
 simp [q5i,V.isStr,q89,q5n,h0,h1,List.map_take]
theorem z2t {α:Type} (H k c) (l:List α) (e:α→List D) (hi mx:V) (c0 k0) (o:Int) (h0:0≤o) (h1:o≤l.length):q5i H false true false false k (.d c (.sl k (l.map e))) (.d c0 (.int k0 o)) hi mx=some (.d c (.sl k ((l.drop o.toNat).map e))):=by
 have:List.take (l.length - o.toNat) (List.drop o.toNat (l.map e))=List.drop o.toNat (l.map e):=List.take_of_length_le (by simp)
 simp [q5i,V.isStr,q89,q5n,h0,h1,this]
theorem z3C (H:List (Nat×Blk)) (c:Bool) (l:Bs):z5R H (.d c (.sl 1 (l.map eU)))=some (.str l):=by
 have:z5R H (.d c (.sl 1 (l.map eU)))=b2sD (.sl 1 (l.map eU)):=rfl
 rw [this]
 simp only [b2sD,q7M,Option.map_some]
def LB (l:Bs):Blk:=.mix 1 [[.d false (.sl 1 (l.map eU))]]
def brk:V:=.iface 95 (.agg [])
theorem z5L (K:Cx) (x:UInt8) (l:Bs) (hl:l.length≤8388608):q0U K f126 [.ptr 0 0 0] [LB (x :: l)]=some (.d false (.int .u8 (x.toNat:Int)),[LB l],[]):=by
 have hn:nth (x :: l) (0:Int)=x:=rfl
 have hd:List.drop 1 (x :: l)=l:=rfl
 have hl2:((x :: l).length:Int)=(l.length:Int)+1:=by simp
 simp only [LB]
 generalize hm:(x :: l)=m at *
 simp (disch:=first|decide|omega|(simp only [LN];first|done|omega)) only [SV,SW,f126,hl2,Nat.reduceBEq,eU,hn,z2t,Int.reduceToNat,hd,lose,q0C,q0d]
theorem z3p (K:Cx):q4a (exec K f126.body (startS [.ptr 0 0 0] [LB []]))=some brk:=by
 simp only [LB,List.map_nil,brk]
 simp (disch:=first|decide|omega|(simp only [LN];first|done|omega)) only [SV,SW,f126,q0a,q0i,q1l,q0B,q0l,q0m,q2f,z2p,q45,q43,q0M,lose,Nat.reduceBEq,q0q,q2D,q01,q0v,q02,q0r,q0K,q0f]
def q4V:Nat→Nat→Nat→Bs→Option (Nat×Bs)
 | 0,_,_,_=>none
 | _+1,_,_,[]=>none
 | f+1,j,n,x :: l=>if (j=9∧1 < x.toNat)∨(0 < j∧x.toNat=0) then none else if x.toNat < 128 then some (n+x.toNat % 128 * 128 ^ j,l) else q4V f (j+1) (n+x.toNat % 128 * 128 ^ j) l
def numT (l:Bs):Option (Nat×Bs):=q4V 10 0 0 l
theorem j5a (x:UInt8):bits .and .u8 (x.toNat:Int) 127=((x.toNat % 128:Nat):Int):=by
 have h:∀ y:BitVec 8,(y &&& 127#8).toNat=y.toNat % 128:=by decide
 show IntKind.u8.wrap (((BitVec.ofInt 8 (x.toNat:Int) &&& 127#8).toNat:Nat):Int)=_
 rw [h,z03,BitVec.toNat_ofInt]
 have:=x.toNat_lt
 omega
theorem or64 {n m:Nat} (hn:n < 2 ^ 64) (hm:m < 2 ^ 64):bits .or .u64 (n:Int) ↑m=((n ||| m:Nat):Int):=by
 show IntKind.u64.wrap (((BitVec.ofInt 64 (n:Int) ||| BitVec.ofInt 64 (m:Int)).toNat:Nat):Int)=_
 rw [BitVec.toNat_or,BitVec.toNat_ofInt,BitVec.toNat_ofInt]
 have h1:((n:Int) % ((2 ^ 64:Nat):Int)).toNat=n:=by omega
 have h2:((m:Int) % ((2 ^ 64:Nat):Int)).toNat=m:=by omega
 rw [h1,h2,q57]
 have:=Nat.or_lt_two_pow hn hm
 omega
theorem j1o (j:Nat):128 ^ j=2 ^ (7 * j):=by rw [show (128:Nat)=2 ^ 7 from rfl,← Nat.pow_mul]
theorem j3O {n a j:Nat} (hn:n < 128 ^ j):n ||| (a * 128 ^ j)=n+a * 128 ^ j:=by
 rw [j1o] at *
 have:=Nat.two_pow_add_eq_or_of_lt hn a
 rw [Nat.or_comm,Nat.mul_comm a,← this,Nat.add_comm]
theorem shl7 {a j:Nat} (c c':Bool) (hj:j≤9) (ha:a < 128) (h9:j=9→a≤1):evSh true (.d c (.int .u64 (a:Int))) (.d c' (.int .i64 ((7 * j:Nat):Int)))=some (.int .u64 ((a * 128 ^ j:Nat):Int)):=by
 have hb:min ((7 * j:Nat):Int).toNat IntKind.u64.bits=7 * j:=by
  show min ((7 * j:Nat):Int).toNat 64=7 * j
  omega
 simp only [evSh]
 rw [if_pos (by omega),hb,if_pos trivial,q57]
 have e:(a:Int) * 2 ^ (7 * j)=((a * 128 ^ j:Nat):Int):=by rw [j1o];push_cast;rfl
 rw [e]
 have lt:a * 128 ^ j < 18446744073709551616:=by
  have:j=0∨j=1∨j=2∨j=3∨j=4∨j=5∨j=6∨j=7∨j=8∨j=9:=by omega
  rcases this with rfl | rfl | rfl | rfl | rfl | rfl | rfl | rfl | rfl | rfl <;> first | omega | (have:=h9 rfl;omega)
 have:((a * 128 ^ j:Nat):Int) % 18446744073709551616=((a * 128 ^ j:Nat):Int):=by omega
 rw [this]
theorem j1n {j:Nat} (hj:j≤9):128 ^ j≤9223372036854775808:=by
 have:128 ^ j≤128 ^ 9:=Nat.pow_le_pow_right (by omega) hj
 omega
structure EP {A:Type} (K:Cx) (f:FuncId) (p:Bs→Option (A×Bs)) (v:A→V):Prop where
 ok:∀ (l:Bs) (a:A) (r:Bs),l.length≤8388608→p l=some (a,r)→K.eff f [.ptr 0 0 0] [LB l]=some (v a,[LB r],[])
 no:∀ l:Bs,l.length≤8388608→p l=none→K.eff f [.ptr 0 0 0] [LB l]=none
 pan:∀ l:Bs,l.length≤8388608→p l=none→K.pan f [.ptr 0 0 0] [LB l]=some brk
structure RP {A:Type} (K:Cx) (g:Fun) (p:Bs→Option (A×Bs)) (v:A→V):Prop where
 ok:∀ (l:Bs) (a:A) (r:Bs),l.length≤8388608→p l=some (a,r)→q0U K g [.ptr 0 0 0] [LB l]=some (v a,[LB r],[])
 pan:∀ l:Bs,l.length≤8388608→p l=none→q4a (exec K g.body (startS [.ptr 0 0 0] [LB l]))=some brk
def z1f:Bs→Option (UInt8×Bs)
 | []=>none
 | x :: l=>some (x,l)
def z5a (x:UInt8):V:=.d false (.int .u8 (x.toNat:Int))
def vU (n:Nat):V:=.d false (.int .u64 (n:Int))
def vI (n:Nat):V:=.d false (.int .i64 (n:Int))
def vZ (n:Int):V:=.d false (.int .i64 n)
def vStr (s:Bs):V:=.d false (.str s)
def vIns (x:Instr):V:=.agg [.d false (.int .i64 x.op),.d false (.int .i64 x.a),.d false (.int .i64 x.b)]
theorem j3I (K:Cx):RP K f126 z1f z5a:=by
 refine ⟨fun l x r hl h=>?_,fun l hl h=>?_⟩
 ·cases l with
  | nil=>cases h
  | cons y l=>
   simp only [z1f,Option.some.injEq,Prod.mk.injEq] at h
   obtain ⟨rfl,rfl⟩:=h
   exact z5L K y l (by simp only [List.length_cons] at hl;omega)
 ·cases l with
  | nil=>exact z3p K
  | cons y l=>cases h
def z0G (n j:Nat) (l:Bs):S:=⟨[(0,.ptr 0 0 0),(2,.d false (.int .u64 0)),(3,.d false (.int .u64 n)),(4,.d false (.int .i64 ((7 * j:Nat):Int)))],[(0,LB l)],1,[]⟩
set_option maxHeartbeats 1000000 in
theorem z2a (K:Cx) (h:EP K 126 z1f z5a):∀ (f j n:Nat) (l:Bs),f+j=10→n < 128 ^ j→l.length≤8388608→
  match q4V f j n l with
  | some (m,r)=>lp K 1 [0,2,3,4] f113_L0 (z0G n j l)=some (.ret,⟨[(2,.d false (.int .u64 m))],[(0,LB r)],1,[]⟩)
  | none=>q4a (lp K 1 [0,2,3,4] f113_L0 (z0G n j l))=some brk∨∃ l',lp K 1 [0,2,3,4] f113_L0 (z0G n j l)=some (.exit 0,⟨[(2,.d false (.int .u64 0))],[(0,LB l')],1,[]⟩):=by
 intro f
 induction f with
 | zero=>
  intro j n l hj hn hl
  obtain rfl:j=10:=by omega
  refine .inr ⟨l,?_⟩
  unfold z0G
  rw [q1O f113_L0.eq_1]
  simp only [LB]
  simp (disch:=first|decide|omega|(simp only [LN];first|done|omega)) only [SV,SW,Nat.reduceMul,Nat.reduceBEq,q0C]
 | succ f ih=>
  intro j n l hj hn hl
  have hj9:j≤9:=by omega
  obtain ⟨q,hq⟩:∃ q:Int,q=((7 * j:Nat):Int):=⟨_,rfl⟩
  cases l with
  | nil=>
   simp only [q4V]
   left
   unfold z0G
   rw [← hq]
   have e1:=h.no [] hl rfl
   have e2:=h.pan [] hl rfl
   simp only [LB,List.map_nil,brk] at e1 e2 ⊢
   rw [q1O f113_L0.eq_1]
   simp (disch:=first|decide|omega|(simp only [LN];first|done|omega)) only [SV,SW,q0a,q0i,q1l,q0B,Nat.reduceBEq,q0l,q0m,q0g,q0z,q0o,dimL,q0V,q0M,lose,V.forget,V.drop1,V.ref0,q0q,e2,e1,q02,q01,q0v,q0r,q0K,q2m,z0z,q0f]
  | cons x l=>
   simp only [List.length_cons] at hl
   have hx:=x.toNat_lt
   have ho:=h.ok (x :: l) x l (by simpa using hl) rfl
   clear h
   simp only [z5a] at ho
   by_cases hc:(j=9∧1 < x.toNat)∨(0 < j∧x.toNat=0)
   ·simp only [q4V,if_pos hc]
    left
    unfold z0G
    rw [← hq]
    clear ih
    simp only [LB,List.map_cons,brk] at ho ⊢
    rw [q1O f113_L0.eq_1]
    by_cases h9:j=9
    ·by_cases h1:1 < x.toNat
     ·clear hc
      simp (disch:=first|decide|omega|(simp only [LN];first|done|omega)) only [SV,SW,q0a,q0i,q1l,q0B,Nat.reduceBEq,q0l,q0m,q0g,q0z,q0o,dimL,q0V,q0M,lose,V.forget,V.drop1,V.ref0,q0q,ho,Nat.reduceSub,q07,q2f,z2p,q45,q43,q2D,q01,q0v,q02,q0r,q0K,q2m,z0z,q0f]
     ·have h0:x.toNat=0:=by omega
      clear hc
      simp (disch:=first|decide|omega|(simp only [LN];first|done|omega)) only [SV,SW,q0a,q0i,q1l,q0B,Nat.reduceBEq,q0l,q0m,q0g,q0z,q0o,dimL,q0V,q0M,lose,V.forget,V.drop1,V.ref0,q0q,ho,Nat.reduceSub,q07,q2f,z2p,q45,q43,q2D,q01,q0v,q02,q0r,q0K,q2m,z0z,q0f]
    ·obtain ⟨h1,h0⟩:0 < j∧x.toNat=0:=by omega
     clear hc
     simp (disch:=first|decide|omega|(simp only [LN];first|done|omega)) only [SV,SW,q0a,q0i,q1l,q0B,Nat.reduceBEq,q0l,q0m,q0g,q0z,q0o,dimL,q0V,q0M,lose,V.forget,V.drop1,V.ref0,q0q,ho,Nat.reduceSub,q07,q2f,z2p,q45,q43,q2D,q01,q0v,q02,q0r,q0K,q2m,z0z,q0f]
   ·have a1:=j5a x
    have a2:=w64u (n:=x.toNat % 128) (by omega)
    have a3:=shl7 false false (a:=x.toNat % 128) (j:=j) hj9 (by omega) (by omega)
    have hp:=j1n hj9
    have hml:x.toNat % 128 * 128 ^ j < 2 ^ 64:=by
     by_cases h9:j=9
     ·subst h9
      have:x.toNat % 128≤1:=by omega
      have:=Nat.mul_le_mul_right (128 ^ 9) this
      omega
     ·have:128 ^ j≤128 ^ 8:=Nat.pow_le_pow_right (by omega) (by omega)
      have:=Nat.mul_le_mul (show x.toNat % 128≤127 by omega) this
      omega
    have a4:=or64 (n:=n) (m:=x.toNat % 128 * 128 ^ j) (by omega) hml
    rw [j3O hn] at a4
    have a5:q+7=((7 * (j+1):Nat):Int):=by omega
    rw [← hq] at a3
    have hsum:n+x.toNat % 128 * 128 ^ j < 128 ^ (j+1):=by
     have:=Nat.mul_le_mul_right (128 ^ j) (show x.toNat % 128≤127 by omega)
     rw [Nat.pow_succ]
     omega
    have ih:=ih (j+1) (n+x.toNat % 128 * 128 ^ j) l (by omega) hsum (by omega)
    unfold z0G at ih ⊢
    rw [← hq]
    rw [← a5] at ih
    have spec:q4V (f+1) j n (x :: l)=if x.toNat < 128 then some (n+x.toNat % 128 * 128 ^ j,l) else q4V f (j+1) (n+x.toNat % 128 * 128 ^ j) l:=by simp only [q4V,if_neg hc]
    generalize x.toNat % 128 * 128 ^ j=m at *
    have d1:j=9→¬ 1 < x.toNat:=fun h h'=>hc (.inl ⟨h,h'⟩)
    have d2:0 < j→x.toNat≠0:=fun h h'=>hc (.inr ⟨h,h'⟩)
    by_cases h128:x.toNat < 128
    ·rw [spec,if_pos h128]
     clear ih hc spec
     simp only [LB,List.map_cons] at ho ⊢
     rw [q1O f113_L0.eq_1]
     by_cases h9:j=9
     ·have d1:=d1 h9
      have d2:=d2 (by omega)
      simp (disch:=first|decide|omega|(simp only [LN];first|done|omega)) only [SV,SW,Nat.reduceBEq,dimL,ho,q0q,Nat.reduceSub,lose,e_sh,a1,q0D,a2,a3,a4,q0C]
     ·by_cases h0:0 < j
      ·have d2:=d2 h0
       clear d1
       simp (disch:=first|decide|omega|(simp only [LN];first|done|omega)) only [SV,SW,Nat.reduceBEq,dimL,ho,q0q,Nat.reduceSub,lose,e_sh,a1,q0D,a2,a3,a4,q0C]
      ·clear d1 d2
       simp (disch:=first|decide|omega|(simp only [LN];first|done|omega)) only [SV,SW,Nat.reduceBEq,dimL,ho,q0q,Nat.reduceSub,lose,e_sh,a1,q0D,a2,a3,a4,q0C]
    ·rw [spec,if_neg h128]
     have step:lp K 1 [0,2,3,4] f113_L0 ⟨[(0,.ptr 0 0 0),(2,.d false (.int .u64 0)),(3,.d false (.int .u64 n)),(4,.d false (.int .i64 q))],[(0,LB (x :: l))],1,[]⟩ =
       lp K 1 [0,2,3,4] f113_L0 ⟨[(0,.ptr 0 0 0),(2,.d false (.int .u64 0)),(3,.d false (.int .u64 (n+m:Nat))),(4,.d false (.int .i64 (q+7)))],[(0,LB l)],1,[]⟩:=by
      clear ih hc spec
      simp only [LB,List.map_cons] at ho ⊢
      rw [q1O (K:=K) (s:=⟨[(0,.ptr 0 0 0),(2,.d false (.int .u64 0)),(3,.d false (.int .u64 n)),(4,.d false (.int .i64 q))],_,1,[]⟩) f113_L0.eq_1]
      by_cases h9:j=9
      ·have d1:=d1 h9
       omega
      ·by_cases h0:0 < j
       ·have d2:=d2 h0
        clear d1
        simp (disch:=first|decide|omega|(simp only [LN];first|done|omega)) only [SV,SW,Nat.reduceBEq,dimL,ho,q0q,Nat.reduceSub,lose,e_sh,a1,q0D,a2,a3,a4,q0C]
       ·clear d1 d2
        simp (disch:=first|decide|omega|(simp only [LN];first|done|omega)) only [SV,SW,Nat.reduceBEq,dimL,ho,q0q,Nat.reduceSub,lose,e_sh,a1,q0D,a2,a3,a4,q0C]
     rw [step]
     exact ih
theorem r_num (K:Cx) (h:EP K 126 z1f z5a):RP K f113 numT vU:=by
 refine ⟨fun l m r hl e=>?_,fun l hl e=>?_⟩
 ·have e0:=z2a K h 10 0 0 l rfl (by simp) hl
  unfold numT at e
  rw [e] at e0
  simp only [z0G,Nat.mul_zero,Int.natCast_zero] at e0
  simp only [vU,LB] at e0 ⊢
  simp (disch:=first|decide|omega|(simp only [LN];first|done|omega)) only [SV,SW,f113,Nat.reduceBEq,q0C,e0,q0d]
 ·have e0:=z2a K h 10 0 0 l rfl (by simp) hl
  unfold numT at e
  rw [e] at e0
  simp only [z0G,Nat.mul_zero,Int.natCast_zero] at e0
  simp only [LB,brk] at e0 ⊢
  rcases e0 with e0 | ⟨l',e0⟩
  ·obtain ⟨s,e0⟩:=q2K e0
   simp (disch:=first|decide|omega|(simp only [LN];first|done|omega)) only [SV,SW,f113,q0a,q0i,q1l,q0B,q0l,Nat.reduceBEq,q0C,e0,q2m,q0K,q0f]
  ·simp (disch:=first|decide|omega|(simp only [LN];first|done|omega)) only [SV,SW,f113,q0a,q0i,q1l,q0B,q0l,Nat.reduceBEq,q0C,e0,q0m,q2f,z2p,q45,q43,q0M,lose,q0q,q2D,q01,q0v,q02,q0r,q0f]
theorem z2b:∀ (f j n:Nat) (l:Bs) (m:Nat) (r:Bs),q4V f j n l=some (m,r)→r.length < l.length
 | 0,_,_,_,_,_,h=>by cases h
 | _+1,_,_,[],_,_,h=>by cases h
 | f+1,j,n,x :: l,m,r,h=>by
  simp only [q4V] at h
  split at h
  ·cases h
  ·split at h
   ·simp only [Option.some.injEq,Prod.mk.injEq] at h
    obtain ⟨_,rfl⟩:=h
    simp
   ·have:=z2b f _ _ l m r h
    simp only [List.length_cons];omega
theorem z4o:∀ (f j n:Nat) (l:Bs) (m:Nat) (r:Bs),f+j=10→n < 128 ^ j→q4V f j n l=some (m,r)→m < 2 ^ 64
 | 0,_,_,_,_,_,_,_,h=>by cases h
 | _+1,_,_,[],_,_,_,_,h=>by cases h
 | f+1,j,n,x :: l,m,r,hj,hn,h=>by
  simp only [q4V] at h
  split at h
  ·cases h
  ·rename_i hc
   have hx:=x.toNat_lt
   have hp:=j1n (j:=j) (by omega)
   have hsum:n+x.toNat % 128 * 128 ^ j < 128 ^ (j+1):=by
    have:=Nat.mul_le_mul_right (128 ^ j) (show x.toNat % 128≤127 by omega)
    rw [Nat.pow_succ]
    omega
   split at h
   ·simp only [Option.some.injEq,Prod.mk.injEq] at h
    obtain ⟨rfl,_⟩:=h
    by_cases h9:j=9
    ·subst h9
     have:x.toNat % 128≤1:=by omega
     have:=Nat.mul_le_mul_right (128 ^ 9) this
     omega
    ·have:128 ^ (j+1)≤128 ^ 9:=Nat.pow_le_pow_right (by omega) (by omega)
     omega
   ·exact z4o f (j+1) _ l m r (by omega) hsum h
theorem z30 {l:Bs} {m:Nat} {r:Bs} (h:numT l=some (m,r)):r.length < l.length:=z2b 10 0 0 l m r h
theorem z7z {l:Bs} {m:Nat} {r:Bs} (h:numT l=some (m,r)):m < 2 ^ 64:=z4o 10 0 0 l m r rfl (by simp) h
def q0h (l:Bs):Option (Nat×Bs):=match numT l with
 | some (n,r)=>if 9223372036854775807 < n then none else some (n,r)
 | none=>none
theorem j0c (K:Cx) (h:EP K 113 numT vU):RP K f103 q0h vI:=by
 refine ⟨fun l m r hl e=>?_,fun l hl e=>?_⟩
 ·unfold q0h at e
  cases e0:numT l with
  | none=>simp [e0] at e
  | some q=>
   obtain ⟨n,r'⟩:=q
   simp only [e0] at e
   split at e
   ·cases e
   ·rename_i hn
    simp only [Option.some.injEq,Prod.mk.injEq] at e
    obtain ⟨rfl,rfl⟩:=e
    have e1:=h.ok l n r' hl e0
    simp only [vU,vI,LB] at e1 ⊢
    simp (disch:=first|decide|omega|(simp only [LN];first|done|omega)) only [SV,SW,f103,dimL,e1,q0q,Nat.reduceSub,lose,Nat.reduceBEq,q0D,q0C,q0d]
 ·unfold q0h at e
  cases e0:numT l with
  | none=>
   have e1:=h.no l hl e0
   have e2:=h.pan l hl e0
   simp only [LB,brk] at e1 e2 ⊢
   simp (disch:=first|decide|omega|(simp only [LN];first|done|omega)) only [SV,SW,f103,q0a,q0i,q1l,q0B,q0l,q0m,q0g,q0z,q0o,dimL,q0V,q0M,lose,V.forget,V.drop1,V.ref0,q0q,e2,e1,q02,q01,q0v,q0r,q0K,q0f]
  | some q=>
   obtain ⟨n,r'⟩:=q
   simp only [e0] at e
   split at e
   ·rename_i hn
    have e1:=h.ok l n r' hl e0
    simp only [vU,LB,brk] at e1 ⊢
    simp (disch:=first|decide|omega|(simp only [LN];first|done|omega)) only [SV,SW,f103,q0a,q0i,q1l,q0B,q0l,q0m,q0g,q0z,q0o,dimL,q0V,q0M,lose,V.forget,V.drop1,V.ref0,q0q,e1,Nat.reduceSub,q07,q2f,z2p,q45,q43,Nat.reduceBEq,q2D,q01,q0v,q02,q0r,q0K,q0f]
   ·cases e
theorem q05 {l:Bs} {m:Nat} {r:Bs} (h:q0h l=some (m,r)):r.length < l.length∧m≤9223372036854775807:=by
 unfold q0h at h
 cases e0:numT l with
 | none=>simp [e0] at h
 | some q=>
  obtain ⟨n,r'⟩:=q
  simp only [e0] at h
  split at h
  ·cases h
  ·simp only [Option.some.injEq,Prod.mk.injEq] at h
   obtain ⟨rfl,rfl⟩:=h
   exact ⟨z30 e0,by omega⟩
def q0Q (l:Bs):Option (Nat×Bs):=match q0h l with
 | some (n,r)=>if r.length < n then none else some (n,r)
 | none=>none
theorem j2d (K:Cx) (h:EP K 103 q0h vI):RP K f101 q0Q vI:=by
 refine ⟨fun l m r hl e=>?_,fun l hl e=>?_⟩
 ·unfold q0Q at e
  cases e0:q0h l with
  | none=>simp [e0] at e
  | some q=>
   obtain ⟨n,r'⟩:=q
   simp only [e0] at e
   split at e
   ·cases e
   ·rename_i hn
    simp only [Option.some.injEq,Prod.mk.injEq] at e
    obtain ⟨rfl,rfl⟩:=e
    have e1:=h.ok l n r' hl e0
    simp only [vI,LB] at e1 ⊢
    simp (disch:=first|decide|omega|(simp only [LN];first|done|omega)) only [SV,SW,f101,dimL,e1,q0q,Nat.reduceSub,lose,Nat.reduceBEq,q0C,q0d]
 ·unfold q0Q at e
  cases e0:q0h l with
  | none=>
   have e1:=h.no l hl e0
   have e2:=h.pan l hl e0
   simp only [LB,brk] at e1 e2 ⊢
   simp (disch:=first|decide|omega|(simp only [LN];first|done|omega)) only [SV,SW,f101,q0a,q0i,q1l,q0B,q0l,q0m,q0g,q0z,q0o,dimL,q0V,q0M,lose,V.forget,V.drop1,V.ref0,q0q,e2,e1,q02,q01,q0v,q0r,q0K,q0f]
  | some q=>
   obtain ⟨n,r'⟩:=q
   simp only [e0] at e
   split at e
   ·rename_i hn
    have e1:=h.ok l n r' hl e0
    simp only [vI,LB,brk] at e1 ⊢
    simp (disch:=first|decide|omega|(simp only [LN];first|done|omega)) only [SV,SW,f101,q0a,q0i,q1l,q0B,q0l,q0m,q0g,q0z,q0o,dimL,q0V,q0M,lose,V.forget,V.drop1,V.ref0,q0q,e1,Nat.reduceSub,q07,Nat.reduceBEq,q2f,z2p,q45,q43,q2D,q01,q0v,q02,q0r,q0K,q0f]
   ·cases e
theorem q1m {l:Bs} {m:Nat} {r:Bs} (h:q0Q l=some (m,r)):r.length < l.length∧m≤r.length:=by
 unfold q0Q at h
 cases e0:q0h l with
 | none=>simp [e0] at h
 | some q=>
  obtain ⟨n,r'⟩:=q
  simp only [e0] at h
  split at h
  ·cases h
  ·simp only [Option.some.injEq,Prod.mk.injEq] at h
   obtain ⟨rfl,rfl⟩:=h
   exact ⟨(q05 e0).1,by omega⟩
def q2e (l:Bs):Option (Bs×Bs):=match q0Q l with
 | some (n,r)=>some (r.take n,r.drop n)
 | none=>none
theorem j3J (K:Cx) (h:EP K 101 q0Q vI):RP K f102 q2e vStr:=by
 refine ⟨fun l m r hl e=>?_,fun l hl e=>?_⟩
 ·unfold q2e at e
  cases e0:q0Q l with
  | none=>simp [e0] at e
  | some q=>
   obtain ⟨n,r'⟩:=q
   simp only [e0,Option.some.injEq,Prod.mk.injEq] at e
   obtain ⟨rfl,rfl⟩:=e
   have e1:=h.ok l n r' hl e0
   have hb:=(q1m e0)
   simp only [vI,vStr,LB] at e1 ⊢
   clear h e0
   simp (disch:=first|decide|omega|(simp only [LN];first|done|omega)) only [SV,SW,f102,dimL,e1,q0q,Nat.reduceSub,lose,Nat.reduceBEq,z3u,z3x,z3C,z2t,q0C,q0d]
 ·unfold q2e at e
  cases e0:q0Q l with
  | none=>
   have e1:=h.no l hl e0
   have e2:=h.pan l hl e0
   simp only [LB,brk] at e1 e2 ⊢
   simp (disch:=first|decide|omega|(simp only [LN];first|done|omega)) only [SV,SW,f102,q0a,q0i,q1l,q0B,q0l,q0m,q0g,q0z,q0o,dimL,q0V,q0M,lose,V.forget,V.drop1,V.ref0,q0q,e2,e1,q02,q01,q0v,q0r,q0K,q0f]
  | some q=>simp [e0] at e
theorem q4s {l:Bs} {s:Bs} {r:Bs} (h:q2e l=some (s,r)):r.length < l.length:=by
 unfold q2e at h
 cases e0:q0Q l with
 | none=>simp [e0] at h
 | some q=>
  obtain ⟨n,r'⟩:=q
  simp only [e0,Option.some.injEq,Prod.mk.injEq] at h
  obtain ⟨_,rfl⟩:=h
  have:=q1m e0
  simp only [List.length_drop];omega
def q8k (n:Nat):Int:=if n % 2=1 then -((n / 2:Nat):Int) - 1 else ((n / 2:Nat):Int)
def q2r (l:Bs):Option (Int×Bs):=match numT l with
 | some (n,r)=>some (q8k n,r)
 | none=>none
theorem and1 {n:Nat} (h:n < 2 ^ 64):bits .and .u64 (n:Int) 1=((n % 2:Nat):Int):=by
 show IntKind.u64.wrap (((BitVec.ofInt 64 (n:Int) &&& BitVec.ofInt 64 1).toNat:Nat):Int)=_
 rw [BitVec.toNat_and,BitVec.toNat_ofInt,BitVec.toNat_ofInt]
 have h1:((n:Int) % ((2 ^ 64:Nat):Int)).toNat=n:=by omega
 have h2:((1:Int) % ((2 ^ 64:Nat):Int)).toNat=1:=by decide
 rw [h1,h2,q57,Nat.and_one_is_mod]
 omega
theorem shr1 (c c':Bool) {k':IntKind} (n:Nat):evSh false (.d c (.int .u64 (n:Int))) (.d c' (.int k' 1))=some (.int .u64 ((n / 2:Nat):Int)):=rfl
theorem j0b (K:Cx) (h:EP K 113 numT vU):RP K f114 q2r vZ:=by
 refine ⟨fun l m r hl e=>?_,fun l hl e=>?_⟩
 ·unfold q2r at e
  cases e0:numT l with
  | none=>simp [e0] at e
  | some q=>
   obtain ⟨n,r'⟩:=q
   simp only [e0,Option.some.injEq,Prod.mk.injEq] at e
   obtain ⟨rfl,rfl⟩:=e
   have e1:=h.ok l n r' hl e0
   have hlt:=z7z e0
   have a1:=and1 hlt
   have hn2:n / 2≤9223372036854775807:=by omega
   simp only [vU,vZ,LB,q8k] at e1 ⊢
   clear h e0
   by_cases h2:n % 2=1
   ·rw [if_pos h2]
    rw [h2] at a1
    have a3:(0:Int) - ((n / 2:Nat):Int) - 1=-((n / 2:Nat):Int) - 1:=by omega
    simp (disch:=first|decide|omega|(simp only [LN];first|done|omega)) only [SV,SW,f114,dimL,e1,q0q,Nat.reduceSub,lose,a1,e_sh,Nat.reduceBEq,shr1,q0D,evUn,a3,q0C,q0d]
   ·rw [if_neg h2]
    rw [show n % 2=0 by omega] at a1
    simp (disch:=first|decide|omega|(simp only [LN];first|done|omega)) only [SV,SW,f114,dimL,e1,q0q,Nat.reduceSub,lose,a1,e_sh,Nat.reduceBEq,shr1,q0D,q0C,q0d]
 ·unfold q2r at e
  cases e0:numT l with
  | none=>
   have e1:=h.no l hl e0
   have e2:=h.pan l hl e0
   simp only [LB,brk] at e1 e2 ⊢
   simp (disch:=first|decide|omega|(simp only [LN];first|done|omega)) only [SV,SW,f114,q0a,q0i,q1l,q0B,q0l,q0m,q0g,q0z,q0o,dimL,q0V,q0M,lose,V.forget,V.drop1,V.ref0,q0q,e2,e1,q02,q01,q0v,q0r,q0K,q0f]
  | some q=>simp [e0] at e
theorem q8q {l:Bs} {s:Int} {r:Bs} (h:q2r l=some (s,r)):r.length < l.length:=by
 unfold q2r at h
 cases e0:numT l with
 | none=>simp [e0] at h
 | some q=>
  obtain ⟨n,r'⟩:=q
  simp only [e0,Option.some.injEq,Prod.mk.injEq] at h
  obtain ⟨_,rfl⟩:=h
  exact z30 e0
def argA (k:Int) (l:Bs):Option (Int×Bs):=if k == 3 then q2r l else if k != 0 then (match q0h l with | some (n,r)=>some ((n:Int),r) | none=>none) else some (0,l)
def argB (k:Int) (l:Bs):Option (Int×Bs):=if k != 0 then (match q0h l with | some (n,r)=>some ((n:Int),r) | none=>none) else some (0,l)
def q1C (l:Bs):Option (Instr×Bs):=match q0h l with
 | some (op,r)=>if 1≤op∧op < 18 then (match argA (q0S op).2.1 r with
  | some (a,r1)=>match argB (q0S op).2.2 r1 with
   | some (b,r2)=>some (⟨op,a,b⟩,r2)
   | none=>none
  | none=>none) else none
 | none=>none
theorem j1f {k:Int} {l:Bs} {a:Int} {r:Bs} (h:argA k l=some (a,r)):r.length≤l.length:=by
 unfold argA at h
 split at h
 ·have:=q8q h;omega
 ·split at h
  ·cases e:q0h l with
   | none=>simp [e] at h
   | some q=>
    obtain ⟨n,r'⟩:=q
    simp only [e,Option.some.injEq,Prod.mk.injEq] at h
    obtain ⟨_,rfl⟩:=h
    have:=q05 e;omega
  ·simp only [Option.some.injEq,Prod.mk.injEq] at h
   obtain ⟨_,rfl⟩:=h
   omega
theorem j1d {k:Int} {l:Bs} {a:Int} {r:Bs} (h:argB k l=some (a,r)):r.length≤l.length:=by
 unfold argB at h
 split at h
 ·cases e:q0h l with
  | none=>simp [e] at h
  | some q=>
   obtain ⟨n,r'⟩:=q
   simp only [e,Option.some.injEq,Prod.mk.injEq] at h
   obtain ⟨_,rfl⟩:=h
   have:=q05 e;omega
 ·simp only [Option.some.injEq,Prod.mk.injEq] at h
  obtain ⟨_,rfl⟩:=h
  omega
theorem q90 {l:Bs} {x:Instr} {r:Bs} (h:q1C l=some (x,r)):r.length < l.length:=by
 unfold q1C at h
 cases e:q0h l with
 | none=>simp [e] at h
 | some q=>
  obtain ⟨n,r'⟩:=q
  simp only [e] at h
  split at h
  ·cases ea:argA (q0S n).2.1 r' with
   | none=>simp [ea] at h
   | some q=>
    obtain ⟨a,r1⟩:=q
    simp only [ea] at h
    cases eb:argB (q0S n).2.2 r1 with
    | none=>simp [eb] at h
    | some q=>
     obtain ⟨b,r2⟩:=q
     simp only [eb,Option.some.injEq,Prod.mk.injEq] at h
     obtain ⟨_,rfl⟩:=h
     have:=q05 e
     have:=j1f ea
     have:=j1d eb
     omega
  ·cases h
set_option maxHeartbeats 2000000 in
theorem j2c (K:Cx) (h79:K40 K) (h103:EP K 103 q0h vI) (h114:EP K 114 q2r vZ):RP K f104 q1C vIns:=by
 have key:∀ l:Bs,l.length≤8388608→match q1C l with
   | some (x,r)=>q0U K f104 [.ptr 0 0 0] [LB l]=some (vIns x,[LB r],[])
   | none=>q4a (exec K f104.body (startS [.ptr 0 0 0] [LB l]))=some brk:=by
  intro l hl
  unfold q1C
  cases e:q0h l with
  | none=>
   have e1:=h103.no l hl e
   have e2:=h103.pan l hl e
   simp only [LB,brk] at e1 e2 ⊢
   simp (disch:=first|decide|omega|(simp only [LN];first|done|omega)) only [SV,SW,f104,q0a,q0i,q1l,Nat.reduceBEq,Nat.reduceAdd,q0B,q0l,q0m,q0g,q0z,q0o,dimL,q0V,q0M,lose,V.forget,V.drop1,V.ref0,reduceCtorEq,q0q,e2,e1,q02,q01,q0v,q0r,q0K,q0f]
  | some q=>
   obtain ⟨op,r⟩:=q
   have e1:=h103.ok l op r hl e
   have hr:=q05 e
   have c79:=h79 (op:Int)
   unfold z49 at c79
   simp only
   by_cases hop:1≤op∧op < 18
   ·rw [if_pos hop]
    have hb:decide (1≤(op:Int)∧(op:Int) < 18)=true:=by simp;omega
    rw [hb] at c79
    generalize q0S (op:Int)=f at *
    obtain ⟨fs,fa,fb⟩:=f
    simp only at *
    unfold argA
    by_cases h3:fa=3
    ·subst h3
     rw [if_pos (by decide)]
     cases ea:q2r r with
     | none=>
      have e3:=h114.no r (by omega) ea
      have e4:=h114.pan r (by omega) ea
      simp only [vI,LB,brk] at e1 e3 e4 ⊢
      simp (disch:=first|decide|omega|(simp only [LN];first|done|omega)) only [SV,SW,f104,q0a,q0i,q1l,Nat.reduceBEq,Nat.reduceAdd,q0B,q0l,q0m,q0g,q0z,q0o,dimL,q0V,q0M,lose,V.forget,V.drop1,V.ref0,reduceCtorEq,q0q,e1,Nat.reduceSub,q07,q0b,c79,evUn,e4,e3,q02,q01,q0v,q0r,q2m,q0K,q0f]
     | some q=>
      obtain ⟨a,r1⟩:=q
      have e3:=h114.ok r a r1 (by omega) ea
      have hr1:=q8q ea
      simp only
      unfold argB
      by_cases hb0:fb=0
      ·subst hb0
       rw [if_neg (by decide)]
       simp only [vI,vZ,vIns,LB] at e1 e3 ⊢
       clear h103 h114 h79 hop
       simp (disch:=first|decide|omega|(simp only [LN];first|done|omega)) only [SV,SW,f104,Nat.reduceAdd,Nat.reduceBEq,dimL,e1,q0q,Nat.reduceSub,lose,q0b,c79,evUn,e3,q0C,reduceCtorEq,q0d]
      ·have hb':(fb != 0)=true:=by simpa using hb0
       rw [if_pos hb']
       cases eb:q0h r1 with
       | none=>
        have e5:=h103.no r1 (by omega) eb
        have e6:=h103.pan r1 (by omega) eb
        simp only [vI,vZ,LB,brk] at e1 e3 e5 e6 ⊢
        clear h103 h114 h79 hop
        simp (disch:=first|decide|omega|(simp only [LN];first|done|omega)) only [SV,SW,f104,q0a,q0i,q1l,Nat.reduceBEq,Nat.reduceAdd,q0B,q0l,q0m,q0g,q0z,q0o,dimL,q0V,q0M,lose,V.forget,V.drop1,V.ref0,reduceCtorEq,q0q,e1,Nat.reduceSub,q07,q0b,c79,evUn,e3,hb',e6,e5,q02,q01,q0v,q0r,q0K,q0f]
       | some q=>
        obtain ⟨b,r2⟩:=q
        have e5:=h103.ok r1 b r2 (by omega) eb
        simp only [vI,vZ,vIns,LB] at e1 e3 e5 ⊢
        clear h103 h114 h79 hop
        simp (disch:=first|decide|omega|(simp only [LN];first|done|omega)) only [SV,SW,f104,Nat.reduceAdd,Nat.reduceBEq,dimL,e1,q0q,Nat.reduceSub,lose,q0b,c79,evUn,e3,hb',e5,q0C,reduceCtorEq,q0d]
    ·have h3':(fa == 3)=false:=by simpa using h3
     rw [if_neg (by rw [h3'];decide)]
     by_cases ha0:fa=0
     ·subst ha0
      rw [if_neg (by decide)]
      simp only
      unfold argB
      by_cases hb0:fb=0
      ·subst hb0
       rw [if_neg (by decide)]
       simp only [vI,vIns,LB] at e1 ⊢
       clear h103 h114 h79 hop
       simp (disch:=first|decide|omega|(simp only [LN];first|done|omega)) only [SV,SW,f104,Nat.reduceAdd,Nat.reduceBEq,dimL,e1,q0q,Nat.reduceSub,lose,q0b,c79,evUn,q0C,reduceCtorEq,q0d]
      ·have hb':(fb != 0)=true:=by simpa using hb0
       rw [if_pos hb']
       cases eb:q0h r with
       | none=>
        have e5:=h103.no r (by omega) eb
        have e6:=h103.pan r (by omega) eb
        simp only [vI,LB,brk] at e1 e5 e6 ⊢
        clear h103 h114 h79 hop
        simp (disch:=first|decide|omega|(simp only [LN];first|done|omega)) only [SV,SW,f104,q0a,q0i,q1l,Nat.reduceBEq,Nat.reduceAdd,q0B,q0l,q0m,q0g,q0z,q0o,dimL,q0V,q0M,lose,V.forget,V.drop1,V.ref0,reduceCtorEq,q0q,e1,Nat.reduceSub,q07,q0b,c79,evUn,hb',e6,e5,q02,q01,q0v,q0r,q0K,q0f]
       | some q=>
        obtain ⟨b,r2⟩:=q
        have e5:=h103.ok r b r2 (by omega) eb
        simp only [vI,vIns,LB] at e1 e5 ⊢
        clear h103 h114 h79 hop
        simp (disch:=first|decide|omega|(simp only [LN];first|done|omega)) only [SV,SW,f104,Nat.reduceAdd,Nat.reduceBEq,dimL,e1,q0q,Nat.reduceSub,lose,q0b,c79,evUn,hb',e5,q0C,reduceCtorEq,q0d]
     ·have ha':(fa != 0)=true:=by simpa using ha0
      rw [if_pos ha']
      cases ea:q0h r with
      | none=>
       have e3:=h103.no r (by omega) ea
       have e4:=h103.pan r (by omega) ea
       simp only [vI,LB,brk] at e1 e3 e4 ⊢
       clear h103 h114 h79 hop
       simp (disch:=first|decide|omega|(simp only [LN];first|done|omega)) only [SV,SW,f104,q0a,q0i,q1l,Nat.reduceBEq,Nat.reduceAdd,q0B,q0l,q0m,q0g,q0z,q0o,dimL,q0V,q0M,lose,V.forget,V.drop1,V.ref0,reduceCtorEq,q0q,e1,Nat.reduceSub,q07,q0b,c79,evUn,h3',ha',e4,e3,q02,q01,q0v,q0r,q2m,q0K,q0f]
      | some q=>
       obtain ⟨a,r1⟩:=q
       have e3:=h103.ok r a r1 (by omega) ea
       have hr1:=q05 ea
       simp only
       unfold argB
       by_cases hb0:fb=0
       ·subst hb0
        rw [if_neg (by decide)]
        simp only [vI,vIns,LB] at e1 e3 ⊢
        clear h103 h114 h79 hop
        simp (disch:=first|decide|omega|(simp only [LN];first|done|omega)) only [SV,SW,f104,Nat.reduceAdd,Nat.reduceBEq,dimL,e1,q0q,Nat.reduceSub,lose,q0b,c79,evUn,h3',ha',e3,q0C,reduceCtorEq,q0d]
       ·have hb':(fb != 0)=true:=by simpa using hb0
        rw [if_pos hb']
        cases eb:q0h r1 with
        | none=>
         have e5:=h103.no r1 (by omega) eb
         have e6:=h103.pan r1 (by omega) eb
         simp only [vI,LB,brk] at e1 e3 e5 e6 ⊢
         clear h103 h114 h79 hop
         simp (disch:=first|decide|omega|(simp only [LN];first|done|omega)) only [SV,SW,f104,q0a,q0i,q1l,Nat.reduceBEq,Nat.reduceAdd,q0B,q0l,q0m,q0g,q0z,q0o,dimL,q0V,q0M,lose,V.forget,V.drop1,V.ref0,reduceCtorEq,q0q,e1,Nat.reduceSub,q07,q0b,c79,evUn,h3',ha',e3,hb',e6,e5,q02,q01,q0v,q0r,q0K,q0f]
        | some q=>
         obtain ⟨b,r2⟩:=q
         have e5:=h103.ok r1 b r2 (by omega) eb
         simp only [vI,vIns,LB] at e1 e3 e5 ⊢
         clear h103 h114 h79 hop
         simp (disch:=first|decide|omega|(simp only [LN];first|done|omega)) only [SV,SW,f104,Nat.reduceAdd,Nat.reduceBEq,dimL,e1,q0q,Nat.reduceSub,lose,q0b,c79,evUn,h3',ha',e3,hb',e5,q0C,reduceCtorEq,q0d]
   ·rw [if_neg hop]
    have hb:decide (1≤(op:Int)∧(op:Int) < 18)=false:=by simp;omega
    rw [hb] at c79
    simp only [vI,LB,brk] at e1 ⊢
    clear h103 h114 h79 hop
    simp (disch:=first|decide|omega|(simp only [LN];first|done|omega)) only [SV,SW,f104,q0a,q0i,q1l,Nat.reduceBEq,Nat.reduceAdd,q0B,q0l,q0m,q0g,q0z,q0o,dimL,q0V,q0M,lose,V.forget,V.drop1,V.ref0,reduceCtorEq,q0q,e1,Nat.reduceSub,q07,q0b,c79,evUn,q2f,z2p,q45,q43,q2D,q01,q0v,q02,q0r,q2m,q0K,q0f]
 refine ⟨fun l x r hl e=>?_,fun l hl e=>?_⟩
 ·have:=key l hl
  rw [e] at this
  exact this
 ·have:=key l hl
  rw [e] at this
  exact this
end Go.Vm
end

section
namespace Go.Vm
theorem q3X(f:Nat→Option Blk):∀(H:List (Nat×Blk))(b:Nat)(x k:Blk),look H b=some x→f b=some k→look (H.filterMap fun p=>(f p.1).map fun q=>(p.1,q)) b=some k
 |[],b,x,k,h,_=>by simp [look] at h
 |(c,y) :: H,b,x,k,h,hf=>by
  simp only[List.filterMap_cons]
  simp only[look] at h
  split at h
  ·rename_i e
   subst e
   rw[hf]
   simp only[Option.map_some,look,if_true]
  ·rename_i e
   cases hc:f c with
   |none=>exact q3X f H b x k h hf
   |some q=>
    simp only[Option.map_some,look]
    rw[if_neg e]
    exact q3X f H b x k h hf
theorem q7e{C:Cx}{s s1:S}{g:Seg}{mv:List Nat}{H1:List (Nat×Blk)}{d:Option Nat}{f f':FuncId}{args:E}{vs ws:List V}{news:List Blk}{b:Nat}{blk:Blk}(hg:g.wr=some (d,.calle f args))(hm:q2A C s g.mks=some (s1,news))(ha:ev C s1 args=some (.tup vs))(hc:q1I f vs=some (f',ws))
  (hb:look s.heap b=some blk) (hr:(q03 (addBlks s.heap s.nx news) (refN (addBlks s.heap s.nx news)+64) [] (refsL ws)).contains b=false) (hmv:mv=[]∨blk.still=true):look (q36 C s g mv H1) b=some blk:=by
 unfold q36
 rw[hg,hm]
 simp only[ha,hc]
 refine q3X (fun b=>z1V s.heap H1 (!(q03 (addBlks s.heap s.nx news) (refN (addBlks s.heap s.nx news)+64) [] (refsL ws)).contains b&&(decide (mv=[])||q4X s.heap b)) b) _ _ _ _ hb ?_
 simp only[z1V]
 rw[if_pos]
 ·exact hb
 ·rw[hr]
  simp only[Bool.not_false,Bool.true_and,Bool.or_eq_true,decide_eq_true_eq]
  refine hmv.imp id fun h=>?_
  simp only[q4X,hb,h]
theorem q5Y{K:Cx}{s s':S}{g:Seg}(h:q5h K s g=some s')(hl:z1T K s (q1V s s') s'.heap g):q04 K s g=some s':=by
 unfold q04
 rw[h]
 exact if_pos hl
theorem q66(s:S)(ρ:List (Nat×V))(H:List (Nat×Blk))(nx:Nat):q1V s ⟨ρ,H,nx,s.mv⟩=[]:=by simp [q1V]
end Go.Vm
end

section
namespace Go.Vm
set_option maxRecDepth 20000
open Go.Proofs
def rowB(q:Nat×Glob):List V:=[.d false (.str q.2.name),.d false (.int .i64 q.2.arity),.bsl q.1 0 q.2.code.length]
def gR(gs:Gl):Blk:=if gs=[] then .dat true 3 [] else .mix 3 (gs.map rowB)
structure TI(H:List (Nat×Blk))(nx:Nat)(l:Bs)(sh:List Shape)(gs:Gl):Prop where
 h0:look H 0=some (LB l)
 h1:look H 1=some (.mix 2 [[.fs true 2 [],.fs true 3 []]])
 h2:look H 2=some (.mix 2 [[.bsl 3 0 sh.length,.bsl 4 0 gs.length]])
 h3:look H 3=some (.dat true 2 (sh.map q0k))
 h4:look H 4=some (gR gs)
 hc:∀ q∈gs,look H q.1=some (.dat true 3 (q.2.code.map q0J))∧4<q.1∧q.1<nx
 nd:(gs.map Prod.fst).Nodup
 nx:4<nx
theorem q41{H:List (Nat×Blk)}{l:Bs}(h:look H 0=some (LB l))(n:Nat):q03 H (n+64) [] [0]=[0]:=by
 rw[show n+64=(n+63)+1 by omega,q0x]
 simp only[List.contains_nil,q0s,h,q0O,List.nil_append]
 rw[show(LB l).refs=[] from rfl,q1u]
def q1i:Nat→Bs→Option (List Shape×Bs)
 |0,l=>some ([],l)
 |k+1,l=>match q2e l with
  |some (n,r)=>match q0h r with
   |some (f,r1)=>match q1i k r1 with
    |some (ss,r2)=>some (⟨n,f⟩ :: ss,r2)
    |none=>none
   |none=>none
  |none=>none
def t0A:Seg:=⟨[],[],[(.ld 1 false (.fa 0 (.sl 3)))],some (some 12,.calle 102 (.cons (.sl 0) .nil)),[0,2,3,6,7],5,[[],[0],[],[2],[],[2,3,4],[4,5,2,3],[3,2,5,4,6],[6,4,5,2,3,7,0,1],[8,7,6,5,4,3,2,1,0],[0,1,2,3,4,5,6,7,8,9]],[],[(.fa 0 (.sl 3)),(.ld 1 false (.fa 0 (.sl 3))),(.sl 0)]⟩
def t0B:Seg:=⟨[],[],[(.ld 1 false (.fa 0 (.sl 3)))],some (some 14,.calle 103 (.cons (.sl 0) .nil)),[0,2,3,6,7,12],1,[],[],[(.fa 0 (.sl 3)),(.ld 1 false (.fa 0 (.sl 3)))]⟩
def t0C:Seg:=⟨[(16,.lits 2 (.cons (.set 1 1 (.sl 14) (.set 0 1 (.sl 12) (.agg (.cons (.str []) (.cons (.int .i64 0) .nil))))) .nil))],[],[],some (some 17,.app 2 (.ld 1 false (.fa 0 (.sl 3))) (.sl 16)),[0,2,3,6,7],3,[],[],[]⟩
def t0D:Seg:=⟨[],[],[],some (none,.store 1 (.fa 0 (.sl 3)) (.sl 17)),[0,2,3,6,7],2,[],[],[]⟩
theorem q6z:q99=.seq (.reg [⟨[],[(8,(.bin .lss (.sl 7) (.sl 6)))],[],none,[0,2,3,6,7],1,[],[],[]⟩]) (.seq (.cond (.sl 8) .skip (.seq (.keep [0,2,3]) (.exit 0))) (.seq (.block 1 (.regl [t0A,t0B,t0C,t0D])) (.reg [⟨[],[(7,(.bin .add (.sl 7) (.int .i64 1)))],[],none,[0,2,3,6],2,[],[],[]⟩]))):=rfl
def ρ0(n i:Nat):List (Nat×V):=[(0,.ptr 0 0 0),(2,.ptr 1 0 0),(3,.ptr 2 0 0),(6,.d false (.int .i64 n)),(7,.d false (.int .i64 i))]
theorem j3y(K:Cx)(h:EP K 102 q2e vStr){H:List (Nat×Blk)}{nx:Nat}{l:Bs}{sh:List Shape}{gs:Gl}(hT:TI H nx l sh gs)(mv:List Nat)(n i:Nat)(hl:l.length≤8388608){s:Bs}{r:Bs}(e:q2e l=some (s,r)) :
  q04 K ⟨(8,.d false (.bool true)) :: ρ0 n i,H,nx,mv⟩ t0A=some ⟨(12,.d false (.str s)) :: ρ0 n i,put H 0 (LB r),nx,mv⟩:=by
 have e1:=h.ok l s r hl e
 obtain⟨h0,h1,h2,h3,h4,hc,nd,hnx⟩:=hT
 have hr:=q41 h0
 refine q5Y ?_ ?_
 ·unfold t0A ρ0
  rw[q2T]
  simp only[vStr] at e1
  simp only[LB] at e1 h0 hr ⊢
  simp(disch:=first|decide|omega|(simp only[LN];first|done|omega)) only[SV,SW,Nat.reduceBEq,h2,hr,h0,dimL,e1,q0q,Nat.reduceSub,lose]
 ·rw[q66]
  have hL:look (q36 K ⟨(8,.d false (.bool true)) :: ρ0 n i,H,nx,mv⟩ t0A [] (put H 0 (LB r))) 2=_:=q7e (s1:=⟨(8,.d false (.bool true)) :: ρ0 n i,H,nx,mv⟩) (news:=[]) (vs:=[.ptr 0 0 0]) rfl rfl rfl rfl h2 (by
   show(q03 H (refN H+64) [] [0]).contains 2=false
   rw[hr];rfl) (.inl rfl)
  intro x hx s1 news hm
  obtain⟨rfl,rfl⟩:s1=⟨(8,.d false (.bool true)) :: ρ0 n i,H,nx,mv⟩∧news=[]:=by
   simp only[t0A,q2A,Option.some.injEq,Prod.mk.injEq] at hm
   exact⟨hm.1.symm,hm.2.symm⟩
  simp only[t0A,List.mem_cons,List.not_mem_nil,or_false] at hx
  unfold ρ0 at hL ⊢
  rcases hx with rfl|rfl|rfl
  ·exact⟨.ptr 2 0 0,by simp(disch:=first|decide|omega|(simp only[LN];first|done|omega)) only[SV,SW,q3r,q35,Nat.reduceBEq],by simp(disch:=first|decide|omega|(simp only[LN];first|done|omega)) only[SV,SW,Nat.reduceBEq],rfl⟩
  ·exact⟨.bsl 3 0 sh.length,by simp(disch:=first|decide|omega|(simp only[LN];first|done|omega)) only[SV,SW,q3r,q35,Nat.reduceBEq,hL],by simp(disch:=first|decide|omega|(simp only[LN];first|done|omega)) only[SV,SW,Nat.reduceBEq,h2],rfl⟩
  ·exact⟨.ptr 0 0 0,by simp(disch:=first|decide|omega|(simp only[LN];first|done|omega)) only[SV,SW,q3r,q35,Nat.reduceBEq],by simp(disch:=first|decide|omega|(simp only[LN];first|done|omega)) only[SV,SW,Nat.reduceBEq],rfl⟩
theorem j3x(K:Cx)(h:EP K 102 q2e vStr){H:List (Nat×Blk)}{nx:Nat}{l:Bs}{sh:List Shape}{gs:Gl}(hT:TI H nx l sh gs)(mv:List Nat)(n i:Nat)(hl:l.length≤8388608)(e:q2e l=none) :
  q04 K ⟨(8,.d false (.bool true)) :: ρ0 n i,H,nx,mv⟩ t0A=none∧q4a (q4T K ⟨(8,.d false (.bool true)) :: ρ0 n i,H,nx,mv⟩ t0A)=some brk:=by
 have e1:=h.no l hl e
 have e2:=h.pan l hl e
 obtain⟨h0,h1,h2,h3,h4,hc,nd,hnx⟩:=hT
 have hr:=q41 h0
 refine⟨q7o ?_,?_⟩
 ·unfold t0A ρ0
  rw[q2T]
  simp only[LB] at e1 h0 hr ⊢
  simp(disch:=first|decide|omega|(simp only[LN];first|done|omega)) only[SV,SW,Nat.reduceBEq,h2,hr,h0,dimL,e1,q02,q01]
 ·unfold t0A ρ0
  simp only[LB,brk] at e1 e2 h0 hr ⊢
  simp(disch:=first|decide|omega|(simp only[LN];first|done|omega)) only[SV,SW,q0i,q1l,q0B,Nat.reduceBEq,h2,q0m,q0g,q0z,hr,q0o,h0,dimL,q0V,q0M,lose,V.forget,V.drop1,V.ref0,reduceCtorEq,q0q,e2,q0f]
theorem j3w(K:Cx)(h:EP K 103 q0h vI){H:List (Nat×Blk)}{nx:Nat}{l:Bs}{sh:List Shape}{gs:Gl}(hT:TI H nx l sh gs)(mv:List Nat)(n i:Nat)(hl:l.length≤8388608)(s:Bs){m:Nat}{r:Bs}(e:q0h l=some (m,r)) :
  q04 K ⟨(12,.d false (.str s)) :: ρ0 n i,H,nx,mv⟩ t0B=some ⟨(14,.d false (.int .i64 m)) :: (ρ0 n i++[(12,.d false (.str s))]),put H 0 (LB r),nx,mv⟩:=by
 have e1:=h.ok l m r hl e
 obtain⟨h0,h1,h2,h3,h4,hc,nd,hnx⟩:=hT
 have hr:=q41 h0
 refine q5Y ?_ ?_
 ·unfold t0B ρ0
  rw[q2T]
  simp only[vI] at e1
  simp only[LB] at e1 h0 hr ⊢
  simp(disch:=first|decide|omega|(simp only[LN];first|done|omega)) only[SV,SW,Nat.reduceBEq,h2,hr,h0,dimL,e1,q0q,Nat.reduceSub,lose]
 ·rw[q66]
  have hL:look (q36 K ⟨(12,.d false (.str s)) :: ρ0 n i,H,nx,mv⟩ t0B [] (put H 0 (LB r))) 2=_:=q7e (s1:=⟨(12,.d false (.str s)) :: ρ0 n i,H,nx,mv⟩) (news:=[]) (vs:=[.ptr 0 0 0]) rfl rfl rfl rfl h2 (by
   show(q03 H (refN H+64) [] [0]).contains 2=false
   rw[hr];rfl) (.inl rfl)
  intro x hx s1 news hm
  obtain⟨rfl,rfl⟩:s1=⟨(12,.d false (.str s)) :: ρ0 n i,H,nx,mv⟩∧news=[]:=by
   simp only[t0B,q2A,Option.some.injEq,Prod.mk.injEq] at hm
   exact⟨hm.1.symm,hm.2.symm⟩
  simp only[t0B,List.mem_cons,List.not_mem_nil,or_false] at hx
  unfold ρ0 at hL ⊢
  rcases hx with rfl|rfl
  ·exact⟨.ptr 2 0 0,by simp(disch:=first|decide|omega|(simp only[LN];first|done|omega)) only[SV,SW,q3r,q35,Nat.reduceBEq],by simp(disch:=first|decide|omega|(simp only[LN];first|done|omega)) only[SV,SW,Nat.reduceBEq],rfl⟩
  ·exact⟨.bsl 3 0 sh.length,by simp(disch:=first|decide|omega|(simp only[LN];first|done|omega)) only[SV,SW,q3r,q35,Nat.reduceBEq,hL],by simp(disch:=first|decide|omega|(simp only[LN];first|done|omega)) only[SV,SW,Nat.reduceBEq,h2],rfl⟩
theorem j3v(K:Cx)(h:EP K 103 q0h vI){H:List (Nat×Blk)}{nx:Nat}{l:Bs}{sh:List Shape}{gs:Gl}(hT:TI H nx l sh gs)(mv:List Nat)(n i:Nat)(hl:l.length≤8388608)(s:Bs)(e:q0h l=none) :
  q04 K ⟨(12,.d false (.str s)) :: ρ0 n i,H,nx,mv⟩ t0B=none∧q4a (q4T K ⟨(12,.d false (.str s)) :: ρ0 n i,H,nx,mv⟩ t0B)=some brk:=by
 have e1:=h.no l hl e
 have e2:=h.pan l hl e
 obtain⟨h0,h1,h2,h3,h4,hc,nd,hnx⟩:=hT
 have hr:=q41 h0
 refine⟨q7o ?_,?_⟩
 ·unfold t0B ρ0
  rw[q2T]
  simp only[LB] at e1 h0 hr ⊢
  simp(disch:=first|decide|omega|(simp only[LN];first|done|omega)) only[SV,SW,Nat.reduceBEq,h2,hr,h0,dimL,e1,q02,q01]
 ·unfold t0B ρ0
  simp only[LB,brk] at e1 e2 h0 hr ⊢
  simp(disch:=first|decide|omega|(simp only[LN];first|done|omega)) only[SV,SW,q0i,q1l,q0B,Nat.reduceBEq,h2,q0m,q0g,q0z,hr,q0o,h0,dimL,q0V,q0M,lose,V.forget,V.drop1,V.ref0,reduceCtorEq,q0q,e2,q0f]
theorem q8y{p:Nat→Bool}:∀ {gs:Gl},(∀ q∈gs,p q.1=false)→(gs.map rowB).map (·.map (V.drop1 p))=gs.map rowB
 |[],_=>rfl
 |q :: r,h=>by
  simp only[List.map_cons,q8y (fun x hx=>h x (List.mem_cons_of_mem _ hx)),rowB]
  simp only[List.map_nil,V.drop1,h q (by simp),Bool.false_eq_true,if_false]
theorem q8Y{p:Nat→Bool}{gs:Gl}(h:∀ q∈gs,p q.1=false):(gR gs).forget p=gR gs:=by
 unfold gR
 split
 ·rfl
 ·simp only[Blk.forget,q8y h]
theorem j2F(l:List Shape)(s:Bs)(m:Int):l.map q0k++[[D.str s,.int .i64 m]]=(l++[Shape.mk s m]).map q0k:=by simp [q0k]
theorem j16(K:Cx){H:List (Nat×Blk)}{nx:Nat}{l:Bs}{sh:List Shape}{gs:Gl}(hT:TI H nx l sh gs)(mv:List Nat)(n i:Nat)(s r:Bs) :
  q5O K ⟨(8,.d false (.bool true)) :: ρ0 n i,H,nx,mv⟩ ⟨(12,.d false (.str s)) :: ρ0 n i,put H 0 (LB r),nx,mv⟩ t0A=true:=by
 obtain⟨h0,h1,h2,h3,h4,hc,nd,hnx⟩:=hT
 unfold q5O t0A ρ0
 simp(disch:=first|decide|omega|(simp only[LN];first|done|omega)) only[SV,SW,List.isEmpty_cons,q7S,Nat.reduceBEq,q0c,h2]
theorem j15(K:Cx){H:List (Nat×Blk)}{nx:Nat}{l:Bs}{sh:List Shape}{gs:Gl}(hT:TI H nx l sh gs)(mv:List Nat)(n i m:Nat)(s r:Bs) :
  q5O K ⟨(12,.d false (.str s)) :: ρ0 n i,H,nx,mv⟩ ⟨(14,.d false (.int .i64 m)) :: (ρ0 n i++[(12,.d false (.str s))]),put H 0 (LB r),nx,mv⟩ t0B=true:=by
 obtain⟨h0,h1,h2,h3,h4,hc,nd,hnx⟩:=hT
 unfold q5O t0B ρ0
 simp(disch:=first|decide|omega|(simp only[LN];first|done|omega)) only[SV,SW,List.isEmpty_cons,q7S,Nat.reduceBEq,q0c,h2]
theorem TI.rest{H:List (Nat×Blk)}{nx:Nat}{l r:Bs}{sh:List Shape}{gs:Gl}(h:TI H nx l sh gs):TI (put H 0 (LB r)) nx r sh gs:=by
 obtain⟨h0,h1,h2,h3,h4,hc,nd,hnx⟩:=h
 refine⟨q0G _ _ _,?_,?_,?_,?_,fun q hq=>?_,nd,hnx⟩
 ·rw[q0c _ _ (by omega)];exact h1
 ·rw[q0c _ _ (by omega)];exact h2
 ·rw[q0c _ _ (by omega)];exact h3
 ·rw[q0c _ _ (by omega)];exact h4
 ·obtain⟨q1,q2,q3⟩:=hc q hq
  rw[q0c _ _ (by omega)];exact⟨q1,q2,q3⟩
set_option maxHeartbeats 1000000 in
theorem j1Z(K:Cx){H:List (Nat×Blk)}{nx:Nat}{l:Bs}{sh:List Shape}{gs:Gl}(hT:TI H nx l sh gs)(mv:List Nat)(n i m:Nat)(s:Bs)(hsl:sh.length≤100000000) :
  ∃ H',q09 K ⟨(14,.d false (.int .i64 m)) :: (ρ0 n i++[(12,.d false (.str s))]),H,nx,mv⟩ [t0C,t0D]=some ⟨ρ0 n i,H',nx+1,3 :: mv⟩∧TI H' (nx+1) l (sh++[Shape.mk s m]) gs:=by
 obtain⟨h0,h1,h2,h3,h4,hc,nd,hnx⟩:=hT
 have hC:q04 K ⟨(14,.d false (.int .i64 m)) :: (ρ0 n i++[(12,.d false (.str s))]),H,nx,mv⟩ t0C =
   some ⟨(17,.bsl 3 0 (sh.length+1)) :: ρ0 n i,forgetH (·== 3) (put ((nx,.dat true 2 [[.str s,.int .i64 m]]) :: H) 3 (.dat true 2 ((sh++[Shape.mk s m]).map q0k))),nx+1,3 :: mv⟩:=by
  unfold t0C ρ0
  simp(disch:=first|decide|omega|(simp only[LN];first|done|omega)) only[SX,SW,q9V,Nat.reduceAdd,mkBlk,h2,h3,j2F,lose,V.forget,V.drop1,V.ref0,reduceCtorEq,Nat.reduceEqDiff]
  trace_state
 have h2':look (forgetH (·== 3) (put ((nx,.dat true 2 [[.str s,.int .i64 m]]) :: H) 3 (.dat true 2 ((sh++[Shape.mk s m]).map q0k)))) 2=some (.mix 2 [[.junk,.bsl 4 0 gs.length]]):=by
  rw[q1J,q0c _ _ (by omega),q3o _ _ (by omega),h2];rfl
 have hD:q04 K ⟨(17,.bsl 3 0 (sh.length+1)) :: ρ0 n i,forgetH (·== 3) (put ((nx,.dat true 2 [[.str s,.int .i64 m]]) :: H) 3 (.dat true 2 ((sh++[Shape.mk s m]).map q0k))),nx+1,3 :: mv⟩ t0D =
   some ⟨ρ0 n i,put (forgetH (·== 3) (put ((nx,.dat true 2 [[.str s,.int .i64 m]]) :: H) 3 (.dat true 2 ((sh++[Shape.mk s m]).map q0k)))) 2 (.mix 2 [[.bsl 3 0 (sh.length+1),.bsl 4 0 gs.length]]),nx+1,3 :: mv⟩:=by
  generalize forgetH (·== 3) (put ((nx,.dat true 2 [[.str s,.int .i64 m]]) :: H) 3 (.dat true 2 ((sh++[Shape.mk s m]).map q0k)))=H1 at *
  unfold t0D ρ0
  simp(disch:=first|decide|omega|(simp only[LN];first|done|omega)) only[SV,SW,Nat.reduceBEq,h2',Nat.reduceAdd,lose]
  trace_state
 refine⟨_,(q1D hC rfl).trans ((q5X _ _ _).trans hD),?_⟩
 have lk:∀ b,b≠2→b≠3→b≠nx→look (put (forgetH (·== 3) (put ((nx,.dat true 2 [[.str s,.int .i64 m]]) :: H) 3 (.dat true 2 ((sh++[Shape.mk s m]).map q0k)))) 2 (.mix 2 [[.bsl 3 0 (sh.length+1),.bsl 4 0 gs.length]])) b=(look H b).map (Blk.forget (·== 3)):=by
  intro b e2 e3 e4
  rw[q0c _ _ (Ne.symm e2),q1J,q0c _ _ (Ne.symm e3),q3o _ _ (Ne.symm e4)]
 refine⟨?_,?_,?_,?_,?_,fun q hq=>?_,nd,by omega⟩
 ·rw[lk 0 (by omega) (by omega) (by omega),h0];rfl
 ·rw[lk 1 (by omega) (by omega) (by omega),h1];rfl
 ·rw[q0G,List.length_append];rfl
 ·rw[q0c _ _ (by omega),q1J,q0G];rfl
 ·rw[lk 4 (by omega) (by omega) (by omega),h4,Option.map_some,q8Y]
  intro q hq
  have:=(hc q hq).2.1
  simp;omega
 ·obtain⟨q1,q2,q3⟩:=hc q hq
  rw[lk q.1 (by omega) (by omega) (by omega),q1]
  exact⟨rfl,q2,by omega⟩
end Go.Vm
end

section
namespace Go.Vm
set_option maxRecDepth 20000
open Go.Proofs
theorem q4C:∀(k:Nat)(l:Bs)(ss:List Shape)(r:Bs),q1i k l=some (ss,r)→r.length+k≤l.length∧ss.length=k
 |0,l,ss,r,h=>by
  simp only[q1i,Option.some.injEq,Prod.mk.injEq] at h
  obtain⟨rfl,rfl⟩:=h
  exact⟨by omega,rfl⟩
 |k+1,l,ss,r,h=>by
  simp only[q1i] at h
  cases e1:q2e l with
  |none=>simp [e1] at h
  |some q=>
   obtain⟨n,r0⟩:=q
   simp only[e1] at h
   cases e2:q0h r0 with
   |none=>simp [e2] at h
   |some q=>
    obtain⟨f,r1⟩:=q
    simp only[e2] at h
    cases e3:q1i k r1 with
    |none=>simp [e3] at h
    |some q=>
     obtain⟨ts,r2⟩:=q
     simp only[e3,Option.some.injEq,Prod.mk.injEq] at h
     obtain⟨rfl,rfl⟩:=h
     have:=q4s e1
     have:=(q05 e2).1
     have:=q4C k r1 ts r2 e3
     exact⟨by omega,by simp;omega⟩
def ρE:List (Nat×V):=[(0,.ptr 0 0 0),(2,.ptr 1 0 0),(3,.ptr 2 0 0)]
theorem z8f(K:Cx)(h102:EP K 102 q2e vStr)(h103:EP K 103 q0h vI)(n:Nat)(hn:n≤8388608):∀(k i:Nat)(H:List (Nat×Blk))(nx:Nat)(l:Bs)(sh:List Shape)(mv:List Nat),TI H nx l sh []→i+k=n→sh.length=i→l.length≤8388608→0∉mv→
  match q1i k l with
  |some (ss,r)=>∃ H' nx' mv',lpk K [0,2,3,6,7] q99 ⟨ρ0 n i,H,nx,mv⟩=some (.exit 0,⟨ρE,H',nx',mv'⟩)∧TI H' nx' r (sh++ss) []∧0∉mv'
  |none=>q4a (lpk K [0,2,3,6,7] q99 ⟨ρ0 n i,H,nx,mv⟩)=some brk:=by
 intro k
 induction k with
 |zero=>
  intro i H nx l sh mv hT hi hs hl hm
  obtain rfl:i=n:=by omega
  simp only[q1i]
  refine⟨H,nx,mv,?_,by rw[List.append_nil];exact hT,hm⟩
  unfold ρ0 ρE
  rw[q4u q6z]
  simp(disch:=first|decide|omega|(simp only[LN];first|done|omega)) only[SV,SW,Nat.reduceBEq,q08,q1Z,reduceCtorEq,Nat.reduceEqDiff,q8N]
 |succ k ih=>
  intro i H nx l sh mv hT hi hs hl hm
  have hlt:i<n:=by omega
  simp only[q1i]
  cases e1:q2e l with
  |none=>
   simp only
   obtain⟨a1,a2⟩:=j3x K h102 hT mv n i hl e1
   obtain⟨s,a2⟩:=q2K a2
   have b1:=q5g K _ _ [t0B,t0C,t0D] a1
   have b2:=(q4F K _ _ [t0B,t0C,t0D] a1).trans a2
   unfold ρ0 at b1 b2 ⊢
   rw[q4u q6z]
   simp(disch:=first|decide|omega|(simp only[LN];first|done|omega)) only[SV,SW,q0a,q0i,q1l,q0B,Nat.reduceBEq,q0l,q5e,b2,b1,q0r,q2m,q0K,q4I,q0f]
  |some q=>
   obtain⟨nm,r0⟩:=q
   simp only
   have l0:=q4s e1
   have hA:=j3y K h102 hT mv n i hl e1
   have sA:=j16 K hT mv n i nm r0
   have hT0:=hT.rest (r:=r0)
   cases e2:q0h r0 with
   |none=>
    simp only
    obtain⟨a1,a2⟩:=j3v K h103 hT0 mv n i (by omega) nm e2
    obtain⟨s,a2⟩:=q2K a2
    have b1:=(q1D (r:=[t0C,t0D]) hA sA).trans (q5g K _ _ [t0C,t0D] a1)
    have b2:=(z0o (r:=[t0B,t0C,t0D]) hA sA).trans ((q4F K _ _ [t0C,t0D] a1).trans a2)
    unfold ρ0 at b1 b2 ⊢
    rw[q4u q6z]
    simp(disch:=first|decide|omega|(simp only[LN];first|done|omega)) only[SV,SW,q0a,q0i,q1l,q0B,Nat.reduceBEq,q0l,q5e,b2,b1,q0r,q2m,q0K,q4I,q0f]
   |some q=>
    obtain⟨f,r1⟩:=q
    simp only
    have l1:=(q05 e2).1
    have hB:=j3w K h103 hT0 mv n i (by omega) nm e2
    have sB:=j15 K hT0 mv n i f nm r1
    obtain⟨H1,hCD,hT1⟩:=j1Z K (hT0.rest (r:=r1)) mv n i f nm (by omega)
    have b1:=(q1D (r:=[t0C,t0D]) hA sA).trans ((q1D (r:=[t0D]) hB sB).trans hCD)
    have ih:=ih (i+1) H1 (nx+1) r1 (sh++[Shape.mk nm f]) (3 :: mv) hT1 (by omega) (by simp;omega) (by omega) (by simp [hm])
    have step:lpk K [0,2,3,6,7] q99 ⟨ρ0 n i,H,nx,mv⟩=lpk K [0,2,3,6,7] q99 ⟨ρ0 n (i+1),H1,nx+1,3 :: mv⟩:=by
     clear ih hCD hA hB sA sB
     unfold ρ0 at b1 ⊢
     rw[q4u (s:=⟨_,H,nx,mv⟩) q6z]
     simp(disch:=first|decide|omega|(simp only[LN];first|done|omega)) only[SV,SW,Nat.reduceBEq,q5e,b1,z0y,q1Z,reduceCtorEq,Nat.reduceEqDiff]
     rfl
    cases e3:q1i k r1 with
    |none=>
     rw[e3] at ih
     rw[step];exact ih
    |some q=>
     obtain⟨ts,r2⟩:=q
     rw[e3] at ih
     simp only at ih ⊢
     obtain⟨H',nx',mv',q1,q2,q3⟩:=ih
     exact⟨H',nx',mv',by rw[step];exact q1,by rw[List.append_assoc] at q2;exact q2,q3⟩
structure TG(H:List (Nat×Blk))(nx:Nat)(gs:Gl)(gb cb:Nat)(nm:Bs)(ar:Int)(cs:List Instr):Prop where
 g:look H gb=some (.mix 3 [[.d false (.str nm),.d false (.int .i64 ar),.bsl cb 0 cs.length]])
 c:look H cb=some (.dat true 3 (cs.map q0J))
 gb4:4<gb∧gb<nx
 cb4:4<cb∧cb<nx
 ne:gb≠cb
 og:∀ q∈gs,q.1≠gb∧q.1≠cb
def q3q:Nat→Bs→Option (List Instr×Bs)
 |0,l=>some ([],l)
 |k+1,l=>match q1C l with
  |some (x,r)=>match q3q k r with
   |some (xs,r2)=>some (x :: xs,r2)
   |none=>none
  |none=>none
theorem q9j:∀(k:Nat)(l:Bs)(ss:List Instr)(r:Bs),q3q k l=some (ss,r)→r.length+k≤l.length∧ss.length=k
 |0,l,ss,r,h=>by
  simp only[q3q,Option.some.injEq,Prod.mk.injEq] at h
  obtain⟨rfl,rfl⟩:=h
  exact⟨by omega,rfl⟩
 |k+1,l,ss,r,h=>by
  simp only[q3q] at h
  cases e1:q1C l with
  |none=>simp [e1] at h
  |some q=>
   obtain⟨x,r0⟩:=q
   simp only[e1] at h
   cases e3:q3q k r0 with
   |none=>simp [e3] at h
   |some q=>
    obtain⟨ts,r2⟩:=q
    simp only[e3,Option.some.injEq,Prod.mk.injEq] at h
    obtain⟨rfl,rfl⟩:=h
    have:=q90 e1
    have:=q9j k r0 ts r2 e3
    exact⟨by omega,by simp;omega⟩
def t1A:Seg:=⟨[],[],[(.ld 1 false (.fa 2 (.sl 4)))],some (some 36,.calle 104 (.cons (.sl 0) .nil)),[0,2,3,4,21,22,30,31],4,[[],[0],[],[2],[2,3],[3,2,4,0,1],[5,4,3,2,1,0],[0,1,2,3,4,5,6]],[],[(.fa 2 (.sl 4)),(.ld 1 false (.fa 2 (.sl 4)))]⟩
def t1B:Seg:=⟨[(37,.lits 3 (.cons (.sl 36) .nil))],[],[],some (some 38,.app 3 (.ld 1 false (.fa 2 (.sl 4))) (.sl 37)),[0,2,3,4,21,22,30,31],2,[],[],[]⟩
def t1C:Seg:=⟨[],[],[],some (none,.store 1 (.fa 2 (.sl 4)) (.sl 38)),[0,2,3,4,21,22,30,31],2,[],[],[]⟩
theorem q82:q98=.seq (.reg [⟨[],[(32,(.bin .lss (.sl 31) (.sl 30)))],[],none,[0,2,3,4,21,22,30,31],1,[],[],[]⟩]) (.seq (.cond (.sl 32) .skip (.seq (.keep [0,2,3,4,21,22]) (.exit 4))) (.seq (.block 5 (.regl [t1A,t1B,t1C])) (.reg [⟨[],[(31,(.bin .add (.sl 31) (.int .i64 1)))],[],none,[0,2,3,4,21,22,30],2,[],[],[]⟩]))):=rfl
def ρ1(gb n i m j:Nat):List (Nat×V):=[(0,.ptr 0 0 0),(2,.ptr 1 0 0),(3,.ptr 2 0 0),(4,.ptr gb 0 0),(21,.d false (.int .i64 n)),(22,.d false (.int .i64 i)),(30,.d false (.int .i64 m)),(31,.d false (.int .i64 j))]
theorem j3u(K:Cx)(h:EP K 104 q1C vIns){H:List (Nat×Blk)}{nx:Nat}{l:Bs}{sh:List Shape}{gs:Gl}(hT:TI H nx l sh gs){gb cb:Nat}{nm:Bs}{ar:Int}{cs:List Instr}(hG:TG H nx gs gb cb nm ar cs)(mv:List Nat)(n i m j:Nat)(hl:l.length≤8388608){x:Instr}{r:Bs}(e:q1C l=some (x,r)) :
  q04 K ⟨(32,.d false (.bool true)) :: ρ1 gb n i m j,H,nx,mv⟩ t1A=some ⟨(36,vIns x) :: ρ1 gb n i m j,put H 0 (LB r),nx,mv⟩:=by
 have e1:=h.ok l x r hl e
 have h0:=hT.h0
 have hg:=hG.g
 have hg4:=hG.gb4
 have hr:=q41 h0
 refine q5Y ?_ ?_
 ·unfold t1A ρ1
  rw[q2T]
  simp only[vIns] at e1 ⊢
  simp only[LB] at e1 h0 hr ⊢
  simp(disch:=first|decide|omega|(simp only[LN];first|done|omega)) only[SV,SW,Nat.reduceBEq,hg,hr,h0,dimL,e1,q0q,Nat.reduceSub,lose]
 ·rw[q66]
  have hL:look (q36 K ⟨(32,.d false (.bool true)) :: ρ1 gb n i m j,H,nx,mv⟩ t1A [] (put H 0 (LB r))) gb=_:=q7e (s1:=⟨(32,.d false (.bool true)) :: ρ1 gb n i m j,H,nx,mv⟩) (news:=[]) (vs:=[.ptr 0 0 0]) rfl rfl rfl rfl hg (by
   show(q03 H (refN H+64) [] [0]).contains gb=false
   rw[hr];simp;omega) (.inl rfl)
  intro x hx s1 news hm
  obtain⟨rfl,rfl⟩:s1=⟨(32,.d false (.bool true)) :: ρ1 gb n i m j,H,nx,mv⟩∧news=[]:=by
   simp only[t1A,q2A,Option.some.injEq,Prod.mk.injEq] at hm
   exact⟨hm.1.symm,hm.2.symm⟩
  simp only[t1A,List.mem_cons,List.not_mem_nil,or_false] at hx
  unfold ρ1 at hL ⊢
  rcases hx with rfl|rfl
  ·exact⟨.ptr gb 0 2,by simp(disch:=first|decide|omega|(simp only[LN];first|done|omega)) only[SV,SW,q3r,q35,Nat.reduceBEq],by simp(disch:=first|decide|omega|(simp only[LN];first|done|omega)) only[SV,SW,Nat.reduceBEq],rfl⟩
  ·exact⟨.bsl cb 0 cs.length,by simp(disch:=first|decide|omega|(simp only[LN];first|done|omega)) only[SV,SW,q3r,q35,Nat.reduceBEq,hL],by simp(disch:=first|decide|omega|(simp only[LN];first|done|omega)) only[SV,SW,Nat.reduceBEq,hg],rfl⟩
theorem j3t(K:Cx)(h:EP K 104 q1C vIns){H:List (Nat×Blk)}{nx:Nat}{l:Bs}{sh:List Shape}{gs:Gl}(hT:TI H nx l sh gs){gb cb:Nat}{nm:Bs}{ar:Int}{cs:List Instr}(hG:TG H nx gs gb cb nm ar cs)(mv:List Nat)(n i m j:Nat)(hl:l.length≤8388608)(e:q1C l=none) :
  q04 K ⟨(32,.d false (.bool true)) :: ρ1 gb n i m j,H,nx,mv⟩ t1A=none∧q4a (q4T K ⟨(32,.d false (.bool true)) :: ρ1 gb n i m j,H,nx,mv⟩ t1A)=some brk:=by
 have e1:=h.no l hl e
 have e2:=h.pan l hl e
 have h0:=hT.h0
 have hg:=hG.g
 have hr:=q41 h0
 refine⟨q7o ?_,?_⟩
 ·unfold t1A ρ1
  rw[q2T]
  simp only[LB] at e1 h0 hr ⊢
  simp(disch:=first|decide|omega|(simp only[LN];first|done|omega)) only[SV,SW,Nat.reduceBEq,hg,hr,h0,dimL,e1,q02,q01]
 ·unfold t1A ρ1
  simp only[LB,brk] at e1 e2 h0 hr ⊢
  simp(disch:=first|decide|omega|(simp only[LN];first|done|omega)) only[SV,SW,q0i,q1l,q0B,Nat.reduceBEq,hg,q0m,q0g,q0z,hr,q0o,h0,dimL,q0V,q0M,lose,V.forget,V.drop1,V.ref0,reduceCtorEq,q0q,e2,q0f]
theorem j14(K:Cx){H:List (Nat×Blk)}{nx:Nat}{gs:Gl}{gb cb:Nat}{nm:Bs}{ar:Int}{cs:List Instr}(hG:TG H nx gs gb cb nm ar cs)(mv:List Nat)(n i m j:Nat)(x:Instr)(r:Bs) :
  q5O K ⟨(32,.d false (.bool true)) :: ρ1 gb n i m j,H,nx,mv⟩ ⟨(36,vIns x) :: ρ1 gb n i m j,put H 0 (LB r),nx,mv⟩ t1A=true:=by
 have hg:=hG.g
 have hg4:=hG.gb4
 have hb0:(0:Nat)≠gb:=by omega
 unfold q5O t1A ρ1 vIns
 simp(disch:=first|decide|omega|(simp only[LN];first|done|omega)) only[SV,SW,List.isEmpty_cons,q7S,Nat.reduceBEq,q0c,hg]
theorem TG.rest{H:List (Nat×Blk)}{nx:Nat}{gs:Gl}{gb cb:Nat}{nm:Bs}{ar:Int}{cs:List Instr}(h:TG H nx gs gb cb nm ar cs)(r:Bs):TG (put H 0 (LB r)) nx gs gb cb nm ar cs:=by
 obtain⟨g,c,g4,c4,ne,og⟩:=h
 exact⟨by rw[q0c _ _ (by omega)];exact g,by rw[q0c _ _ (by omega)];exact c,g4,c4,ne,og⟩
set_option maxHeartbeats 1000000 in
theorem j1Y(K:Cx){H:List (Nat×Blk)}{nx:Nat}{l:Bs}{sh:List Shape}{gs:Gl}(hT:TI H nx l sh gs){gb cb:Nat}{nm:Bs}{ar:Int}{cs:List Instr}(hG:TG H nx gs gb cb nm ar cs)(mv:List Nat)(n i m j:Nat)(x:Instr)(hcl:cs.length≤100000000) :
  ∃ H',q09 K ⟨(36,vIns x) :: ρ1 gb n i m j,H,nx,mv⟩ [t1B,t1C]=some ⟨ρ1 gb n i m j,H',nx+1,cb :: mv⟩∧TI H' (nx+1) l sh gs∧TG H' (nx+1) gs gb cb nm ar (cs++[x]):=by
 obtain⟨g,c,g4,c4,ne,og⟩:=hG
 have hgn:nx≠gb:=by omega
 have hcn:nx≠cb:=by omega
 have hB:q04 K ⟨(36,vIns x) :: ρ1 gb n i m j,H,nx,mv⟩ t1B =
   some ⟨(38,.bsl cb 0 (cs.length+1)) :: ρ1 gb n i m j,forgetH (·== cb) (put ((nx,.dat true 3 [[.int .i64 x.op,.int .i64 x.a,.int .i64 x.b]]) :: H) cb (.dat true 3 ((cs++[x]).map q0J))),nx+1,cb :: mv⟩:=by
  have n1:((0:Nat)=cb)=False:=by simp;omega
  have n2:((1:Nat)=cb)=False:=by simp;omega
  have n3:((2:Nat)=cb)=False:=by simp;omega
  have n4:(gb=cb)=False:=by simp;omega
  unfold t1B ρ1 vIns
  simp(disch:=first|decide|omega|(simp only[LN];first|done|omega)) only[SX,SW,Nat.reduceAdd,mkBlk,q9V,g,c,j0I,j2H,lose,V.forget,V.drop1,V.ref0,n1,n2,n3,n4]
 have g':look (forgetH (·== cb) (put ((nx,.dat true 3 [[.int .i64 x.op,.int .i64 x.a,.int .i64 x.b]]) :: H) cb (.dat true 3 ((cs++[x]).map q0J)))) gb=some (.mix 3 [[.d false (.str nm),.d false (.int .i64 ar),.junk]]):=by
  rw[q1J,q0c _ _ (by omega),q3o _ _ (by omega),g]
  simp [Blk.forget,V.drop1]
 have hC:q04 K ⟨(38,.bsl cb 0 (cs.length+1)) :: ρ1 gb n i m j,forgetH (·== cb) (put ((nx,.dat true 3 [[.int .i64 x.op,.int .i64 x.a,.int .i64 x.b]]) :: H) cb (.dat true 3 ((cs++[x]).map q0J))),nx+1,cb :: mv⟩ t1C =
   some ⟨ρ1 gb n i m j,put (forgetH (·== cb) (put ((nx,.dat true 3 [[.int .i64 x.op,.int .i64 x.a,.int .i64 x.b]]) :: H) cb (.dat true 3 ((cs++[x]).map q0J)))) gb (.mix 3 [[.d false (.str nm),.d false (.int .i64 ar),.bsl cb 0 (cs.length+1)]]),nx+1,cb :: mv⟩:=by
  generalize forgetH (·== cb) (put ((nx,.dat true 3 [[.int .i64 x.op,.int .i64 x.a,.int .i64 x.b]]) :: H) cb (.dat true 3 ((cs++[x]).map q0J)))=H1 at *
  unfold t1C ρ1
  simp(disch:=first|decide|omega|(simp only[LN];first|done|omega)) only[SV,SW,Nat.reduceBEq,g',Nat.reduceAdd,lose]
 refine⟨_,(q1D hB rfl).trans ((q5X _ _ _).trans hC),?_,?_⟩
 ·have lk:∀ b,b≠gb→b≠cb→b≠nx→look (put (forgetH (·== cb) (put ((nx,.dat true 3 [[.int .i64 x.op,.int .i64 x.a,.int .i64 x.b]]) :: H) cb (.dat true 3 ((cs++[x]).map q0J)))) gb (.mix 3 [[.d false (.str nm),.d false (.int .i64 ar),.bsl cb 0 (cs.length+1)]])) b=(look H b).map (Blk.forget (·== cb)):=by
   intro b e2 e3 e4
   rw[q0c _ _ (Ne.symm e2),q1J,q0c _ _ (Ne.symm e3),q3o _ _ (Ne.symm e4)]
  obtain⟨h0,h1,h2,h3,h4,hc,nd,hnx⟩:=hT
  refine⟨?_,?_,?_,?_,?_,fun q hq=>?_,nd,by omega⟩
  ·rw[lk 0 (by omega) (by omega) (by omega),h0];rfl
  ·rw[lk 1 (by omega) (by omega) (by omega),h1];rfl
  ·rw[lk 2 (by omega) (by omega) (by omega),h2]
   simp only[Option.map_some,Blk.forget,List.map_cons,List.map_nil,V.drop1]
   rw[if_neg (by simp;omega),if_neg (by simp;omega)]
  ·rw[lk 3 (by omega) (by omega) (by omega),h3];rfl
  ·rw[lk 4 (by omega) (by omega) (by omega),h4,Option.map_some,q8Y]
   intro q hq
   simpa using(og q hq).2
  ·obtain⟨q1,q2,q3⟩:=hc q hq
   rw[lk q.1 (og q hq).1 (og q hq).2 (by omega),q1]
   exact⟨rfl,q2,by omega⟩
 ·refine⟨by rw[q0G,List.length_append];rfl,?_,by omega,by omega,ne,og⟩
  rw[q0c _ _ ne,q1J,q0G];rfl
end Go.Vm
end

section
namespace Go.Vm
set_option maxRecDepth 20000
open Go.Proofs
def ρ1x(gb n i:Nat):List (Nat×V):=[(0,.ptr 0 0 0),(2,.ptr 1 0 0),(3,.ptr 2 0 0),(4,.ptr gb 0 0),(21,.d false (.int .i64 n)),(22,.d false (.int .i64 i))]
theorem z8e(K:Cx)(h104:EP K 104 q1C vIns)(sh:List Shape)(gs:Gl)(gb cb:Nat)(nm:Bs)(ar:Int)(n i m:Nat)(hm0:m≤8388608):∀(k j:Nat)(H:List (Nat×Blk))(nx:Nat)(l:Bs)(cs:List Instr)(mv:List Nat),TI H nx l sh gs→TG H nx gs gb cb nm ar cs→j+k=m→cs.length=j→l.length≤8388608→0∉mv→
  match q3q k l with
  |some (xs,r)=>∃ H' nx' mv',lpk K [0,2,3,4,21,22,30,31] q98 ⟨ρ1 gb n i m j,H,nx,mv⟩=some (.exit 4,⟨ρ1x gb n i,H',nx',mv'⟩)∧TI H' nx' r sh gs∧TG H' nx' gs gb cb nm ar (cs++xs)∧0∉mv'
  |none=>q4a (lpk K [0,2,3,4,21,22,30,31] q98 ⟨ρ1 gb n i m j,H,nx,mv⟩)=some brk:=by
 intro k
 induction k with
 |zero=>
  intro j H nx l cs mv hT hG hj hs hl hm
  obtain rfl:j=m:=by omega
  simp only[q3q]
  refine⟨H,nx,mv,?_,hT,by rw[List.append_nil];exact hG,hm⟩
  unfold ρ1 ρ1x
  rw[q4u q82]
  simp(disch:=first|decide|omega|(simp only[LN];first|done|omega)) only[SV,SW,Nat.reduceBEq,q08,q1Z,reduceCtorEq,Nat.reduceEqDiff,q8N]
 |succ k ih=>
  intro j H nx l cs mv hT hG hj hs hl hm
  have hlt:j<m:=by omega
  simp only[q3q]
  cases e1:q1C l with
  |none=>
   simp only
   obtain⟨a1,a2⟩:=j3t K h104 hT hG mv n i m j hl e1
   obtain⟨s,a2⟩:=q2K a2
   have b1:=q5g K _ _ [t1B,t1C] a1
   have b2:=(q4F K _ _ [t1B,t1C] a1).trans a2
   unfold ρ1 at b1 b2 ⊢
   rw[q4u q82]
   simp(disch:=first|decide|omega|(simp only[LN];first|done|omega)) only[SV,SW,q0a,q0i,q1l,q0B,Nat.reduceBEq,q0l,q5e,b2,b1,q0r,q2m,q0K,q4I,q0f]
  |some q=>
   obtain⟨x,r0⟩:=q
   simp only
   have l0:=q90 e1
   have hA:=j3u K h104 hT hG mv n i m j hl e1
   have sA:=j14 K hG mv n i m j x r0
   obtain⟨H1,hBC,hT1,hG1⟩:=j1Y K (hT.rest (r:=r0)) (hG.rest r0) mv n i m j x (by omega)
   have b1:=(q1D (r:=[t1C]) hA sA).trans hBC
   have ih:=ih (j+1) H1 (nx+1) r0 (cs++[x]) (cb :: mv) hT1 hG1 (by omega) (by simp;omega) (by omega) (by
    have:=hG.cb4
    simp only[List.mem_cons,not_or]
    exact⟨by omega,hm⟩)
   have step:lpk K [0,2,3,4,21,22,30,31] q98 ⟨ρ1 gb n i m j,H,nx,mv⟩=lpk K [0,2,3,4,21,22,30,31] q98 ⟨ρ1 gb n i m (j+1),H1,nx+1,cb :: mv⟩:=by
    clear ih hBC hA sA
    unfold ρ1 at b1 ⊢
    rw[q4u (s:=⟨_,H,nx,mv⟩) q82]
    simp(disch:=first|decide|omega|(simp only[LN];first|done|omega)) only[SV,SW,Nat.reduceBEq,q5e,b1,z0y,q1Z,reduceCtorEq,Nat.reduceEqDiff]
    rfl
   cases e3:q3q k r0 with
   |none=>
    rw[e3] at ih
    rw[step];exact ih
   |some q=>
    obtain⟨ts,r2⟩:=q
    rw[e3] at ih
    simp only at ih ⊢
    obtain⟨H',nx',mv',q1,q2,q3,q4⟩:=ih
    exact⟨H',nx',mv',by rw[step];exact q1,q2,by rw[List.append_assoc] at q3;exact q3,q4⟩
def q5I(l:Bs):Option (Glob×Bs):=match q2e l with
 |some (nm,r0)=>match q0h r0 with
  |some (ar,r1)=>match q0Q r1 with
   |some (m,r2)=>match q3q m r2 with
    |some (xs,r3)=>some (⟨nm,ar,xs⟩,r3)
    |none=>none
   |none=>none
  |none=>none
 |none=>none
theorem q8X{l:Bs}{g:Glob}{r:Bs}(h:q5I l=some (g,r)):r.length<l.length:=by
 unfold q5I at h
 cases e1:q2e l with
 |none=>simp [e1] at h
 |some q=>
  obtain⟨nm,r0⟩:=q
  simp only[e1] at h
  cases e2:q0h r0 with
  |none=>simp [e2] at h
  |some q=>
   obtain⟨ar,r1⟩:=q
   simp only[e2] at h
   cases e3:q0Q r1 with
   |none=>simp [e3] at h
   |some q=>
    obtain⟨m,r2⟩:=q
    simp only[e3] at h
    cases e4:q3q m r2 with
    |none=>simp [e4] at h
    |some q=>
     obtain⟨xs,r3⟩:=q
     simp only[e4,Option.some.injEq,Prod.mk.injEq] at h
     obtain⟨_,rfl⟩:=h
     have:=q4s e1
     have:=(q05 e2).1
     have:=(q1m e3).1
     have:=q9j m r2 xs r3 e4
     omega
def q1Y:Nat→Bs→Option (List Glob×Bs)
 |0,l=>some ([],l)
 |k+1,l=>match q5I l with
  |some (x,r)=>match q1Y k r with
   |some (xs,r2)=>some (x :: xs,r2)
   |none=>none
  |none=>none
def ρ2(n i:Nat):List (Nat×V):=[(0,.ptr 0 0 0),(2,.ptr 1 0 0),(3,.ptr 2 0 0),(21,.d false (.int .i64 n)),(22,.d false (.int .i64 i))]
theorem j4i(gs:Gl)(q:Nat×Glob):(gR gs).app (.mix [rowB q])=gR (gs++[q]):=by
 unfold gR
 by_cases h:gs=[]
 ·subst h;rfl
 ·rw[if_neg h,if_neg (by simp)]
  simp only[Blk.app,Rows.vs,List.map_append];rfl
theorem gR_k(gs:Gl):(gR gs).k=3:=by unfold gR;split <;> rfl
theorem gR_n(gs:Gl):(gR gs).n=gs.length:=by
 unfold gR
 split
 ·rename_i h;subst h;rfl
 ·simp [Blk.n]
def z62:C:=.reg [⟨[(44,.lits 3 (.cons (.ld 3 true (.sl 4)) .nil))],[],[],some (some 45,.app 3 (.ld 1 false (.fa 1 (.sl 3))) (.sl 44)),[0,2,3,21,22],5,[],[],[]⟩,⟨[],[],[],some (none,.store 1 (.fa 1 (.sl 3)) (.sl 45)),[0,2,3,21,22],2,[],[],[]⟩]
theorem j49{s:S}{H:List (Nat×Blk)}{k id len:Nat}{rows:Rows}{blk:Blk}(h1:blk.n=len)(h2:blk.k=k)(h3:len+rows.n≤most):apA s H k id 0 len rows blk=some (put H id (blk.app rows),.bsl id 0 (len+rows.n),.some id,s.nx):=if_pos ⟨rfl,h1,h2,h3⟩
set_option maxHeartbeats 1000000 in
theorem j2x(K:Cx){H:List (Nat×Blk)}{nx:Nat}{l:Bs}{sh:List Shape}{gs:Gl}(hT:TI H nx l sh gs){gb cb:Nat}{nm:Bs}{ar:Int}{cs:List Instr}(hG:TG H nx gs gb cb nm ar cs)(mv:List Nat)(n i:Nat)(hgl:gs.length≤100000000) :
  ∃ H',exec K z62 ⟨ρ1x gb n i,H,nx,mv⟩=some (.nrm,⟨ρ2 n i,H',nx+1,4 :: mv⟩)∧TI H' (nx+1) l sh (gs++[(cb,⟨nm,ar,cs⟩)]):=by
 obtain⟨g,c,g4,c4,ne,og⟩:=hG
 obtain⟨h0,h1,h2,h3,h4,hc,nd,hnx⟩:=hT
 have hgn:nx≠gb:=by omega
 have hn4:nx≠4:=by omega
 have hn2:nx≠2:=by omega
 have ap:∀ s:S,apA s ((nx,.mix 3 [rowB (cb,⟨nm,ar,cs⟩)]) :: H) 3 4 0 gs.length (.mix [rowB (cb,⟨nm,ar,cs⟩)]) (gR gs)=some (put ((nx,.mix 3 [rowB (cb,⟨nm,ar,cs⟩)]) :: H) 4 (gR (gs++[(cb,⟨nm,ar,cs⟩)])),.bsl 4 0 (gs.length+1),.some 4,s.nx):=fun s=>by
  rw[j49 (gR_n gs) (gR_k gs) (by show gs.length+1≤most;simp only[most];omega),j4i];rfl
 have lk:∀ b,b≠4→b≠nx→look (forgetH (·== 4) (put ((nx,.mix 3 [rowB (cb,⟨nm,ar,cs⟩)]) :: H) 4 (gR (gs++[(cb,⟨nm,ar,cs⟩)])))) b=(look H b).map (Blk.forget (·== 4)):=by
  intro b e2 e3
  rw[q1J,q0c _ _ (Ne.symm e2),q3o _ _ (Ne.symm e3)]
 have h2':look (forgetH (·== 4) (put ((nx,.mix 3 [rowB (cb,⟨nm,ar,cs⟩)]) :: H) 4 (gR (gs++[(cb,⟨nm,ar,cs⟩)])))) 2=some (.mix 2 [[.bsl 3 0 sh.length,.junk]]):=by
  rw[lk 2 (by omega) (by omega),h2];rfl
 refine⟨put (forgetH (·== 4) (put ((nx,.mix 3 [rowB (cb,⟨nm,ar,cs⟩)]) :: H) 4 (gR (gs++[(cb,⟨nm,ar,cs⟩)])))) 2 (.mix 2 [[.bsl 3 0 sh.length,.bsl 4 0 (gs.length+1)]]),?_,?_⟩
 ·have e1:q04 K ⟨ρ1x gb n i,H,nx,mv⟩ ⟨[(44,.lits 3 (.cons (.ld 3 true (.sl 4)) .nil))],[],[],some (some 45,.app 3 (.ld 1 false (.fa 1 (.sl 3))) (.sl 44)),[0,2,3,21,22],5,[],[],[]⟩ =
    some ⟨(45,.bsl 4 0 (gs.length+1)) :: ρ2 n i,forgetH (·== 4) (put ((nx,.mix 3 [rowB (cb,⟨nm,ar,cs⟩)]) :: H) 4 (gR (gs++[(cb,⟨nm,ar,cs⟩)]))),nx+1,4 :: mv⟩:=by
   have mk3:mkBlk 3 [[V.d false (.str nm),.d false (.int .i64 ar),.bsl cb 0 cs.length]]=.mix 3 [[V.d false (.str nm),.d false (.int .i64 ar),.bsl cb 0 cs.length]]:=rfl
   generalize gR (gs++[(cb,⟨nm,ar,cs⟩)])=R1 at *
   generalize gR gs=R0 at *
   unfold ρ1x ρ2
   unfold rowB at ap ⊢
   simp(disch:=first|decide|omega|(simp only[LN];first|done|omega)) only[SX,SW,q9V,g,Nat.reduceAdd,mk3,h2,j18,h4,ap,lose,V.forget,V.drop1,V.ref0,reduceCtorEq,Nat.reduceEqDiff]
  generalize forgetH (·== 4) (put ((nx,.mix 3 [rowB (cb,⟨nm,ar,cs⟩)]) :: H) 4 (gR (gs++[(cb,⟨nm,ar,cs⟩)])))=H1 at *
  unfold z62 ρ1x
  unfold ρ1x ρ2 at e1
  unfold ρ2
  simp(disch:=first|decide|omega|(simp only[LN];first|done|omega)) only[SV,SW,e1,Nat.reduceBEq,h2',Nat.reduceAdd,lose]
 ·refine⟨?_,?_,?_,?_,?_,fun q hq=>?_,?_,by omega⟩
  ·rw[q0c _ _ (by omega),lk 0 (by omega) (by omega),h0];rfl
  ·rw[q0c _ _ (by omega),lk 1 (by omega) (by omega),h1];rfl
  ·rw[q0G,List.length_append];rfl
  ·rw[q0c _ _ (by omega),lk 3 (by omega) (by omega),h3];rfl
  ·rw[q0c _ _ (by omega),q1J,q0G,Option.map_some,q8Y]
   intro q hq
   rcases List.mem_append.1 hq with hq|hq
   ·have:=(hc q hq).2.1;simp;omega
   ·obtain rfl:=List.mem_singleton.1 hq;simp;omega
  ·rcases List.mem_append.1 hq with hq|hq
   ·obtain⟨q1,q2,q3⟩:=hc q hq
    rw[q0c _ _ (by omega),lk q.1 (by omega) (by omega),q1]
    exact⟨rfl,q2,by omega⟩
   ·obtain rfl:=List.mem_singleton.1 hq
    rw[q0c _ _ (by show 2≠cb;omega),lk cb (by omega) (by omega),c]
    exact⟨rfl,c4.1,by show cb<nx+1;omega⟩
  ·rw[List.map_append,List.nodup_append]
   refine⟨nd,by simp,fun a ha b hb=>?_⟩
   obtain⟨q,hq,rfl⟩:=List.mem_map.1 ha
   simp only[List.map_cons,List.map_nil,List.mem_singleton] at hb
   subst hb
   exact(og q hq).2
set_option maxHeartbeats 1000000 in
theorem j0x(K:Cx)(h101:EP K 101 q0Q vI)(h102:EP K 102 q2e vStr)(h103:EP K 103 q0h vI)(h104:EP K 104 q1C vIns){H:List (Nat×Blk)}{nx:Nat}{l:Bs}{sh:List Shape}{gs:Gl}(hT:TI H nx l sh gs)(mv:List Nat)(hm:0∉mv)(n i:Nat)(hlt:i<n)(hn:n≤8388608)(hl:l.length≤8388608)(hgl:gs.length≤8388608) :
  match q5I l with
  |some (g,r)=>∃ H' nx' mv' cb,lpk K [0,2,3,21,22] f77_L2 ⟨ρ2 n i,H,nx,mv⟩=lpk K [0,2,3,21,22] f77_L2 ⟨ρ2 n (i+1),H',nx',mv'⟩∧TI H' nx' r sh (gs++[(cb,g)])∧0∉mv'
  |none=>q4a (lpk K [0,2,3,21,22] f77_L2 ⟨ρ2 n i,H,nx,mv⟩)=some brk:=by
 have h0:=hT.h0
 have hr:=q41 h0
 have hnx:=hT.nx
 unfold q5I
 cases e1:q2e l with
 |none=>
  have c1:=h102.no l hl e1
  have c2:=h102.pan l hl e1
  simp only[LB,brk] at c1 c2 h0 hr ⊢
  unfold ρ2
  rw[q4u f77_L2.eq_1]
  simp(disch:=first|decide|omega|(simp only[LN];first|done|omega)) only[SV,SW,q0a,q0i,q1l,q0B,Nat.reduceBEq,q0l,q0m,q0g,q0z,hr,q0o,h0,dimL,q0V,q0M,lose,V.forget,V.drop1,V.ref0,reduceCtorEq,q0q,c2,c1,q02,q01,q0v,q0r,q0K,q2m,q4I,q0f]
 |some q=>
  obtain⟨nm,r0⟩:=q
  simp only
  have l0:=q4s e1
  have c1:=h102.ok l nm r0 hl e1
  have hT0:=hT.rest (r:=r0)
  have hr0:=q41 hT0.h0
  cases e2:q0h r0 with
  |none=>
   have c3:=h103.no r0 (by omega) e2
   have c4:=h103.pan r0 (by omega) e2
   simp only[vStr] at c1
   simp only[LB,brk] at c1 c3 c4 h0 hr hr0 ⊢
   unfold ρ2
   rw[q4u f77_L2.eq_1]
   simp(disch:=first|decide|omega|(simp only[LN];first|done|omega)) only[SV,SW,q0a,q0i,q1l,q0B,Nat.reduceBEq,q0l,q0m,q0g,q0z,hr,q0o,h0,dimL,q0V,q0M,lose,V.forget,V.drop1,V.ref0,reduceCtorEq,q0q,c1,Nat.reduceSub,q07,hr0,q0G,c4,c3,q02,q01,q0v,q0r,q0K,q2m,q4I,q0f]
  |some q=>
   obtain⟨ar,r1⟩:=q
   simp only
   have l1:=(q05 e2).1
   have c3:=h103.ok r0 ar r1 (by omega) e2
   have hT1:=hT0.rest (r:=r1)
   cases e3:q0Q r1 with
   |none=>
    have c5:=h101.no r1 (by omega) e3
    have c6:=h101.pan r1 (by omega) e3
    have hTx:look ((nx+1,Blk.dat true 3 []) :: (nx,Blk.mix 3 [[V.d false (.str nm),.d false (.int .i64 ar),.bsl (nx+1) 0 0]]) :: put (put H 0 (LB r0)) 0 (LB r1)) 0=some (LB r1):=by
     rw[q3o _ _ (by omega),q3o _ _ (by omega)];exact hT1.h0
    have hr1:=q41 hTx
    simp only[vStr,vI] at c1 c3
    simp only[LB,brk] at c1 c3 c5 c6 h0 hr hr0 hr1 ⊢
    unfold ρ2
    rw[q4u f77_L2.eq_1]
    have ow:∀ ρ H nx mv,exec K (.ownc 4 2 3) ⟨ρ,H,nx,mv⟩=some (.nrm,q5P 4 2 3 ⟨ρ,H,nx,mv⟩):=fun _ _ _ _=>rfl
    simp(disch:=first|decide|omega|(simp only[LN];first|done|omega)) only[SV,SW,q0a,q0i,q1l,q0B,q9V,q0l,q0m,q0g,q0z,hr,q0o,h0,dimL,q0V,q0M,lose,V.forget,V.drop1,V.ref0,reduceCtorEq,q0q,c1,Nat.reduceSub,q07,hr0,q0G,c3,Nat.reduceAdd,ow,q5P,hr1,c6,c5,q02,q01,q0v,q0r,q0K,q2m,q4I,q0f]
   |some q=>
    obtain⟨m,r2⟩:=q
    simp only
    have l2:=q1m e3
    have c5:=h101.ok r1 m r2 (by omega) e3
    have hTx:look ((nx+1,Blk.dat true 3 []) :: (nx,Blk.mix 3 [[V.d false (.str nm),.d false (.int .i64 ar),.bsl (nx+1) 0 0]]) :: put (put H 0 (LB r0)) 0 (LB r1)) 0=some (LB r1):=by
     rw[q3o _ _ (by omega),q3o _ _ (by omega)];exact hT1.h0
    have hr1:=q41 hTx
    have hT2:=hT1.rest (r:=r2)
    generalize hH2:put (put (put H 0 (LB r0)) 0 (LB r1)) 0 (LB r2)=H2 at *
    have hT3:TI ((nx+1,Blk.dat true 3 []) :: (nx,Blk.mix 3 [[V.d false (.str nm),.d false (.int .i64 ar),.bsl (nx+1) 0 0]]) :: H2) (nx+2) r2 sh gs:=by
     obtain⟨a0,a1,a2,a3,a4,ac,nd,_⟩:=hT2
     have lk:∀ b,b<nx→look ((nx+1,Blk.dat true 3 []) :: (nx,Blk.mix 3 [[V.d false (.str nm),.d false (.int .i64 ar),.bsl (nx+1) 0 0]]) :: H2) b=look H2 b:=fun b hb=>by
      rw[q3o _ _ (by omega),q3o _ _ (by omega)]
     exact⟨by rw[lk 0 (by omega)];exact a0,by rw[lk 1 (by omega)];exact a1,by rw[lk 2 (by omega)];exact a2,by rw[lk 3 (by omega)];exact a3,by rw[lk 4 (by omega)];exact a4,
      fun q hq=>by rw[lk q.1 (ac q hq).2.2];exact⟨(ac q hq).1,(ac q hq).2.1,by have:=(ac q hq).2.2;omega⟩,nd,by omega⟩
    have hG3:TG ((nx+1,Blk.dat true 3 []) :: (nx,Blk.mix 3 [[V.d false (.str nm),.d false (.int .i64 ar),.bsl (nx+1) 0 0]]) :: H2) (nx+2) gs nx (nx+1) nm ar []:=
     ⟨by rw[q3o _ _ (by omega),z7W];rfl,z7W _ _ _,by omega,by omega,by omega,fun q hq=>by have:=(hT.hc q hq).2.2;omega⟩
    have e4:=z8e K h104 sh gs nx (nx+1) nm ar n i m (by omega) m 0 _ (nx+2) r2 [] mv hT3 hG3 (by omega) rfl (by omega) hm
    simp only[ρ1,Int.natCast_zero] at e4
    have ow:∀ ρ H nx mv,exec K (.ownc 4 2 3) ⟨ρ,H,nx,mv⟩=some (.nrm,q5P 4 2 3 ⟨ρ,H,nx,mv⟩):=fun _ _ _ _=>rfl
    cases e5:q3q m r2 with
    |none=>
     rw[e5] at e4
     simp only at e4 ⊢
     obtain⟨s,e4⟩:=q2K e4
     simp only[vStr,vI] at c1 c3 c5
     simp only[LB] at c1 c3 c5 h0 hr hr0 hr1 e4 hH2 ⊢
     unfold ρ2
     rw[q4u f77_L2.eq_1]
     clear hT hT0 hT1 hT2 hT3 hG3 h101 h102 h103 h104 hTx
     simp(disch:=first|decide|omega|(simp only[LN];first|done|omega)) only[SV,SW,q0a,q0i,q1l,q0B,q9V,q0l,q0m,q0g,q0z,hr,q0o,h0,dimL,q0V,q0M,lose,V.forget,V.drop1,V.ref0,reduceCtorEq,q0q,c1,Nat.reduceSub,q07,hr0,q0G,c3,Nat.reduceAdd,ow,q5P,hr1,c5,hH2,q08,q1Z,Nat.reduceEqDiff,q29,e4,q2m,q0K,q4I,q0f]
    |some q=>
     obtain⟨xs,r3⟩:=q
     rw[e5] at e4
     simp only at e4 ⊢
     obtain⟨H4,nx4,mv4,e4,hT4,hG4,hm4⟩:=e4
     obtain⟨H5,e6,hT5⟩:=j2x K hT4 hG4 mv4 n i (by omega)
     refine⟨H5,nx4+1,4 :: mv4,nx+1,?_,hT5,by simp [hm4]⟩
     unfold z62 at e6
     simp only[ρ1x,ρ2] at e4 e6
     simp only[vStr,vI] at c1 c3 c5
     simp only[LB] at c1 c3 c5 h0 hr hr0 hr1 e4 hH2 ⊢
     unfold ρ2
     rw[q4u (s:=⟨_,H,nx,mv⟩) f77_L2.eq_1]
     clear hT hT0 hT1 hT2 hT3 hG3 h101 h102 h103 h104 hTx hT4 hG4 hT5
     simp(disch:=first|decide|omega|(simp only[LN];first|done|omega)) only[SV,SW,q9V,hr,h0,dimL,c1,q0q,Nat.reduceSub,lose,hr0,q0G,c3,Nat.reduceAdd,ow,q5P,hr1,c5,hH2,q08,q1Z,reduceCtorEq,Nat.reduceEqDiff,q29,e4,e6,z0y]
     trace_state
     rfl
end Go.Vm
end

section
namespace Go.Vm
set_option maxRecDepth 20000
open Go.Proofs
theorem q93:∀(k:Nat)(l:Bs)(ss:List Glob)(r:Bs),q1Y k l=some (ss,r)→r.length+k≤l.length∧ss.length=k
 |0,l,ss,r,h=>by
  simp only[q1Y,Option.some.injEq,Prod.mk.injEq] at h
  obtain⟨rfl,rfl⟩:=h
  exact⟨by omega,rfl⟩
 |k+1,l,ss,r,h=>by
  simp only[q1Y] at h
  cases e1:q5I l with
  |none=>simp [e1] at h
  |some q=>
   obtain⟨x,r0⟩:=q
   simp only[e1] at h
   cases e3:q1Y k r0 with
   |none=>simp [e3] at h
   |some q=>
    obtain⟨ts,r2⟩:=q
    simp only[e3,Option.some.injEq,Prod.mk.injEq] at h
    obtain⟨rfl,rfl⟩:=h
    have:=q8X e1
    have:=q93 k r0 ts r2 e3
    exact⟨by omega,by simp;omega⟩
theorem z8d(K:Cx)(h101:EP K 101 q0Q vI)(h102:EP K 102 q2e vStr)(h103:EP K 103 q0h vI)(h104:EP K 104 q1C vIns)(sh:List Shape)(n:Nat)(hn:n≤8388608):∀(k i:Nat)(H:List (Nat×Blk))(nx:Nat)(l:Bs)(gs:Gl)(mv:List Nat),TI H nx l sh gs→i+k=n→gs.length=i→l.length≤8388608→0∉mv→
  match q1Y k l with
  |some (xs,r)=>∃ H' nx' mv' gs',lpk K [0,2,3,21,22] f77_L2 ⟨ρ2 n i,H,nx,mv⟩=some (.exit 2,⟨[(2,.ptr 1 0 0),(3,.ptr 2 0 0)],H',nx',mv'⟩)∧TI H' nx' r sh (gs++gs')∧gs'.map Prod.snd=xs∧0∉mv'
  |none=>q4a (lpk K [0,2,3,21,22] f77_L2 ⟨ρ2 n i,H,nx,mv⟩)=some brk:=by
 intro k
 induction k with
 |zero=>
  intro i H nx l gs mv hT hi hs hl hm
  obtain rfl:i=n:=by omega
  simp only[q1Y]
  refine⟨H,nx,mv,[],?_,by rw[List.append_nil];exact hT,rfl,hm⟩
  unfold ρ2
  rw[q4u f77_L2.eq_1]
  simp(disch:=first|decide|omega|(simp only[LN];first|done|omega)) only[SV,SW,Nat.reduceBEq,q08,q1Z,Nat.reduceEqDiff,q8N]
 |succ k ih=>
  intro i H nx l gs mv hT hi hs hl hm
  simp only[q1Y]
  have hR:=j0x K h101 h102 h103 h104 hT mv hm n i (by omega) hn hl (by omega)
  cases e1:q5I l with
  |none=>
   rw[e1] at hR
   exact hR
  |some q=>
   obtain⟨g,r0⟩:=q
   rw[e1] at hR
   simp only at hR ⊢
   have l0:=q8X e1
   obtain⟨H1,nx1,mv1,cb,step,hT1,hm1⟩:=hR
   have ih:=ih (i+1) H1 nx1 r0 (gs++[(cb,g)]) mv1 hT1 (by omega) (by simp;omega) (by omega) hm1
   cases e3:q1Y k r0 with
   |none=>
    rw[e3] at ih
    rw[step];exact ih
   |some q=>
    obtain⟨ts,r2⟩:=q
    rw[e3] at ih
    simp only at ih ⊢
    obtain⟨H',nx',mv',gs',q1,q2,q3,q4⟩:=ih
    exact⟨H',nx',mv',(cb,g) :: gs',by rw[step];exact q1,by rw[List.append_assoc] at q2;exact q2,by rw[List.map_cons,q3],q4⟩
def q1N(l:Bs):Option (Table×Bs):=match q0Q l with
 |some (n,r)=>match q1i n r with
  |some (ss,r1)=>match q0Q r1 with
   |some (m,r2)=>match q1Y m r2 with
    |some (gs,r3)=>some (⟨ss,gs⟩,r3)
    |none=>none
   |none=>none
  |none=>none
 |none=>none
theorem z5d{l:Bs}{t:Table}{r:Bs}(h:q1N l=some (t,r)):r.length+t.shapes.length+t.globals.length<l.length:=by
 unfold q1N at h
 cases e1:q0Q l with
 |none=>simp [e1] at h
 |some q=>
  obtain⟨n,r0⟩:=q
  simp only[e1] at h
  cases e2:q1i n r0 with
  |none=>simp [e2] at h
  |some q=>
   obtain⟨ss,r1⟩:=q
   simp only[e2] at h
   cases e3:q0Q r1 with
   |none=>simp [e3] at h
   |some q=>
    obtain⟨m,r2⟩:=q
    simp only[e3] at h
    cases e4:q1Y m r2 with
    |none=>simp [e4] at h
    |some q=>
     obtain⟨gs,r3⟩:=q
     simp only[e4,Option.some.injEq,Prod.mk.injEq] at h
     obtain⟨rfl,rfl⟩:=h
     have:=(q1m e1).1
     have:=q4C n r0 ss r1 e2
     have:=(q1m e3).1
     have:=q93 m r2 gs r3 e4
     simp only
     omega
def gN(z:Bool)(p:Nat)(gs:List Glob):Blk:=if gs=[] then .dat z 3 [] else .mix 3 ((numG p gs).map rowB)
def cN(z:Bool)(g:Glob):Blk:=.dat z 3 (g.code.map q0J)
def tb0(z:Bool)(p:Nat)(t:Table):List Blk:=.dat z 2 (t.shapes.map q0k) :: gN z (p+2) t.globals :: t.globals.map (cN z)
theorem z61(z p t):(tb0 z p t).length=t.globals.length+2:=by simp [tb0]
def tbV(p:Nat)(t:Table):V:=.agg [.bsl p 0 t.shapes.length,.bsl (p+1) 0 t.globals.length]
theorem z1v(q:Nat×Glob):refsL (rowB q)=[q.1]:=rfl
theorem q9N:∀ gs:Gl,(gs.map rowB).flatMap refsL=gs.map Prod.fst
 |[]=>rfl
 |q :: r=>by
  simp only[List.map_cons,List.flatMap_cons,z1v,q9N r]
  rfl
theorem z8s(gs:Gl):(gR gs).refs=gs.map Prod.fst:=by
 unfold gR
 split
 ·rename_i h;subst h;rfl
 ·simp only[Blk.refs,q9N]
theorem z3I{H:List (Nat×Blk)}{nx:Nat}{l:Bs}{sh:List Shape}{gs:Gl}(hT:TI H nx l sh gs):(0 :: 3 :: 4 :: gs.map Prod.fst).Nodup:=by
 have h4:∀ b∈gs.map Prod.fst,4<b:=fun b hb=>by
  obtain⟨q,hq,rfl⟩:=List.mem_map.1 hb
  exact(hT.hc q hq).2.1
 simp only[List.nodup_cons,List.mem_cons,not_or]
 refine⟨⟨by omega,by omega,fun h=>by have:=h4 _ h;omega⟩,⟨by omega,fun h=>by have:=h4 _ h;omega⟩,fun h=>by have:=h4 _ h;omega,hT.nd⟩
theorem j3r{H:List (Nat×Blk)}{nx:Nat}{l:Bs}{sh:List Shape}{gs:Gl}(hT:TI H nx l sh gs){j:Nat}{q:Nat×Glob}(hj:gs[j]? = some q):(0 :: 3 :: 4 :: gs.map Prod.fst).idxOf q.1=3+j∧(0 :: 3 :: 4 :: gs.map Prod.fst).contains q.1=true:=by
 have hg:(0 :: 3 :: 4 :: gs.map Prod.fst)[3+j]? = some q.1:=by
  rw[show 3+j=j+1+1+1 by omega]
  simp only[List.getElem?_cons_succ,List.getElem?_map,hj,Option.map_some]
 exact⟨q6j (z3I hT) hg,by simpa using List.mem_of_getElem? hg⟩
theorem j1V{H H':List (Nat×Blk)}{nx:Nat}{l:Bs}{sh:List Shape}{gs:Gl}(hT:TI H nx l sh gs):mapO (mapO (finC false (0 :: 3 :: 4 :: gs.map Prod.fst) H')) (gs.map rowB)=some ((numG 3 (gs.map Prod.snd)).map rowB):=by
 refine q8M (by simp [q71]) fun j x hx=>?_
 rw[List.getElem?_map,Option.map_eq_some_iff] at hx
 obtain⟨q,hq,rfl⟩:=hx
 obtain⟨i1,i2⟩:=j3r hT hq
 rw[List.getElem?_map,q72,List.getElem?_map,hq]
 simp only[Option.map_some]
 have e:finC false (0 :: 3 :: 4 :: gs.map Prod.fst) H' (.bsl q.1 0 q.2.code.length)=some (.bsl (3+j) 0 q.2.code.length):=by simp only[finC,i1,i2,if_true]
 unfold rowB
 have e0:∀ x,finC false (0 :: 3 :: 4 :: gs.map Prod.fst) H' (.d false x)=some (.d false x):=fun _=>rfl
 simp only[mapO,e,e0]
theorem fin77{H:List (Nat×Blk)}{nx:Nat}{l:Bs}{sh:List Shape}{gs:Gl}(hT:TI H nx l sh gs)(mv:List Nat)(hm:0∉mv)(blk:Blk) :
  finish 1 true ⟨[(2,.ptr 1 0 0)],put H 1 blk,nx,mv⟩ (.agg [.bsl 3 0 sh.length,.bsl 4 0 gs.length])=some (tbV 1 ⟨sh,gs.map Prod.snd⟩,LB l :: tb0 true 1 ⟨sh,gs.map Prod.snd⟩,[]):=by
 have lk:∀ b,b≠1→look (put H 1 blk) b=look H b:=fun b hb=>q0c _ _ (Ne.symm hb)
 have hr:q03 (put H 1 blk) (refN (put H 1 blk)+64) [] [0,3,4]=0 :: 3 :: 4 :: gs.map Prod.fst:=by
  have hr:=z24 (show look (put H 1 blk) 4=some (gR gs) by rw[lk 4 (by omega)];exact hT.h4)
  rw[z8s,List.length_map] at hr
  rw[show refN (put H 1 blk)+64=(refN (put H 1 blk)+61)+1+1+1 by omega,q0x]
  simp only[List.contains_nil,q0s,lk 0 (by omega),hT.h0,q0O,List.nil_append]
  rw[show(LB l).refs=[] from rfl,List.append_nil,q0x,show [0].contains 3=false from rfl,q0s,lk 3 (by omega),hT.h3,q0O]
  rw[show(Blk.dat true 2 (sh.map q0k)).refs=[] from rfl,List.append_nil,q0x,show([0]++[3]:List Nat).contains 4=false from rfl,q0s,lk 4 (by omega),hT.h4,q0O,z8s,List.nil_append]
  rw[q39 _ _ _ _ hT.nd (fun b hb=>?_) (by simp;omega)]
  ·rfl
  ·obtain⟨q,hq,rfl⟩:=List.mem_map.1 hb
   obtain⟨q1,q2,_⟩:=hT.hc q hq
   exact⟨by simp;omega,by rw[lk q.1 (by omega),q1];rfl⟩
 unfold finish
 rw[if_pos rfl,show List.range 1++(V.agg [.bsl 3 0 sh.length,.bsl 4 0 gs.length]).refs=[0,3,4] from rfl]
 simp only[hr]
 have hnd:=z3I hT
 have i3:(0 :: 3 :: 4 :: gs.map Prod.fst).idxOf 3=1:=q6j hnd rfl
 have i4:(0 :: 3 :: 4 :: gs.map Prod.fst).idxOf 4=2:=q6j hnd rfl
 have c3:(0 :: 3 :: 4 :: gs.map Prod.fst).contains 3=true:=by simp
 have c4:(0 :: 3 :: 4 :: gs.map Prod.fst).contains 4=true:=by simp
 have f1:finV false (0 :: 3 :: 4 :: gs.map Prod.fst) (put H 1 blk) (.agg [.bsl 3 0 sh.length,.bsl 4 0 gs.length])=some (tbV 1 ⟨sh,gs.map Prod.snd⟩):=by
  simp only[finV,finA,mapO,finC,c3,c4,i3,i4,if_true,Option.map_some,tbV,List.length_map]
 have f2:mapO (finB false (0 :: 3 :: 4 :: gs.map Prod.fst) (put H 1 blk)) (0 :: 3 :: 4 :: gs.map Prod.fst)=some (LB l :: tb0 true 1 ⟨sh,gs.map Prod.snd⟩):=by
  refine q8M (by simp [z61]) fun j b hb=>?_
  match j with
  |0=>
   obtain rfl:=Option.some.inj hb
   simp only[finB,lk 0 (by omega),hT.h0]
   rfl
  |1=>
   obtain rfl:=Option.some.inj hb
   simp only[finB,lk 3 (by omega),hT.h3]
   rfl
  |2=>
   obtain rfl:=Option.some.inj hb
   simp only[finB,lk 4 (by omega),hT.h4]
   show _=some (gN true 3 (gs.map Prod.snd))
   by_cases hg:gs=[]
   ·subst hg;rfl
   ·have hg':gs.map Prod.snd≠[]:=by simpa using hg
    simp only[gR,if_neg hg,gN,if_neg hg',j1V hT,Option.map_some]
  |j+3=>
   simp only[List.getElem?_cons_succ,List.getElem?_map,Option.map_eq_some_iff] at hb
   obtain⟨q,hq,rfl⟩:=hb
   obtain⟨q1,q2,_⟩:=hT.hc q (List.mem_of_getElem? hq)
   simp only[finB,lk q.1 (by omega),q1]
   simp only[tb0,List.getElem?_cons_succ,List.getElem?_map,hq,Option.map_some,cN,Bool.false_and,Bool.or_false]
 have hmf:(List.range 1).filter (fun b=>mv.contains b)=[]:=by
  simp [List.range_succ,hm]
 have e10:((1:Nat)==0)=false:=rfl
 have et:(0 :: 3 :: 4 :: gs.map Prod.fst).take 1=List.range 1:=rfl
 simp only[hnd,et,e10,f1,f2,hmf,decide_true,Bool.and_self,if_true]
def f77o:Fun:=⟨f77.body,f77.res,true⟩
theorem z8J:q1s Go.Proofs.Tryz.prog 77 1 1 f77o=true:=j4s
set_option maxHeartbeats 2000000 in
theorem j1t(K:Cx)(h101:EP K 101 q0Q vI)(h102:EP K 102 q2e vStr)(h103:EP K 103 q0h vI)(h104:EP K 104 q1C vIns)(l:Bs)(hl:l.length≤8388608) :
  match q1N l with
  |some (t,r)=>∃ H nx mv gs blk,exec K f77.body (startS [.ptr 0 0 0] [LB l])=some (.ret,⟨[(2,.ptr 1 0 0)],put H 1 (.mix 2 [[.bsl 3 0 t.shapes.length,.bsl 4 0 t.globals.length]]),nx,mv⟩)∧TI H nx r t.shapes gs∧gs.map Prod.snd=t.globals∧0∉mv∧blk=0
  |none=>q4a (exec K f77.body (startS [.ptr 0 0 0] [LB l]))=some brk:=by
 have ow:∀ a b c ρ H nx mv,exec K (.ownc a b c) ⟨ρ,H,nx,mv⟩=some (.nrm,q5P a b c ⟨ρ,H,nx,mv⟩):=fun _ _ _ _ _ _ _=>rfl
 unfold q1N
 cases e1:q0Q l with
 |none=>
  have c1:=h101.no l hl e1
  have c2:=h101.pan l hl e1
  simp only[LB,brk] at c1 c2 ⊢
  simp(disch:=first|decide|omega|(simp only[LN];first|done|omega)) only[SV,SW,f77,q0a,q0i,q1l,Nat.reduceBEq,Nat.reduceAdd,q0B,q0l,ow,q5P,q0m,q0g,q0z,q0o,dimL,q0V,q0M,lose,V.forget,V.drop1,V.ref0,reduceCtorEq,q0q,c2,c1,q02,q01,q0v,q0r,q0K,q0f]
 |some q=>
  obtain⟨n,r0⟩:=q
  simp only
  have l0:=q1m e1
  have c1:=h101.ok l n r0 hl e1
  have hT:TI [(4,.dat true 3 []),(3,.dat true 2 []),(2,.mix 2 [[.bsl 3 0 0,.bsl 4 0 0]]),(1,.mix 2 [[.fs true 2 [],.fs true 3 []]]),(0,LB r0)] 5 r0 [] []:=
   ⟨rfl,rfl,rfl,rfl,rfl,fun q hq=>by simp at hq,by simp,by omega⟩
  have e2:=z8f K h102 h103 n (by omega) n 0 _ 5 r0 [] [] hT (by omega) rfl (by omega) (by simp)
  simp only[ρ0,Int.natCast_zero] at e2
  simp only[vI] at c1
  cases e3:q1i n r0 with
  |none=>
   rw[e3] at e2
   simp only at e2 ⊢
   obtain⟨s,e2⟩:=q2K e2
   simp only[LB] at c1 e2 ⊢
   simp(disch:=first|decide|omega|(simp only[LN];first|done|omega)) only[SV,SW,f77,q0a,q0i,q1l,Nat.reduceBEq,Nat.reduceAdd,q0B,q0l,ow,q5P,q0m,q0g,q0z,q0o,dimL,q0V,q0M,lose,V.forget,V.drop1,V.ref0,reduceCtorEq,q0q,c1,Nat.reduceSub,q07,q08,q1Z,Nat.reduceEqDiff,q29,e2,q2m,q0K,q0f]
   trace_state
  |some q=>
   obtain⟨ss,r1⟩:=q
   rw[e3] at e2
   simp only at e2 ⊢
   have l1:=q4C n r0 ss r1 e3
   obtain⟨H1,nx1,mv1,e2,hT1,hm1⟩:=e2
   rw[List.nil_append] at hT1
   have g0:=hT1.h0
   have hr1:=q41 g0
   simp only[ρE] at e2
   cases e4:q0Q r1 with
   |none=>
    have c3:=h101.no r1 (by omega) e4
    have c4:=h101.pan r1 (by omega) e4
    simp only[LB,brk] at c1 c3 c4 e2 g0 hr1 ⊢
    simp(disch:=first|decide|omega|(simp only[LN];first|done|omega)) only[SV,SW,f77,q0a,q0i,q1l,Nat.reduceBEq,Nat.reduceAdd,q0B,q0l,ow,q5P,q0m,q0g,q0z,q0o,dimL,q0V,q0M,lose,V.forget,V.drop1,V.ref0,reduceCtorEq,q0q,c1,Nat.reduceSub,q07,q08,q1Z,Nat.reduceEqDiff,q29,e2,hr1,g0,c4,c3,q02,q01,q0v,q0r,q0K,q0f]
   |some q=>
    obtain⟨m,r2⟩:=q
    simp only
    have l2:=q1m e4
    have c3:=h101.ok r1 m r2 (by omega) e4
    have e5:=z8d K h101 h102 h103 h104 ss m (by omega) m 0 _ nx1 r2 [] mv1 (hT1.rest (r:=r2)) (by omega) rfl (by omega) hm1
    simp only[ρ2,Int.natCast_zero] at e5
    simp only[vI] at c3
    cases e6:q1Y m r2 with
    |none=>
     rw[e6] at e5
     simp only at e5 ⊢
     obtain⟨s,e5⟩:=q2K e5
     simp only[LB] at c1 c3 e2 e5 g0 hr1 ⊢
     clear hT1 h101 h102 h103 h104
     simp(disch:=first|decide|omega|(simp only[LN];first|done|omega)) only[SV,SW,f77,q0a,q0i,q1l,Nat.reduceBEq,Nat.reduceAdd,q0B,q0l,ow,q5P,q0m,q0g,q0z,q0o,dimL,q0V,q0M,lose,V.forget,V.drop1,V.ref0,reduceCtorEq,q0q,c1,Nat.reduceSub,q07,q08,q1Z,Nat.reduceEqDiff,q29,e2,hr1,g0,c3,e5,q2m,q0K,q0f]
    |some q=>
     obtain⟨gs,r3⟩:=q
     rw[e6] at e5
     simp only at e5 ⊢
     obtain⟨H2,nx2,mv2,gs',e5,hT2,hgs,hm2⟩:=e5
     rw[List.nil_append] at hT2
     have hgl:gs'.length=gs.length:=by rw[←hgs,List.length_map]
     refine⟨H2,nx2,mv2,gs',0,?_,hT2,hgs,hm2,rfl⟩
     have g1:=hT2.h1
     have g2:=hT2.h2
     rw[hgl] at g2
     simp only[LB] at c1 c3 e2 e5 g0 hr1 ⊢
     clear hT1 hT2 h101 h102 h103 h104
     simp(disch:=first|decide|omega|(simp only[LN];first|done|omega)) only[SV,SW,f77,Nat.reduceAdd,Nat.reduceBEq,ow,q5P,dimL,c1,q0q,Nat.reduceSub,lose,q08,q1Z,reduceCtorEq,Nat.reduceEqDiff,q29,e2,hr1,g0,c3,e5,g2,g1]
end Go.Vm
end

section
namespace Go.Vm
set_option maxRecDepth 20000
open Go.Proofs
theorem j3h{k:Int}{l:Bs}{a:Int}{r:Bs}(h:argA k l=some (a,r)):a≤9223372036854775807:=by
 unfold argA at h
 split at h
 ·unfold q2r at h
  cases e:numT l with
  |none=>simp [e] at h
  |some q=>
   obtain⟨n,r'⟩:=q
   simp only[e,Option.some.injEq,Prod.mk.injEq] at h
   obtain⟨rfl,_⟩:=h
   have:=z7z e
   unfold q8k
   split <;> omega
 ·split at h
  ·cases e:q0h l with
   |none=>simp [e] at h
   |some q=>
    obtain⟨n,r'⟩:=q
    simp only[e,Option.some.injEq,Prod.mk.injEq] at h
    obtain⟨rfl,_⟩:=h
    have:=q05 e
    omega
  ·simp only[Option.some.injEq,Prod.mk.injEq] at h
   obtain⟨rfl,_⟩:=h
   omega
theorem z8j{l:Bs}{x:Instr}{r:Bs}(h:q1C l=some (x,r)):x.a≤9223372036854775807:=by
 unfold q1C at h
 cases e:q0h l with
 |none=>simp [e] at h
 |some q=>
  obtain⟨n,r'⟩:=q
  simp only[e] at h
  split at h
  ·cases ea:argA (q0S n).2.1 r' with
   |none=>simp [ea] at h
   |some q=>
    obtain⟨a,r1⟩:=q
    simp only[ea] at h
    cases eb:argB (q0S n).2.2 r1 with
    |none=>simp [eb] at h
    |some q=>
     obtain⟨b,r2⟩:=q
     simp only[eb,Option.some.injEq,Prod.mk.injEq] at h
     obtain⟨rfl,_⟩:=h
     exact j3h ea
  ·cases h
theorem z4y:∀(k:Nat)(l:Bs)(xs:List Instr)(r:Bs),q3q k l=some (xs,r)→∀ x∈xs,x.a≤9223372036854775807
 |0,l,xs,r,h=>by
  simp only[q3q,Option.some.injEq,Prod.mk.injEq] at h
  obtain⟨rfl,_⟩:=h
  simp
 |k+1,l,xs,r,h=>by
  simp only[q3q] at h
  cases e:q1C l with
  |none=>simp [e] at h
  |some q=>
   obtain⟨x,r1⟩:=q
   simp only[e] at h
   cases e2:q3q k r1 with
   |none=>simp [e2] at h
   |some q=>
    obtain⟨ys,r2⟩:=q
    simp only[e2,Option.some.injEq,Prod.mk.injEq] at h
    obtain⟨rfl,_⟩:=h
    intro z hz
    rcases List.mem_cons.1 hz with rfl|hz
    ·exact z8j e
    ·exact z4y k r1 ys r2 e2 z hz
theorem z7G{l:Bs}{s:Bs}{r:Bs}(h:q2e l=some (s,r)):s.length≤l.length:=by
 unfold q2e at h
 cases e0:q0Q l with
 |none=>simp [e0] at h
 |some q=>
  obtain⟨n,r'⟩:=q
  simp only[e0,Option.some.injEq,Prod.mk.injEq] at h
  obtain⟨rfl,_⟩:=h
  have:=q1m e0
  rw[List.length_take];omega
structure GOk(g:Glob):Prop where
 cd:(g.code.length:Int)≤9223372036854775807
 gn:(g.name.length:Int)≤9223372036854775807
 wd:∀ x∈g.code,x.a≤9223372036854775807
theorem j0D{l:Bs}{g:Glob}{r:Bs}(hl:l.length≤8388608)(h:q5I l=some (g,r)):GOk g:=by
 unfold q5I at h
 cases e1:q2e l with
 |none=>simp [e1] at h
 |some q=>
  obtain⟨nm,r0⟩:=q
  simp only[e1] at h
  have l1:=z7G e1
  have l1':=q4s e1
  cases e2:q0h r0 with
  |none=>simp [e2] at h
  |some q=>
   obtain⟨ar,r1⟩:=q
   simp only[e2] at h
   have l2:=q05 e2
   cases e3:q0Q r1 with
   |none=>simp [e3] at h
   |some q=>
    obtain⟨m,r2⟩:=q
    simp only[e3] at h
    have l3:=q1m e3
    cases e4:q3q m r2 with
    |none=>simp [e4] at h
    |some q=>
     obtain⟨xs,r3⟩:=q
     simp only[e4,Option.some.injEq,Prod.mk.injEq] at h
     obtain⟨rfl,_⟩:=h
     have l4:=q9j _ _ _ _ e4
     exact⟨by simp only;omega,by simp only;omega,z4y _ _ _ _ e4⟩
theorem z18:∀(k:Nat)(l:Bs)(gs:List Glob)(r:Bs),l.length≤8388608→q1Y k l=some (gs,r)→∀ g∈gs,GOk g
 |0,l,xs,r,_,h=>by
  simp only[q1Y,Option.some.injEq,Prod.mk.injEq] at h
  obtain⟨rfl,_⟩:=h
  simp
 |k+1,l,xs,r,hl,h=>by
  simp only[q1Y] at h
  cases e:q5I l with
  |none=>simp [e] at h
  |some q=>
   obtain⟨x,r1⟩:=q
   simp only[e] at h
   cases e2:q1Y k r1 with
   |none=>simp [e2] at h
   |some q=>
    obtain⟨ys,r2⟩:=q
    simp only[e2,Option.some.injEq,Prod.mk.injEq] at h
    obtain⟨rfl,_⟩:=h
    intro z hz
    have:=q8X e
    rcases List.mem_cons.1 hz with rfl|hz
    ·exact j0D hl e
    ·exact z18 k r1 ys r2 (by omega) e2 z hz
theorem q9K:∀(k:Nat)(l:Bs)(ss:List Shape)(r:Bs),l.length≤8388608→q1i k l=some (ss,r)→∀ s∈ss,(s.name.length:Int)≤9223372036854775807
 |0,l,xs,r,_,h=>by
  simp only[q1i,Option.some.injEq,Prod.mk.injEq] at h
  obtain⟨rfl,_⟩:=h
  simp
 |k+1,l,xs,r,hl,h=>by
  simp only[q1i] at h
  cases e:q2e l with
  |none=>simp [e] at h
  |some q=>
   obtain⟨x,r0⟩:=q
   simp only[e] at h
   cases e1:q0h r0 with
   |none=>simp [e1] at h
   |some q=>
    obtain⟨f,r1⟩:=q
    simp only[e1] at h
    cases e2:q1i k r1 with
    |none=>simp [e2] at h
    |some q=>
     obtain⟨ys,r2⟩:=q
     simp only[e2,Option.some.injEq,Prod.mk.injEq] at h
     obtain⟨rfl,_⟩:=h
     intro z hz
     have:=q4s e
     have:=z7G e
     have:=q05 e1
     rcases List.mem_cons.1 hz with rfl|hz
     ·simp only;omega
     ·exact q9K k r1 ys r2 (by omega) e2 z hz
theorem z63{l:Bs}{t:Table}{r:Bs}(hl:l.length≤8388608)(h:q1N l=some (t,r)):TabOk t:=by
 have h0:=z5d h
 unfold q1N at h
 cases e1:q0Q l with
 |none=>simp [e1] at h
 |some q=>
  obtain⟨n,r0⟩:=q
  simp only[e1] at h
  have l1:=q1m e1
  cases e2:q1i n r0 with
  |none=>simp [e2] at h
  |some q=>
   obtain⟨ss,r1⟩:=q
   simp only[e2] at h
   have l2:=q4C _ _ _ _ e2
   cases e3:q0Q r1 with
   |none=>simp [e3] at h
   |some q=>
    obtain⟨m,r2⟩:=q
    simp only[e3] at h
    have l3:=q1m e3
    cases e4:q1Y m r2 with
    |none=>simp [e4] at h
    |some q=>
     obtain⟨gs,r3⟩:=q
     simp only[e4,Option.some.injEq,Prod.mk.injEq] at h
     obtain⟨rfl,_⟩:=h
     have hg:=z18 m r2 gs r3 (by omega) e4
     simp only at h0
     exact⟨by simp only;omega,by simp only;omega,fun g hgm=>(hg g hgm).cd,q9K n r0 ss r1 (by omega) e2,fun g hgm=>(hg g hgm).gn,fun g hgm=>(hg g hgm).wd⟩
end Go.Vm
end

section
namespace Go.Vm
set_option maxRecDepth 20000
open Go.Proofs
theorem by_ok{t:Table}(h:q1P t=0)(hs:t.shapes.length≤1048576)(hw:∀ g∈t.globals,∀ x∈g.code,x.a≤9223372036854775807):ByOk t:=by
 have hp:=j3M h hs hw
 have names:(∀ s∈t.shapes,q2s s.name=true)∧∀ g∈t.globals,q2s g.name=true:=by
  unfold q1P at h
  split at h
  ·cases h
  ·split at h
   ·cases h
   ·split at h
    ·cases h
    ·split at h
     ·cases h
     ·rename_i h1 h2 h3 h4
      have m1:=q2h _ _ _ (by simpa using h2)
      have m2:=q2h _ _ _ (by simpa using h4)
      exact⟨fun s hs=>(m1 (s.name,s.fields) (List.mem_map.2 ⟨s,hs,rfl⟩)).1,fun g hg=>(m2 (g.name,g.arity) (List.mem_map.2 ⟨g,hg,rfl⟩)).1⟩
 have ne:∀ s:Bs,q2s s=true→s≠[]:=by
  rintro s hs rfl
  simp [q2s] at hs
 refine⟨hp.nm,fun s hs=>ne _ (names.1 s hs),fun g hg=>ne _ (names.2 g hg),hs,hp.gl,fun g hg=>⟨(hp.cd g hg).1,fun x hx=>?_⟩⟩
 have hi:=(hp.cd g hg).2 x hx
 refine⟨hi.op,fun hn=>?_⟩
 have h3:x.op=3∨x.op=15:=by simpa using hn
 have e:0<(q7T x.op).length∧nth (q7T x.op) 0=110:=by rcases h3 with h3|h3 <;> rw[h3] <;> decide
 have:=hi.a e.1
 rw[e.2] at this
 rcases this with⟨_,h⟩|⟨h,_⟩|⟨h,_⟩|⟨h,_⟩
 ·omega
 ·exact absurd h (by decide)
 ·exact absurd h (by decide)
 ·exact absurd h (by decide)
end Go.Vm
end

section
namespace Go.Vm
set_option maxRecDepth 20000
open Go.Proofs
def M68(K:Cx):Prop:=∀(l:Bs)(n:Nat),l.length≤999999999000→n≤18446744073709551615→K.eff 68 [.bsl 0 0 l.length,.d false (.int .u64 n)] [.dat false 1 (l.map eU)]=some (.bsl 0 0 (l++leb n).length,[.dat false 1 ((l++leb n).map eU)],[0])
theorem s2rU(c:Bool)(s:Bs):z8Y (.d c (.str s))=some (.d true (.sl 1 (s.map eU))):=rfl
theorem z5N(K:Cx)(h68:M68 K)(a:Bool)(l s:Bs)(hl:l.length≤999999990000)(hs:s.length≤100000)(h0:s≠[]) :
  q0U K f69 [.bsl 0 0 l.length,.d a (.str s)] [.dat false 1 (l.map eU)]=some (.bsl 0 0 (l++q3y s).length,[.dat false 1 ((l++q3y s).map eU)],[0]):=by
 have w:=w64u (n:=s.length) (by omega)
 have c68:=h68 l s.length (by omega) (by omega)
 have hq:(l++leb s.length).length≤999999991000:=by have:=q1o (n:=s.length) (by omega);simp;omega
 rw[q3y,←List.append_assoc]
 clear h68 h0
 generalize l++leb s.length=m at *
 have hml:m.length+s.length≤4611686018427387904:=by omega
 simp(disch:=first|decide|omega|(simp only[LN];first|done|omega)) only[SV,SW,f69,Nat.reduceAdd,Nat.reduceBEq,q0D,w,c68,q0q,Nat.reduceSub,V.forget,V.drop1,V.ref0,lose,e_s2r,s2rU,q5L,j2E,q0C,q0d,hNew,V.newR,q0b]
 trace_state
def z4j(x:Instr):Bs:=leb (w64n x.op)++(if(q0S x.op).2.1==3 then leb (q2z x.a) else if(q0S x.op).2.1 != 0 then leb (w64n x.a) else [])++(if(q0S x.op).2.2 != 0 then leb (w64n x.b) else [])
theorem z16{x:Instr}(h:1≤x.op∧x.op<18):z4j x=q2i x∧((q0S x.op).2.1==3)=(x.op==3||x.op==15):=by
 obtain⟨op,a,b⟩:=x
 simp only at h ⊢
 unfold z4j q2i opB
 simp only
 have e:leb (w64n op)=[UInt8.ofNat (op % 256).toNat]:=by
  have:w64n op=(op % 256).toNat:=by unfold w64n;omega
  rw[this,q4w (by omega)]
 rw[e]
 have:op=1∨op=2∨op=3∨op=4∨op=5∨op=6∨op=7∨op=8∨op=9∨op=10∨op=11∨op=12∨op=13∨op=14∨op=15∨op=16∨op=17:=by omega
 clear e h
 rcases this with rfl|rfl|rfl|rfl|rfl|rfl|rfl|rfl|rfl|rfl|rfl|rfl|rfl|rfl|rfl|rfl|rfl <;> exact⟨by simp [q0S,z5H,nth,q7T],by decide⟩
set_option maxHeartbeats 1000000 in
theorem z3q(K:Cx)(h68:M68 K)(h79:K40 K)(h100:∀ a:Int,-9223372036854775808≤a→a≤9223372036854775807→K.call 100 [.d false (.int .i64 a)]=some (.d false (.int .u64 (q2z a)),[]))(l:Bs)(x:Instr)(hl:l.length≤999999990000)(ho:1≤x.op∧x.op<18)(hn:NumR x) :
  q0U K f70 [.bsl 0 0 l.length,.agg [.d false (.int .i64 x.op),.d false (.int .i64 x.a),.d false (.int .i64 x.b)]] [.dat false 1 (l.map eU)]=some (.bsl 0 0 (l++q2i x).length,[.dat false 1 ((l++q2i x).map eU)],[0]):=by
 obtain⟨e1,e2⟩:=z16 ho
 rw[←e1]
 unfold NumR at hn
 rw[←e2] at hn
 clear e1 e2
 have c79:=h79 x.op
 unfold z49 at c79
 unfold z4j
 have hlo:=q1o (q2E x.op)
 have co:=h68 l (w64n x.op) (by omega) (q2E _)
 have wo:=z6V x.op
 have wa:=z6V x.a
 have wb:=z6V x.b
 rw[←List.append_assoc,←List.append_assoc]
 have hmm:(l++leb (w64n x.op)).length≤999999991000:=by simp;omega
 generalize l++leb (w64n x.op)=m at *
 generalize q0S x.op=f at *
 obtain⟨fs,fa,fb⟩:=f
 simp only at *
 have ca:=h68 m (w64n x.a) (by omega) (q2E _)
 have hla:=q1o (q2E x.a)
 have cab:=h68 (m++leb (w64n x.a)) (w64n x.b) (by simp;omega) (q2E _)
 have cb:=h68 m (w64n x.b) (by omega) (q2E _)
 by_cases h3:fa=3
 ·subst h3
  have hr:=hn rfl
  have hlf:=q1o (q75 hr.1 hr.2)
  have cf:=h68 m (q2z x.a) (by omega) (q75 hr.1 hr.2)
  have c100:=h100 x.a hr.1 hr.2
  have cfb:=h68 (m++leb (q2z x.a)) (w64n x.b) (by simp;omega) (q2E _)
  clear h68 h79 h100 hn hr ho
  rw[if_pos (by decide)]
  by_cases hb:fb=0
  ·subst hb
   rw[if_neg (by decide),List.append_nil]
   simp(disch:=first|decide|omega|(simp only[LN];first|done|omega)) only[SV,SW,f70,Nat.reduceAdd,Nat.reduceBEq,q0b,c79,lose,q0D,wo,co,q0q,Nat.reduceSub,V.forget,V.drop1,V.ref0,reduceCtorEq,c100,cf,q0C,q0d,hNew,V.newR]
  ·have hb':(fb != 0)=true:=by simpa using hb
   rw[hb',if_pos rfl]
   clear hb
   generalize m++leb (q2z x.a)=m2 at *
   simp(disch:=first|decide|omega|(simp only[LN];first|done|omega)) only[SV,SW,f70,Nat.reduceAdd,Nat.reduceBEq,q0b,c79,lose,q0D,wo,co,q0q,Nat.reduceSub,V.forget,V.drop1,V.ref0,reduceCtorEq,c100,cf,hb',wb,cfb,q0C,q0d,hNew,V.newR]
 ·have h3':(fa==3)=false:=by simpa using h3
  rw[h3']
  clear h68 h79 h100 hn ho h3
  simp only[Bool.false_eq_true,if_false]
  by_cases ha:fa=0
  ·subst ha
   rw[if_neg (by decide),List.append_nil]
   by_cases hb:fb=0
   ·subst hb
    rw[if_neg (by decide),List.append_nil]
    simp(disch:=first|decide|omega|(simp only[LN];first|done|omega)) only[SV,SW,f70,Nat.reduceAdd,Nat.reduceBEq,q0b,c79,lose,q0D,wo,co,q0q,Nat.reduceSub,V.forget,V.drop1,V.ref0,reduceCtorEq,q0C,q0d,hNew,V.newR]
   ·have hb':(fb != 0)=true:=by simpa using hb
    rw[hb',if_pos rfl]
    clear hb
    simp(disch:=first|decide|omega|(simp only[LN];first|done|omega)) only[SV,SW,f70,Nat.reduceAdd,Nat.reduceBEq,q0b,c79,lose,q0D,wo,co,q0q,Nat.reduceSub,V.forget,V.drop1,V.ref0,reduceCtorEq,hb',wb,cb,q0C,q0d,hNew,V.newR]
  ·have ha':(fa != 0)=true:=by simpa using ha
   rw[ha',if_pos rfl]
   clear ha
   by_cases hb:fb=0
   ·subst hb
    rw[if_neg (by decide),List.append_nil]
    simp(disch:=first|decide|omega|(simp only[LN];first|done|omega)) only[SV,SW,f70,Nat.reduceAdd,Nat.reduceBEq,q0b,c79,lose,q0D,wo,co,q0q,Nat.reduceSub,V.forget,V.drop1,V.ref0,reduceCtorEq,h3',ha',wa,ca,q0C,q0d,hNew,V.newR]
   ·have hb':(fb != 0)=true:=by simpa using hb
    rw[hb',if_pos rfl]
    clear hb
    generalize m++leb (w64n x.a)=m2 at *
    simp(disch:=first|decide|omega|(simp only[LN];first|done|omega)) only[SV,SW,f70,Nat.reduceAdd,Nat.reduceBEq,q0b,c79,lose,q0D,wo,co,q0q,Nat.reduceSub,V.forget,V.drop1,V.ref0,reduceCtorEq,h3',ha',wa,ca,hb',wb,cab,q0C,q0d,hNew,V.newR]
end Go.Vm
end

section
namespace Go.Vm
set_option maxRecDepth 20000
open Go.Proofs
def M69(K:Cx):Prop:=∀(l s:Bs),l.length≤999999990000→s.length≤100000→s≠[]→K.eff 69 [.bsl 0 0 l.length,.d false (.str s)] [.dat false 1 (l.map eU)]=some (.bsl 0 0 (l++q3y s).length,[.dat false 1 ((l++q3y s).map eU)],[0])
def M70(K:Cx):Prop:=∀(l:Bs)(x:Instr),l.length≤999999990000→1≤x.op∧x.op<18→NumR x→K.eff 70 [.bsl 0 0 l.length,.agg [.d false (.int .i64 x.op),.d false (.int .i64 x.a),.d false (.int .i64 x.b)]] [.dat false 1 (l.map eU)]=some (.bsl 0 0 (l++q2i x).length,[.dat false 1 ((l++q2i x).map eU)],[0])
def byA:Seg:=⟨[],[(37,(.conv .u64 (.ld 1 false (.fa 1 (.sl 7)))))],[],some (some 34,.calle 69 (.cons (.sl 5) (.cons (.ld 1 false (.fa 0 (.sl 7))) .nil))),[1,25,26,27],7,[[],[],[1],[1,2,0],[],[4],[4,5],[5,4,6,0,2,1,3],[3,1,2,0,6,4,5,7]],[],[(.fa 1 (.sl 7)),(.ld 1 false (.fa 1 (.sl 7))),(.conv .u64 (.ld 1 false (.fa 1 (.sl 7))))]⟩
theorem j46(K:Cx)(t:Table)(l m:Bs)(nm:Bs)(fd n i:Int)(x25:D)(w:IntKind.u64.wrap fd=(w64n fd:Int))(c69:K.eff 69 [.bsl 0 0 l.length,.d false (.str nm)] [.dat false 1 (l.map eU)]=some (.bsl 0 0 m.length,[.dat false 1 (m.map eU)],[0])) :
  q04 K ⟨[(1,.ptr 0 0 0),(5,.bsl 1 0 l.length),(7,.ptr 2 0 0),(25,.d false x25),(26,.d false (.int .i64 n)),(27,.d false (.int .i64 i))],[(2,.mix 2 [[.d false (.str nm),.d false (.int .i64 fd)]]),(0,.mix 2 [tabV t]),(1,.dat false 1 (l.map eU))],3,[]⟩ byA =
   some ⟨[(34,.bsl 1 0 m.length),(37,.d false (.int .u64 (w64n fd))),(1,.ptr 0 0 0),(25,.d false x25),(26,.d false (.int .i64 n)),(27,.d false (.int .i64 i))],[(2,.mix 2 [[.d false (.str nm),.d false (.int .i64 fd)]]),(0,.mix 2 [tabV t]),(1,.dat false 1 (m.map eU))],3,[1]⟩:=by
 simp only[tabV]
 refine q5Z ?_ ?_
 ·unfold byA
  rw[q2T]
  simp(disch:=first|decide|omega|(simp only[LN];first|done|omega)) only[SV,SW,Nat.reduceBEq,q0D,w,c69,q0q,Nat.reduceSub,V.forget,V.drop1,V.ref0,lose,reduceCtorEq]
 ·rw[show q1V _ _=[1] from rfl]
  unfold byA z1W
  simp(disch:=first|decide|omega|(simp only[LN];first|done|omega)) only[SV,SW,List.isEmpty_cons,q3r,q35,reduceCtorEq,Nat.reduceEqDiff,q36,Nat.reduceBEq,q1I,dynF,z1V,q4X,Blk.still,Bool.false_or,q7S,q0D,w]
  simp [V.eqb,V.eqb1,D.eqb]
set_option maxHeartbeats 1000000 in
theorem bc_L0(K:Cx)(h68:M68 K)(h69:M69 K)(t:Table)(ht:ByOk t):∀(k i:Nat)(l:Bs),i+k=t.shapes.length→l.length≤100+10000*i→
  lp K 0 [1,5,25,26,27] f24_L0 ⟨[(1,.ptr 0 0 0),(5,.bsl 1 0 l.length),(25,.d false (.sl 2 (t.shapes.map q0k))),(26,.d false (.int .i64 t.shapes.length)),(27,.d false (.int .i64 i))],[(0,.mix 2 [tabV t]),(1,.dat false 1 (l.map eU))],2,[]⟩ =
   some (.exit 0,⟨[(1,.ptr 0 0 0),(5,.bsl 1 0 (l++(t.shapes.drop i).flatMap shB).length)],[(0,.mix 2 [tabV t]),(1,.dat false 1 ((l++(t.shapes.drop i).flatMap shB).map eU))],2,[]⟩):=by
 have hsl:=ht.sl
 intro k
 induction k with
 |zero=>
  intro i l hi hl
  obtain rfl:i=t.shapes.length:=by omega
  rw[q1O f24_L0.eq_1,List.drop_length,List.flatMap_nil,List.append_nil]
  simp only[tabV]
  simp(disch:=first|decide|omega|(simp only[LN];first|done|omega)) only[SV,SW,Nat.reduceBEq,reduceCtorEq,Nat.reduceAdd]
 |succ k ih=>
  intro i l hi hl
  have hd:t.shapes.drop i=nth t.shapes i :: t.shapes.drop (i+1):=q3d (by omega)
  have hm:nth t.shapes (i:Int)∈t.shapes:=List.mem_of_getElem? (q4b (by omega))
  generalize hx:nth t.shapes (i:Int)=s at *
  have hn:=ht.nm.sn s hm
  have hlen:=z68 hn
  have hlen2:=q6k hn
  have c69:=h69 l s.name (by omega) (by omega) (ht.ns s hm)
  have c68:=h68 (l++q3y s.name) (w64n s.fields) (by simp only[List.length_append];omega) (q2E _)
  have w:=z6V s.fields
  have ih:=ih (i+1) (l++shB s) (by omega) (by simp only[List.length_append];omega)
  rw[hd,List.flatMap_cons,←List.append_assoc,←ih]
  rw[show l++shB s=(l++q3y s.name)++leb (w64n s.fields) by simp [shB]]
  clear ih hd hm ht h68 h69
  generalize l++q3y s.name=m at *
  have eA:=j46 K t l m s.name s.fields t.shapes.length i (.sl 2 (t.shapes.map q0k)) w c69
  unfold byA at eA
  rw[q1O f24_L0.eq_1]
  simp only[tabV] at eA ⊢
  simp(disch:=first|decide|omega|(simp only[LN];first|done|omega)) only[SV,SW,Nat.reduceBEq,Nat.reduceAdd,hx,q1a,lose,eA,c68,q0q,Nat.reduceSub,V.forget,V.drop1,V.ref0,reduceCtorEq]
  rfl
mutual
theorem j0U:∀ x:D,x.eqb x=true
 |.int _ _=>by simp [D.eqb]
 |.bool _=>by simp [D.eqb]
 |.str _=>by simp [D.eqb]
 |.sl _ rows=>by simp [D.eqb,q3K rows]
 |.ptr cs=>by simp [D.eqb,q6L cs]
 |.nilp=>rfl
 |.nilif=>rfl
 |.nilfn=>rfl
 |.nilm=>rfl
 |.nils _=>by simp [D.eqb]
 |.emps _=>by simp [D.eqb]
 |.iface _ cs=>by simp [D.eqb,q6L cs]
theorem q6L:∀ x:List D,dRow x x=true
 |[]=>rfl
 |a :: r=>by simp [dRow,j0U a,q6L r]
theorem q3K:∀ x:List (List D),q9C x x=true
 |[]=>rfl
 |a :: r=>by simp [q9C,q6L a,q3K r]
end
def byB:Seg:=⟨[],[],[(.conv .u64 (.len false (.ld 1 false (.fa 2 (.sl 9))))),(.conv .u64 (.ld 1 false (.fa 1 (.sl 9))))],some (some 56,.calle 69 (.cons (.sl 5) (.cons (.ld 1 false (.fa 0 (.sl 9))) .nil))),[9,47,48,49],11,[[],[],[1],[],[3],[3,4],[],[6],[6,7],[7,6,8],[1,2,0],[4,3,5,0,2,1,10],[8,6,7,9,10,1,2,0,5,3,4,11],[11,4,3,5,0,2,1,10,9,7,6,8,12]],[],[(.fa 1 (.sl 9)),(.ld 1 false (.fa 1 (.sl 9))),(.conv .u64 (.ld 1 false (.fa 1 (.sl 9)))),(.fa 2 (.sl 9)),(.ld 1 false (.fa 2 (.sl 9))),(.len false (.ld 1 false (.fa 2 (.sl 9)))),(.conv .u64 (.len false (.ld 1 false (.fa 2 (.sl 9)))))]⟩
def byC:Seg:=⟨[],[],[(.conv .u64 (.len false (.ld 1 false (.fa 2 (.sl 9)))))],some (some 60,.calle 68 (.cons (.sl 56) (.cons (.conv .u64 (.ld 1 false (.fa 1 (.sl 9)))) .nil))),[9,47,48,49],1,[],[],[(.fa 2 (.sl 9)),(.ld 1 false (.fa 2 (.sl 9))),(.len false (.ld 1 false (.fa 2 (.sl 9)))),(.conv .u64 (.len false (.ld 1 false (.fa 2 (.sl 9)))))]⟩
abbrev gRow(g:Glob):List V:=[.d false (.str g.name),.d false (.int .i64 g.arity),.d false (.sl 3 (g.code.map q0J))]
abbrev bcS(k:Nat)(mv:List Nat)(g:Glob)(l:Bs)(n i:Int)(x:D):S:=⟨[(k,.bsl 0 0 l.length),(9,.ptr 1 0 0),(47,.d false x),(48,.d false (.int .i64 n)),(49,.d false (.int .i64 i))],[(1,.mix 3 [gRow g]),(0,.dat false 1 (l.map eU))],2,mv⟩
theorem j45(K:Cx)(g:Glob)(l m:Bs)(n i:Int)(x:D)(hcl:g.code.length≤8000)(w:IntKind.u64.wrap g.arity=(w64n g.arity:Int))(wl:IntKind.u64.wrap (g.code.length:Int)=(g.code.length:Int))(c69:K.eff 69 [.bsl 0 0 l.length,.d false (.str g.name)] [.dat false 1 (l.map eU)]=some (.bsl 0 0 m.length,[.dat false 1 (m.map eU)],[0])) :
  q04 K (bcS 5 [] g l n i x) byB=some (bcS 56 [0] g m n i x)∧q5O K (bcS 5 [] g l n i x) (bcS 56 [0] g m n i x) byB=true:=by
 constructor
 ·refine q5Z ?_ ?_
  ·unfold byB
   rw[q2T]
   simp(disch:=first|decide|omega|(simp only[LN];first|done|omega)) only[SV,SW,Nat.reduceBEq,q0D,wl,w,c69,q0q,Nat.reduceSub,V.forget,V.drop1,V.ref0,lose,reduceCtorEq]
  ·rw[show q1V _ _=[0] from rfl]
   unfold byB z1W
   simp(disch:=first|decide|omega|(simp only[LN];first|done|omega)) only[SV,SW,List.isEmpty_cons,q3r,q35,reduceCtorEq,q36,Nat.reduceBEq,q1I,dynF,z1V,q4X,Blk.still,Bool.false_or,q7S,q0D,w,wl]
   simp [V.eqb,V.eqb1,D.eqb,q3K]
 ·unfold byB q5O
  simp(disch:=first|decide|omega|(simp only[LN];first|done|omega)) only[SV,SW,List.isEmpty_cons,q7S,Nat.reduceBEq,q0D,w,wl,Bool.false_or]
  simp [V.eqb,V.eqb1,D.eqb,q3K]
theorem j44(K:Cx)(g:Glob)(l m:Bs)(n i:Int)(x:D)(hcl:g.code.length≤8000)(w:IntKind.u64.wrap g.arity=(w64n g.arity:Int))(wl:IntKind.u64.wrap (g.code.length:Int)=(g.code.length:Int))(c68:K.eff 68 [.bsl 0 0 l.length,.d false (.int .u64 (w64n g.arity))] [.dat false 1 (l.map eU)]=some (.bsl 0 0 m.length,[.dat false 1 (m.map eU)],[0])) :
  q04 K (bcS 56 [0] g l n i x) byC=some (bcS 60 [0,0] g m n i x)∧q5O K (bcS 56 [0] g l n i x) (bcS 60 [0,0] g m n i x) byC=true:=by
 constructor
 ·refine q5Z ?_ ?_
  ·unfold byC
   rw[q2T]
   simp(disch:=first|decide|omega|(simp only[LN];first|done|omega)) only[SV,SW,Nat.reduceBEq,q0D,wl,w,c68,q0q,Nat.reduceSub,V.forget,V.drop1,V.ref0,lose,reduceCtorEq]
  ·rw[show q1V _ _=[0] from rfl]
   unfold byC z1W
   simp(disch:=first|decide|omega|(simp only[LN];first|done|omega)) only[SV,SW,List.isEmpty_cons,q3r,q35,reduceCtorEq,q36,Nat.reduceBEq,q0D,w,q1I,dynF,z1V,q4X,Blk.still,Bool.false_or,q7S,wl]
   simp [V.eqb,V.eqb1,D.eqb,q3K]
 ·unfold byC q5O
  simp(disch:=first|decide|omega|(simp only[LN];first|done|omega)) only[SV,SW,List.isEmpty_cons,q7S,Nat.reduceBEq,q0D,wl,Bool.false_or]
  simp [V.eqb,V.eqb1,D.eqb,q3K]
theorem j43(K:Cx)(g:Glob)(l m1 m2 m3:Bs)(n i:Int)(x:D)(hcl:g.code.length≤8000)(w:IntKind.u64.wrap g.arity=(w64n g.arity:Int))(wl:IntKind.u64.wrap (g.code.length:Int)=(g.code.length:Int))
  (c69:K.eff 69 [.bsl 0 0 l.length,.d false (.str g.name)] [.dat false 1 (l.map eU)]=some (.bsl 0 0 m1.length,[.dat false 1 (m1.map eU)],[0]))
  (c68:K.eff 68 [.bsl 0 0 m1.length,.d false (.int .u64 (w64n g.arity))] [.dat false 1 (m1.map eU)]=some (.bsl 0 0 m2.length,[.dat false 1 (m2.map eU)],[0]))
  (c68':K.eff 68 [.bsl 0 0 m2.length,.d false (.int .u64 g.code.length)] [.dat false 1 (m2.map eU)]=some (.bsl 0 0 m3.length,[.dat false 1 (m3.map eU)],[0])) :
  q09 K (bcS 5 [] g l n i x) [byB,byC,⟨[],[],[],some (some 65,.calle 68 (.cons (.sl 60) (.cons (.conv .u64 (.len false (.ld 1 false (.fa 2 (.sl 9))))) .nil))),[9,47,48,49],1,[],[],[]⟩,⟨[],[(5,(.sl 65))],[],none,[9,47,48,49],1,[],[],[]⟩]=some (bcS 5 [0,0,0] g m3 n i x):=by
 obtain⟨b1,b2⟩:=j45 K g l m1 n i x hcl w wl c69
 obtain⟨d1,d2⟩:=j44 K g m1 m2 n i x hcl w wl c68
 have e3:q04 K (bcS 60 [0,0] g m2 n i x) ⟨[],[],[],some (some 65,.calle 68 (.cons (.sl 60) (.cons (.conv .u64 (.len false (.ld 1 false (.fa 2 (.sl 9))))) .nil))),[9,47,48,49],1,[],[],[]⟩=some (bcS 65 [0,0,0] g m3 n i x):=by
  simp(disch:=first|decide|omega|(simp only[LN];first|done|omega)) only[SV,SW,Nat.reduceBEq,q0D,wl,c68',q0q,Nat.reduceSub,V.forget,V.drop1,V.ref0,lose,reduceCtorEq]
 have e4:q04 K (bcS 65 [0,0,0] g m3 n i x) ⟨[],[(5,(.sl 65))],[],none,[9,47,48,49],1,[],[],[]⟩=some (bcS 5 [0,0,0] g m3 n i x):=by
  simp(disch:=first|decide|omega|(simp only[LN];first|done|omega)) only[SV,SW,Nat.reduceBEq]
 rw[q1D b1 b2,q1D d1 d2,q1D e3 rfl,q5X,e4]
end Go.Vm
end

section
namespace Go.Vm
set_option maxRecDepth 20000
open Go.Proofs
set_option maxHeartbeats 1000000 in
theorem bc_L1(K:Cx)(h70:M70 K)(g:Glob)(hcd:g.code.length≤8000∧∀ x∈g.code,(1≤x.op∧x.op<18)∧NumR x)(B:Nat)(hB:B≤900000000000)(x47:D)(n j:Int):∀(k i:Nat)(l:Bs),i+k=g.code.length→l.length≤B+100*i→
  lp K 0 [5,47,48,49,67,68,69] f24_L1 ⟨[(5,.bsl 0 0 l.length),(47,.d false x47),(48,.d false (.int .i64 n)),(49,.d false (.int .i64 j)),(67,.d false (.sl 3 (g.code.map q0J))),(68,.d false (.int .i64 g.code.length)),(69,.d false (.int .i64 i))],[(0,.dat false 1 (l.map eU))],1,[]⟩ =
   some (.exit 4,⟨[(5,.bsl 0 0 (l++(g.code.drop i).flatMap q2i).length),(47,.d false x47),(48,.d false (.int .i64 n)),(49,.d false (.int .i64 j))],[(0,.dat false 1 ((l++(g.code.drop i).flatMap q2i).map eU))],1,[]⟩):=by
 obtain⟨hcl,hin⟩:=hcd
 intro k
 induction k with
 |zero=>
  intro i l hi hl
  obtain rfl:i=g.code.length:=by omega
  rw[q1O f24_L1.eq_1,List.drop_length,List.flatMap_nil,List.append_nil]
  simp(disch:=first|decide|omega|(simp only[LN];first|done|omega)) only[SV,SW,Nat.reduceBEq]
 |succ k ih=>
  intro i l hi hl
  have hd:g.code.drop i=nth g.code i :: g.code.drop (i+1):=q3d (by omega)
  have hm:nth g.code (i:Int)∈g.code:=List.mem_of_getElem? (q4b (by omega))
  generalize hx:nth g.code (i:Int)=x at *
  obtain⟨hop,ha⟩:=hin x hm
  have hlen:=q7j ha
  have c70:=h70 l x (by omega) hop ha
  have ih:=ih (i+1) (l++q2i x) (by omega) (by simp only[List.length_append];omega)
  rw[hd,List.flatMap_cons,←List.append_assoc,←ih]
  clear ih hd hm hin h70 hop ha
  rw[q1O f24_L1.eq_1]
  generalize l++q2i x=m at *
  simp(disch:=first|decide|omega|(simp only[LN];first|done|omega)) only[SV,SW,Nat.reduceBEq,Nat.reduceAdd,hx,q1b,lose,dimL,c70,q0q,Nat.reduceSub,V.forget,V.drop1,V.ref0]
  rfl
set_option maxHeartbeats 2000000 in
theorem bc_L2(K:Cx)(h68:M68 K)(h69:M69 K)(h70:M70 K)(t:Table)(ht:ByOk t):∀(k i:Nat)(l:Bs),i+k=t.globals.length→l.length≤20000000000+10000000*i→
  lp K 0 [5,47,48,49] f24_L2 ⟨[(5,.bsl 0 0 l.length),(47,.d false (.sl 3 (t.globals.map q00))),(48,.d false (.int .i64 t.globals.length)),(49,.d false (.int .i64 i))],[(0,.dat false 1 (l.map eU))],1,[]⟩ =
   some (.exit 2,⟨[(5,.bsl 0 0 (l++(t.globals.drop i).flatMap glB).length)],[(0,.dat false 1 ((l++(t.globals.drop i).flatMap glB).map eU))],1,[]⟩):=by
 have hgl:=ht.gl
 intro k
 induction k with
 |zero=>
  intro i l hi hl
  obtain rfl:i=t.globals.length:=by omega
  rw[q1O f24_L2.eq_1,List.drop_length,List.flatMap_nil,List.append_nil]
  simp(disch:=first|decide|omega|(simp only[LN];first|done|omega)) only[SV,SW,Nat.reduceBEq]
 |succ k ih=>
  intro i l hi hl
  have hd:t.globals.drop i=nth t.globals i :: t.globals.drop (i+1):=q3d (by omega)
  have hm:nth t.globals (i:Int)∈t.globals:=List.mem_of_getElem? (q4b (by omega))
  generalize hx:nth t.globals (i:Int)=g at *
  have hn:=ht.nm.gn g hm
  have hcl:=(ht.cd g hm).1
  have hlen:=q6k hn
  have hla:=q1o (q2E g.arity)
  have hlc:=q1o (n:=g.code.length) (by omega)
  have c69:=h69 l g.name (by omega) (by omega) (ht.ng g hm)
  have c68:=h68 (l++q3y g.name) (w64n g.arity) (by simp only[List.length_append];omega) (q2E _)
  have c68':=h68 (l++q3y g.name++leb (w64n g.arity)) g.code.length (by simp only[List.length_append];omega) (by omega)
  have w:=z6V g.arity
  have wl:=w64u (n:=g.code.length) (by omega)
  have e1:=bc_L1 K h70 g (ht.cd g hm) (20000000000+10000000*i+10000) (by omega) (.sl 3 (t.globals.map q00)) t.globals.length i g.code.length 0 (l++q3y g.name++leb (w64n g.arity)++leb g.code.length) (by omega) (by simp only[List.length_append];omega)
  simp only[List.drop_zero,Int.natCast_zero] at e1
  have hgo:(g.code.flatMap q2i).length≤g.code.length*21:=q6x _ fun x hx=>q7j ((ht.cd g hm).2 x hx).2
  have ih:=ih (i+1) (l++q3y g.name++leb (w64n g.arity)++leb g.code.length++g.code.flatMap q2i) (by omega) (by simp only[List.length_append];omega)
  rw[hd,List.flatMap_cons]
  rw[show l++(glB g++(t.globals.drop (i+1)).flatMap glB)=(l++q3y g.name++leb (w64n g.arity)++leb g.code.length++g.code.flatMap q2i)++(t.globals.drop (i+1)).flatMap glB by simp [glB]]
  rw[←ih]
  clear ih hd hm ht h68 h69 h70 hgo
  generalize l++q3y g.name=m1 at *
  generalize m1++leb (w64n g.arity)=m2 at *
  generalize m2++leb g.code.length=m3 at *
  have eB:=j43 K g l m1 m2 m3 t.globals.length i (.sl 3 (t.globals.map q00)) hcl w wl c69 c68 c68'
  unfold byB byC bcS gRow at eB
  rw[q1O f24_L2.eq_1]
  simp(disch:=first|decide|omega|(simp only[LN];first|done|omega)) only[SV,SW,Nat.reduceBEq,Nat.reduceAdd,hx,q2W,lose,z8L,eB,e1]
  rfl
def f24o:Fun:=⟨f24.body,f24.res,true⟩
theorem j2N:q1s Go.Proofs.Tryz.prog 24 0 1 f24o=true:=by kernel_rfl
end Go.Vm
end

section
namespace Go.Vm
set_option maxRecDepth 20000
open Go.Proofs
theorem u8n{n:Nat}(h:n<256):(UInt8.ofNat n).toNat=n:=by simp;omega
theorem z4m:∀(f j n a:Nat)(r:Bs),f+j=10→n*128 ^ j<2 ^ 64→(0<j→0<n)→q4V f j a (leb n++r)=some (a+n*128 ^ j,r)
 |0,j,n,a,r,hf,hn,hz=>by
  obtain rfl:j=10:=by omega
  have:=hz (by omega)
  have h1:128 ^ 10≤n*128 ^ 10:=Nat.le_mul_of_pos_left _ this
  have:(128:Nat) ^ 10=1180591620717411303424:=by decide
  omega
 |f+1,j,n,a,r,hf,hn,hz=>by
  have h9:j=9→n≤1:=by
   rintro rfl
   have:(128:Nat) ^ 9=9223372036854775808:=by decide
   rw[this] at hn
   omega
  rw[leb]
  split
  ·rename_i hs
   have e:=u8n (show n<256 by omega)
   simp only[List.cons_append,List.nil_append,q4V,e]
   rw[if_neg (by rintro(⟨h1,h2⟩|⟨h1,h2⟩);have:=h9 h1;omega;have:=hz h1;omega),if_pos hs,Nat.mod_eq_of_lt hs]
  ·rename_i hs
   have e:=u8n (show n % 128+128<256 by omega)
   simp only[List.cons_append,q4V,e]
   rw[if_neg (by rintro(⟨h1,h2⟩|⟨h1,h2⟩);have:=h9 h1;omega;omega),if_neg (by omega)]
   have m:(n % 128+128) % 128=n % 128:=by omega
   have hp:n / 128*128 ^ (j+1)+n % 128*128 ^ j=n*128 ^ j:=by
    rw[Nat.pow_succ,Nat.mul_comm (128 ^ j) 128,←Nat.mul_assoc,←Nat.add_mul]
    congr 1
    omega
   rw[m,z4m f (j+1) (n / 128) _ r (by omega) (by omega) (fun _=>by omega)]
   congr 2
   omega
theorem z7y{n:Nat}(r:Bs)(h:n<2 ^ 64):numT (leb n++r)=some (n,r):=by
 unfold numT
 rw[z4m 10 0 n 0 r rfl (by simpa using h) (by omega)]
 simp
theorem q3F{n:Nat}(r:Bs)(h:n≤9223372036854775807):q0h (leb n++r)=some (n,r):=by
 unfold q0h
 rw[z7y r (by omega)]
 simp only
 rw[if_neg (by omega)]
theorem q6M{n:Nat}(r:Bs)(h:n≤9223372036854775807)(hr:n≤r.length):q0Q (leb n++r)=some (n,r):=by
 unfold q0Q
 rw[q3F r h]
 simp only
 rw[if_neg (by omega)]
theorem q9W{s:Bs}(r:Bs)(h:s.length≤4096):q2e (q3y s++r)=some (s,r):=by
 unfold q2e q3y
 rw[List.append_assoc,q6M _ (by omega) (by simp)]
 simp
theorem z2O{a:Int}:q8k (q2z a)=a:=by
 unfold q8k q2z
 split <;> split <;> omega
theorem z5g{a:Int}(r:Bs)(h0 : -9223372036854775808≤a)(h1:a≤9223372036854775807):q2r (leb (q2z a)++r)=some (a,r):=by
 unfold q2r
 have:=q75 h0 h1
 rw[z7y r (by omega)]
 simp only[z2O]
theorem q8i{a:Int}(h0:0≤a)(h1:a≤9223372036854775807):((w64n a:Nat):Int)=a∧w64n a≤9223372036854775807:=by
 unfold w64n
 omega
structure Rt(x:Instr):Prop where
 op:1≤x.op∧x.op<18
 a3:(q0S x.op).2.1=3→-9223372036854775808≤x.a∧x.a≤9223372036854775807
 a1:(q0S x.op).2.1≠3→(q0S x.op).2.1≠0→0≤x.a∧x.a≤9223372036854775807
 a0:(q0S x.op).2.1=0→x.a=0
 b1:(q0S x.op).2.2≠0→0≤x.b∧x.b≤9223372036854775807
 b0:(q0S x.op).2.2=0→x.b=0
theorem z5h{ng ns nc i:Int}{x:Instr}(h:q6i ng ns nc i x=0)(h0:0≤i)(hw:x.a≤9223372036854775807)(hnc:nc≤8000)(hns:ns≤1048576)(hng:ng≤2000):Rt x:=by
 unfold q6i at h
 by_cases g:1≤x.op∧x.op<18
 ·rw[if_pos g] at h
  have key:∀ a b:Int,(if a=172∨b=172 then(172:Int) else if a≠0∨b≠0 then 174 else 0)=0→a=0∧b=0:=by
   intro a b h
   split at h
   ·omega
   ·split at h <;> omega
  obtain⟨ha,hb⟩:=key _ _ h
  clear h
  have:x.op=1∨x.op=2∨x.op=3∨x.op=4∨x.op=5∨x.op=6∨x.op=7∨x.op=8∨x.op=9∨x.op=10∨x.op=11∨x.op=12∨x.op=13∨x.op=14∨x.op=15∨x.op=16∨x.op=17:=by omega
  obtain⟨op,a,b⟩:=x
  simp only at this ha hb g hw
  rcases this with rfl|rfl|rfl|rfl|rfl|rfl|rfl|rfl|rfl|rfl|rfl|rfl|rfl|rfl|rfl|rfl|rfl <;>
   simp [q0S,z5H,nth,q1U] at ha hb <;> refine⟨by simp,fun hl=>?_,fun hl hm=>?_,fun hl=>?_,fun hl=>?_,fun hl=>?_⟩ <;> simp [q0S,z5H,nth] at * <;> omega
 ·rw[if_neg g] at h;cases h
theorem z15{x:Instr}(r:Bs)(h:Rt x):q1C (q2i x++r)=some (x,r):=by
 obtain⟨e1,e2⟩:=z16 h.op
 rw[←e1]
 unfold z4j q1C
 have ho:=q8i (a:=x.op) (by have:=h.op;omega) (by have:=h.op;omega)
 rw[List.append_assoc,List.append_assoc,q3F _ ho.2]
 simp only[ho.1]
 have eb:argB (q0S x.op).2.2 ((if(q0S x.op).2.2 != 0 then leb (w64n x.b) else [])++r)=some (x.b,r):=by
  unfold argB
  by_cases hb:(q0S x.op).2.2=0
  ·simp only[hb,bne_self_eq_false,Bool.false_eq_true,if_false,List.nil_append,h.b0 hb]
  ·have hw:=q8i (h.b1 hb).1 (h.b1 hb).2
   have hb':((q0S x.op).2.2 != 0)=true:=by simpa using hb
   simp only[hb',if_true]
   rw[q3F _ hw.2]
   simp only[hw.1]
 generalize hq:(if(q0S x.op).2.2 != 0 then leb (w64n x.b) else [])++r=q at eb ⊢
 have ea:argA (q0S x.op).2.1 ((if(q0S x.op).2.1==3 then leb (q2z x.a) else if(q0S x.op).2.1 != 0 then leb (w64n x.a) else [])++q)=some (x.a,q):=by
  unfold argA
  by_cases h3:(q0S x.op).2.1=3
  ·have h3':((q0S x.op).2.1==3)=true:=by simpa using h3
   simp only[h3',if_true]
   exact z5g _ (h.a3 h3).1 (h.a3 h3).2
  ·have h3':((q0S x.op).2.1==3)=false:=by simpa using h3
   by_cases h0:(q0S x.op).2.1=0
   ·have h0':((q0S x.op).2.1 != 0)=false:=by simpa using h0
    simp only[h3',h0',Bool.false_eq_true,if_false,List.nil_append,h.a0 h0]
   ·have h0':((q0S x.op).2.1 != 0)=true:=by simpa using h0
    have hw:=q8i (h.a1 h3 h0).1 (h.a1 h3 h0).2
    simp only[h3',h0',Bool.false_eq_true,if_false,if_true]
    rw[q3F _ hw.2]
    simp only[hw.1]
 rw[if_pos (show 1≤w64n x.op∧w64n x.op<18 by have:=h.op;omega),ea]
 simp only[eb]
theorem z2v:∀(xs:List Instr)(r:Bs),(∀ x∈xs,Rt x)→q3q xs.length (xs.flatMap q2i++r)=some (xs,r)
 |[],r,_=>rfl
 |x :: xs,r,h=>by
  simp only[List.length_cons,q3q,List.flatMap_cons,List.append_assoc]
  rw[z15 _ (h x (by simp))]
  simp only
  rw[z2v xs r (fun y hy=>h y (List.mem_cons_of_mem _ hy))]
theorem z0H{α:Type}(f:α→Bs):∀(l:List α),(∀ x∈l,f x≠[])→l.length≤(l.flatMap f).length
 |[],_=>by simp
 |x :: l,h=>by
  have:=z0H f l fun y hy=>h y (List.mem_cons_of_mem _ hy)
  have:=List.length_pos_iff.2 (h x (by simp))
  simp only[List.flatMap_cons,List.length_append,List.length_cons]
  omega
structure RtG(g:Glob):Prop where
 nm:g.name.length≤4096
 ar:0≤g.arity∧g.arity≤9223372036854775807
 cl:g.code.length≤8000
 cd:∀ x∈g.code,Rt x
theorem j0C{g:Glob}(r:Bs)(h:RtG g):q5I (glB g++r)=some (g,r):=by
 unfold q5I glB
 have hw:=q8i h.ar.1 h.ar.2
 have hf:=z0H q2i g.code fun x _=>by simp [q2i]
 have hc:=h.cl
 rw[List.append_assoc,List.append_assoc,List.append_assoc,q9W _ h.nm]
 simp only
 rw[q3F _ hw.2]
 simp only
 rw[q6M _ (by omega) (by rw[List.length_append];omega)]
 simp only
 rw[z2v g.code r h.cd]
 simp only[hw.1]
theorem q92:∀(gs:List Glob)(r:Bs),(∀ g∈gs,RtG g)→q1Y gs.length (gs.flatMap glB++r)=some (gs,r)
 |[],r,_=>rfl
 |x :: xs,r,h=>by
  simp only[List.length_cons,q1Y,List.flatMap_cons,List.append_assoc]
  rw[j0C _ (h x (by simp))]
  simp only
  rw[q92 xs r (fun y hy=>h y (List.mem_cons_of_mem _ hy))]
structure RtS(s:Shape):Prop where
 nm:s.name.length≤4096
 fd:0≤s.fields∧s.fields≤9223372036854775807
theorem q8s:∀(ss:List Shape)(r:Bs),(∀ s∈ss,RtS s)→q1i ss.length (ss.flatMap shB++r)=some (ss,r)
 |[],r,_=>rfl
 |x :: xs,r,h=>by
  have hx:=h x (by simp)
  have hw:=q8i hx.fd.1 hx.fd.2
  simp only[List.length_cons,q1i,List.flatMap_cons,List.append_assoc,shB]
  rw[q9W _ hx.nm]
  simp only
  rw[q3F _ hw.2]
  simp only
  have ih:=q8s xs r (fun y hy=>h y (List.mem_cons_of_mem _ hy))
  rw[ih]
  simp only[hw.1]
structure RtT(t:Table):Prop where
 sl:t.shapes.length≤1048576
 gl:t.globals.length≤2000
 sh:∀ s∈t.shapes,RtS s
 gs:∀ g∈t.globals,RtG g
theorem q61{t:Table}(h:RtT t):q1N ((q1K t).drop 4)=some (t,[]):=by
 have e:(q1K t).drop 4=leb t.shapes.length++(t.shapes.flatMap shB++(leb t.globals.length++(t.globals.flatMap glB++[]))):=by simp [q1K]
 have h1:=z0H shB t.shapes fun s _=>by simp [shB,j1r]
 have h2:=z0H glB t.globals fun s _=>by simp [glB,j1r]
 have hs:=h.sl
 have hg:=h.gl
 rw[e]
 unfold q1N
 rw[q6M _ (by omega) (by rw[List.length_append];omega)]
 try simp only
 rw[q8s t.shapes _ h.sh]
 try simp only
 rw[q6M _ (by omega) (by rw[List.length_append];omega)]
 try simp only
 rw[q92 t.globals [] h.gs]
theorem rt_ok{t:Table}(h:q1P t=0)(hs:t.shapes.length≤1048576)(hw:∀ g∈t.globals,∀ x∈g.code,x.a≤9223372036854775807):RtT t:=by
 have hp:=j3M h hs hw
 obtain⟨c1,c2,c3⟩:=z4z h
 refine⟨hs,by have:=hp.gl;omega,fun s hs=>⟨hp.nm.sn s hs,?_⟩,fun g hg=>⟨hp.nm.gn g hg,?_,?_,fun x hx=>?_⟩⟩
 ·have:=hp.fd s hs;omega
 ·have:=hp.ar g hg;omega
 ·have:=(hp.cd g hg).1;omega
 obtain⟨a1,a2,a3⟩:=c3 g hg
 unfold q1Q at a3
 split at a3
 ·rename_i z
  obtain⟨i,hi⟩:=List.getElem?_of_mem hx
  have hil:i<g.code.length:=by
   rcases Nat.lt_or_ge i g.code.length with h|h
   ·exact h
   ·rw[List.getElem?_eq_none h] at hi;cases hi
  have hn:=z0t g.code.length 0 z i (by omega) (by omega)
  have e:=q4b hil
  rw[hi] at e
  rw[←Option.some.inj e] at hn
  have:=(hp.cd g hg).1
  have:=hp.gl
  exact z5h hn (by omega) (hw g hg x hx) (by omega) (by omega) (by omega)
 ·rename_i z;exact absurd a3 z
end Go.Vm
end

section
namespace Go.Vm
open Go.RowKit
variable {P:Program}
structure StW(K:Cx)(X:Nat→Nat→Prop)(base:Nat)(w0:World)(F0:Nat→Prop)(m:Nat)(σ0:Nat→Option Loc)(s:S)(w:World)(F:Nat→Prop)(σ:Nat→Option Loc):Prop where
 heap:HeapRel w F X base σ s.nx s.heap
 glob:GlobRel w F K.glob
 le:base≤w.heap.size
 frame:Frame X base w0 w
 frz:∀ b,F b→F0 b∨base≤b
 dom:∀ b blk,look s.heap b=some blk→b<s.nx
 stab:∀ b l,b<m→σ0 b=some l→b∉s.mv→σ b=some l
 nxm:m≤s.nx
 xm:∀ b k,X b k→b<m
 sub:∀ b,F0 b→F b
variable {K:Cx}{X:Nat→Nat→Prop}{base:Nat}{w0:World}{F0:Nat→Prop}{m0:Nat}{σ0:Nat→Option Loc}
theorem StRel.mem{n:Nat}{s:S}{a:Act}{w:World}{F:Nat→Prop}{σ:Nat→Option Loc}(h:StRel K X base w0 F0 m0 σ0 n s a w F σ):StW K X base w0 F0 m0 σ0 s w F σ:=
 ⟨h.heap,h.glob,h.le,h.frame,h.frz,h.dom,h.stab,h.nxm,h.xm,h.sub⟩
theorem StW.rel{n:Nat}{s:S}{a:Act}{w:World}{F:Nat→Prop}{σ:Nat→Option Loc}(h:StW K X base w0 F0 m0 σ0 s w F σ)(hs:a.tmps.size=n)(hd:a.defers=K.dfr)(hr:∀ t v,look s.rho t=some v→RepV w F base σ (a.tmps.getD t undef) v):StRel K X base w0 F0 m0 σ0 n s a w F σ:=
 ⟨h.heap,h.glob,h.le,h.frame,h.frz,hs,hd,hr,h.dom,h.stab,h.nxm,h.xm,h.sub⟩
theorem StW.with{s:S}{w:World}{F:Nat→Prop}{σ:Nat→Option Loc}(h:StW K X base w0 F0 m0 σ0 s w F σ)(ρ:List (Nat×V)):StW K X base w0 F0 m0 σ0 ⟨ρ,s.heap,s.nx,s.mv⟩ w F σ:=
 ⟨h.heap,h.glob,h.le,h.frame,h.frz,h.dom,h.stab,h.nxm,h.xm,h.sub⟩
theorem StW.later{s:S}{w:World}{F:Nat→Prop}{σ:Nat→Option Loc}{ds:List Deferred}(h:StW (K.later ds) X base w0 F0 m0 σ0 s w F σ):StW K X base w0 F0 m0 σ0 s w F σ:=
 ⟨h.heap,h.glob,h.le,h.frame,h.frz,h.dom,h.stab,h.nxm,h.xm,h.sub⟩
theorem StW.after{s:S}{w w':World}{F F':Nat→Prop}{σ:Nat→Option Loc}(h:StW K X base w0 F0 m0 σ0 s w F σ)(haf:After w w' F F'):StW K X base w0 F0 m0 σ0 s w' F' σ:=by
 have hFw:∀ b,F b→F' b∧w'.heap[b]? = w.heap[b]?:=fun b hb=>⟨haf.sub b hb,haf.below.block b (h.heap.fro b hb)⟩
 refine⟨h.heap.after haf,h.glob.mono hFw,Nat.le_trans h.le haf.below.size,h.frame.trans (.of_after haf h.le),fun b hb=>?_,h.dom,h.stab,h.nxm,h.xm,fun b hb=>(hFw b (h.sub b hb)).1⟩
 rcases haf.old b hb with hb|hb
 ·exact h.frz b hb
 ·exact .inr (Nat.le_trans h.le hb)
def j5d(P:Program)(K:Cx)(G:FuncId)(v:V)(hc:C):Prop:=∀(X:Nat→Nat→Prop)(base:Nat)(w0:World)(F0:Nat→Prop)(m0:Nat)(σ0:Nat→Option Loc)(s s':S)(p q:Value)(w:World)(F:Nat→Prop)(σ:Nat→Option Loc)(pv:Value),
 StW K X base w0 F0 m0 σ0 s w F σ→RepV w F base σ p (.ptr 0 0 0)→RepV w F base σ q (.ptr 1 0 0)→PanV pv v→exec K hc ⟨[(0,.ptr 0 0 0),(1,.ptr 1 0 0)],s.heap,s.nx,s.mv⟩=some (.nrm,s')→
 CallsD P G #[p,q] (.panicking [{ v:=pv,recovered:=false }]) w fun e u' w'=>u'=.panicking [{ v:=pv,recovered:=true }]∧e=.returned (.tuple #[])∧∃ F' σ',StW K X base w0 F0 m0 σ0 s' w' F' σ'
def z9c(P:Program)(f:FuncId)(n:Nat)(g:DfrF):Bool:=match P.funcs[f]? with
 |some fn=>match fn.body with
  |some (.seq c0 (.seq ca (.seq r cb)))=>chk P 0 fn.ntmps g.c0 c0&&chk P 0 fn.ntmps g.ca ca&&z8a g.k g.G g.cap r&&decide (g.k<fn.ntmps)&&chk P 2 fn.ntmps g.cb cb &&
    decide (mapO (resE P) fn.results.toList=some g.res)&&decide (n≤fn.ntmps)&&(fn.name != "runtime.NumGoroutine")&&q0p P g.G&&decide (g.cap=[2,3])
  |_=>false
 |none=>false
inductive DfrEnd(K:Cx)(g:DfrF)(own:Bool)(v:V)(hc:C)(args:List V)(r:V)(news:List Blk):Prop where
 |early (s0 s1:S) (vs:List V) (mv:List Nat) (h0:exec K g.c0 (startS args [])=some (.nrm,s0)) (h1:exec K g.ca s0=some (.ret,s1)) (hv:mapO (ev K s1) g.res=some vs) (hf:finish 0 own s1 (q0d vs)=some (r,news,mv))
 |late (s0 s1:S) (h0:exec K g.c0 (startS args [])=some (.nrm,s0)) (h1:exec K g.ca s0=some (.nrm,s1)) (hk:look s1.rho g.k=none) (hn:2≤s1.nx) (h2:∀ ds,∃ s2 vs mv,exec (K.later ds) g.cb s1=some (.ret,s2)∧mapO (ev (K.later ds) s2) g.res=some vs∧finish 0 own s2 (q0d vs)=some (r,news,mv))
 |pan (s0 s1:S) (h0:exec K g.c0 (startS args [])=some (.nrm,s0)) (h1:exec K g.ca s0=some (.nrm,s1)) (hk:look s1.rho g.k=none) (hn:2≤s1.nx) (b0:look s1.rho 2=some (.ptr 0 0 0)) (b1:look s1.rho 3=some (.ptr 1 0 0))
   (h2:∀ ds,∃ s2 s4 vs mv,exec (K.later ds) g.cb s1=some (.pan v,s2)∧look s2.rho 2=some (.ptr 0 0 0)∧look s2.rho 3=some (.ptr 1 0 0)∧0∉s2.mv∧1∉s2.mv∧
    exec K hc ⟨[(0,.ptr 0 0 0),(1,.ptr 1 0 0)],s2.heap,s2.nx,s2.mv⟩=some (.nrm,s4)∧0∉s4.mv∧1∉s4.mv∧mapO (ev K ⟨[(2,.ptr 0 0 0),(3,.ptr 1 0 0)],s4.heap,s4.nx,s4.mv⟩) g.res=some vs∧finish 0 own ⟨[(2,.ptr 0 0 0),(3,.ptr 1 0 0)],s4.heap,s4.nx,s4.mv⟩ (q0d vs)=some (r,news,mv))
theorem z7o{w w':World}{F F':Nat→Prop}{σ σ':Nat→Option Loc}{u:Value}{b:Nat}(h:RepV w F base σ u (.ptr b 0 0))(hs:∀ l,σ b=some l→σ' b=some l):RepV w' F' base σ' u (.ptr b 0 0):=by
 cases h with
 |ptr _ _ _ l h=>exact .ptr b 0 0 l (hs l h)
theorem q7V{w:World}{F:Nat→Prop}{σ:Nat→Option Loc}{u:Value}{b i j:Nat}(h:RepV w F base σ u (.ptr b i j)):∃ l,σ b=some l∧u=.pointer (some ⟨l.blk,i*l.k+j,none⟩):=by
 cases h with
 |ptr _ _ _ l h=>exact⟨l,h,rfl⟩
theorem z5X(hm:P.follows .mixedOrders=true){K:Cx}(hK:K.Sound P){f:FuncId}{g:DfrF}{own:Bool}{v:V}{hc:C}{args:List V}{r:V}{news:List Blk}(hok:z9c P f args.length g=true)(hq:j1k P g.G 2)(hh:j5d P K g.G v hc)(hr:DfrEnd K g own v hc args r news)(hd0:K.dfr=[]:=by rfl) :
  q0p P f=true∧q2o P K.glob f args r news:=by
 unfold z9c at hok
 cases hf:P.funcs[f]? with
 |none=>simp [hf] at hok
 |some fn=>
  simp only[hf] at hok
  split at hok
  case h_2=>cases hok
  rename_i c0 ca rg cb hb
  simp only[Bool.and_eq_true,decide_eq_true_eq] at hok
  obtain⟨⟨⟨⟨⟨⟨⟨⟨⟨k0,ka⟩,kr⟩,kk⟩,kb⟩,hres⟩,hn⟩,hname⟩,hG⟩,hcp⟩:=hok
  refine⟨by simp [q0p,hf,hb,hname],fun w F vals hF hGl hargs=>?_⟩
  have hX:∀ b k,¬ OwnB (fun _=>none) b k:=by rintro b k ⟨l,h,_⟩;cases h
  have hH:HeapRel w F (OwnB fun _=>none) w.heap.size (fun _=>none) ([]:List Blk).length (indexed []):=⟨fun b blk h=>by simp [indexed,look] at h,fun b b' l l' h=>(by cases h),fun b l h=>(by cases h),hF⟩
  refine calls_of_wp_defers hf hb ?_
  have hst:StRel K (OwnB fun _=>none) w.heap.size w F 0 (fun _=>none) fn.ntmps (startS args []) { tmps:=vals++Array.replicate (fn.ntmps - vals.size) undef,defers:=[] } w F (fun _=>none):=by
   refine⟨hH,hGl,Nat.le_refl _,.refl _ _ _,fun b hb=>.inl hb,?_,hd0.symm,fun t v hv=>?_,fun b blk h=>?_,fun _ _ _ h _=>h,Nat.le_refl _,fun b k hx=>?_,fun _ h=>h⟩
   ·have:=hargs.1
    simp;omega
   ·obtain⟨_,hv'⟩:=q6p args 0 t v hv
    rw[Nat.sub_zero] at hv'
    have ht:t<vals.size:=by rw[hargs.1];exact(List.getElem?_eq_some_iff.1 hv').1
    have hget:(vals++Array.replicate (fn.ntmps - vals.size) undef).getD t undef=vals[t]:=by
     rw[Array.getD_eq_getD_getElem?,Array.getElem?_append_left ht]
     simp [ht]
    show RepV w F w.heap.size _ ((vals++Array.replicate (fn.ntmps - vals.size) undef).getD t undef) v
    rw[hget]
    exact hargs.2 t _ v (by simp [ht]) hv'
   ·simp [startS,indexed,look] at h
   ·exact absurd hx (hX b k)
  have shut:∀(s:S) (a:Act) (w':World) (F':Nat→Prop) (σ':Nat→Option Loc) (vs:List V) (mv:List Nat) (K1:Cx),StRel K1 (OwnB fun _=>none) w.heap.size w F 0 (fun _=>none) fn.ntmps s a w' F' σ'→mapO (ev K1 s) g.res=some vs→finish 0 own s (q0d vs)=some (r,news,mv)→
    ∃ v,(results fn a.tmps).run P w'=.ok v w'∧(∃ v' F' σ',Ending.returned v=.returned v'∧Below w.heap.size w w'∧(∀ b,F' b→F b∨w.heap.size≤b)∧
     RepV w' F' w.heap.size σ' v' r∧HeapRel w' F' (fun _ _=>False) w.heap.size σ' news.length (indexed news)):=by
   intro s a w' F' σ' vs mv K1 hs hvs hfin
   obtain⟨v,h1,v',F'',σ'',he,hfr,_,hF',hR,hHr,_⟩:=z2f hres hs hvs hfin
   refine⟨v,h1,v',F'',σ'',he,⟨hfr.os,hfr.tape,hfr.output,hfr.size,fun k hk=>hfr.block k hk (fun b=>hX b k)⟩,hF',hR,⟨hHr.blk,hHr.inj,fun b l hb=>?_,hHr.fro⟩⟩
   obtain⟨o1,o2,o3,o4⟩:=hHr.own b l hb
   exact⟨o1,o2,o3.imp id (fun hx=>hX b _ hx),o4⟩
  -- pinned no more
  have unpin:∀(K1:Cx) (m:Nat) (σ0:Nat→Option Loc) (s:S) (w':World) (F':Nat→Prop) (σ':Nat→Option Loc),StW K1 (OwnB fun _=>none) w.heap.size w F m σ0 s w' F' σ'→StW K1 (OwnB fun _=>none) w.heap.size w F 0 (fun _=>none) s w' F' σ':=
   fun K1 m σ0 s w' F' σ' h=>⟨h.heap,h.glob,h.le,h.frame,h.frz,h.dom,fun b l hb=>by omega,Nat.zero_le _,fun b k hx=>absurd hx (hX b k),h.sub⟩
  have unpinR:∀(K1:Cx) (m:Nat) (σ0:Nat→Option Loc) (s:S) (a:Act) (w':World) (F':Nat→Prop) (σ':Nat→Option Loc),StRel K1 (OwnB fun _=>none) w.heap.size w F m σ0 fn.ntmps s a w' F' σ'→StRel K1 (OwnB fun _=>none) w.heap.size w F 0 (fun _=>none) fn.ntmps s a w' F' σ':=
   fun K1 m σ0 s a w' F' σ' h=>(unpin K1 m σ0 s w' F' σ' h.mem).rel h.size h.dfr h.rho
  -- the closure is laid
  have lay:∀(s1:S) (a:Act) (w2:World) (F2:Nat→Prop) (σ2:Nat→Option Loc),look s1.rho g.k=none→2≤s1.nx→StRel K (OwnB fun _=>none) w.heap.size w F 0 (fun _=>none) fn.ntmps s1 a w2 F2 σ2→
    StRel (K.later [{ target:=.fn (.func g.G) (g.cap.map fun t=>a.tmps.getD t undef).toArray,args:=#[] }]) (OwnB fun _=>none) w.heap.size w F 2 σ2 fn.ntmps s1 { tmps:=a.tmps.setIfInBounds g.k (.func (.func g.G) #[] (g.cap.map fun t=>a.tmps.getD t undef).toArray),defers:=[{ target:=.fn (.func g.G) (g.cap.map fun t=>a.tmps.getD t undef).toArray,args:=#[] }] } w2 F2 σ2:=by
   intro s1 a w2 F2 σ2 hk hn2 hs2
   have h:=hs2.later (ds:=[{ target:=.fn (.func g.G) (g.cap.map fun t=>a.tmps.getD t undef).toArray,args:=#[] }]) (a':={ tmps:=a.tmps.setIfInBounds g.k (.func (.func g.G) #[] (g.cap.map fun t=>a.tmps.getD t undef).toArray),defers:=[{ target:=.fn (.func g.G) (g.cap.map fun t=>a.tmps.getD t undef).toArray,args:=#[] }] }) (by simp [hs2.size]) rfl fun t v ht=>by
    have hne:t≠g.k:=by rintro rfl;rw[hk] at ht;cases ht
    simp only[Array.getD_eq_getD_getElem?]
    rw[Array.getElem?_setIfInBounds_ne (by omega)]
   exact⟨h.heap,h.glob,h.le,h.frame,h.frz,h.size,h.dfr,h.rho,h.dom,fun b l _ hb _=>hb,hn2,fun b k hx=>absurd hx (hX b k),h.sub⟩
  cases hr with
  |early s0 s1 vs mv h0 h1 hv hfn=>
   refine wp_seq (wp_mono (q0Y hm hK g.c0 c0 _ _ _ _ _ _ k0 h0 hst) fun e a w1 hp=>?_)
   obtain⟨rfl,F1,σ1,hs1⟩:=hp
   refine wp_seq (wp_mono (q0Y hm hK g.ca ca _ _ _ _ _ _ ka h1 hs1) fun e a w2 hp=>?_)
   obtain⟨rfl,F2,σ2,hs2⟩:=hp
   obtain⟨v,q1,q2⟩:=shut s1 a w2 F2 σ2 vs mv K hs2 hv hfn
   show Leaves P fn a.tmps _ a.defers .returning w2
   rw[hs2.dfr,hd0]
   exact⟨v,q1,q2⟩
  |late s0 s1 h0 h1 hk hn2 h2=>
   refine wp_seq (wp_mono (q0Y hm hK g.c0 c0 _ _ _ _ _ _ k0 h0 hst) fun e a w1 hp=>?_)
   obtain⟨rfl,F1,σ1,hs1⟩:=hp
   refine wp_seq (wp_mono (q0Y hm hK g.ca ca _ _ _ _ _ _ ka h1 hs1) fun e a w2 hp=>?_)
   obtain⟨rfl,F2,σ2,hs2⟩:=hp
   refine wp_seq (z78 kr (by rw[hs2.size];exact kk) ?_)
   have hdf:a.defers=[]:=hs2.dfr.trans hd0
   rw[hdf]
   have hs3:=lay s1 a w2 F2 σ2 hk hn2 hs2
   have hcs:(g.cap.map fun t=>a.tmps.getD t undef).toArray.size=2:=by rw[hcp];simp
   generalize (g.cap.map fun t=>a.tmps.getD t undef).toArray=cap at hs3 hcs ⊢
   obtain⟨s2,vs,mv,h2,hv,hfn⟩:=h2 [{ target:=.fn (.func g.G) cap,args:=#[] }]
   refine wp_mono (q0Y hm (Cx.later_sound hK _) g.cb cb _ _ _ _ _ _ kb h2 hs3) fun e a3 w3 hp=>?_
   obtain⟨rfl,F3,σ3,hs4⟩:=hp
   obtain⟨v,q1,q2⟩:=shut s2 a3 w3 F3 σ3 vs mv _ (unpinR _ _ _ _ _ _ _ _ hs4) hv hfn
   show Leaves P fn a3.tmps _ a3.defers .returning w3
   rw[hs4.dfr]
   refine leaves_cons (f:=g.G) (args:=cap) (by simp) ?_ ((hq cap w3 hcs).mono ?_)
   ·have:=q3g (w:=w3) hG cap
    simpa [invoke] using this
   ·rintro e u' w4 ⟨rfl,rfl,rfl⟩
    exact⟨v,q1,q2⟩
  |pan s0 s1 h0 h1 hk hn2 b0 b1 h2=>
   refine wp_seq (wp_mono (q0Y hm hK g.c0 c0 _ _ _ _ _ _ k0 h0 hst) fun e a w1 hp=>?_)
   obtain⟨rfl,F1,σ1,hs1⟩:=hp
   refine wp_seq (wp_mono (q0Y hm hK g.ca ca _ _ _ _ _ _ ka h1 hs1) fun e a w2 hp=>?_)
   obtain⟨rfl,F2,σ2,hs2⟩:=hp
   refine wp_seq (z78 kr (by rw[hs2.size];exact kk) ?_)
   have hdf:a.defers=[]:=hs2.dfr.trans hd0
   rw[hdf]
   have hs3:=lay s1 a w2 F2 σ2 hk hn2 hs2
   have r0:=hs2.rho 2 _ b0
   have r1:=hs2.rho 3 _ b1
   have hcap:(g.cap.map fun t=>a.tmps.getD t undef).toArray = #[a.tmps.getD 2 undef,a.tmps.getD 3 undef]:=by rw[hcp];rfl
   rw[hcap] at hs3 ⊢
   generalize a.tmps.getD 2 undef=u0 at r0 hs3 ⊢
   generalize a.tmps.getD 3 undef=u1 at r1 hs3 ⊢
   obtain⟨s2,s4,vs,mv,h2,c0',c1',m0,m1,h3,m2,m3,hv,hfn⟩:=h2 [{ target:=.fn (.func g.G) #[u0,u1],args:=#[] }]
   refine wp_mono (q0Y hm (Cx.later_sound hK _) g.cb cb _ _ _ _ _ _ kb h2 hs3) fun e a3 w3 hp=>?_
   obtain⟨pv,rfl,hpv,F3,σ3,hs4⟩:=hp
   show Leaves P fn a3.tmps _ a3.defers (.panicking _) w3
   rw[hs4.dfr]
   have st0:∀ l,σ2 0=some l→σ3 0=some l:=fun l hl=>hs4.stab 0 l (by omega) hl m0
   have st1:∀ l,σ2 1=some l→σ3 1=some l:=fun l hl=>hs4.stab 1 l (by omega) hl m1
   refine leaves_cons (f:=g.G) (args:=#[u0,u1]) (by simp) ?_ ((hh _ _ _ _ _ _ s2 s4 _ _ w3 F3 σ3 pv hs4.mem.later (z7o r0 st0) (z7o r1 st1) hpv h3).mono ?_)
   ·have:=q3g (w:=w3) hG #[u0,u1]
    simpa [invoke] using this
   ·rintro e u' w4 ⟨rfl,rfl,F4,σ4,hW⟩
    have hs:settle (.panicking [{ v:=pv,recovered:=true }])=.returning:=rfl
    show Leaves P fn a3.tmps _ [] (settle _) w4
    rw[hs]
    have q0:=hs4.rho 2 _ c0'
    have q1:=hs4.rho 3 _ c1'
    have hrel:StRel (K.later [{ target:=.fn (.func g.G) #[u0,u1],args:=#[] }]) (OwnB fun _=>none) w.heap.size w F 0 (fun _=>none) fn.ntmps ⟨[(2,.ptr 0 0 0),(3,.ptr 1 0 0)],s4.heap,s4.nx,s4.mv⟩ a3 w4 F4 σ4:=by
     have hu:=(unpin K _ _ _ _ _ _ hW).with [(2,.ptr 0 0 0),(3,.ptr 1 0 0)]
     refine⟨hu.heap,hu.glob,hu.le,hu.frame,hu.frz,hs4.size,hs4.dfr,fun t v hv=>?_,hu.dom,hu.stab,hu.nxm,hu.xm,hu.sub⟩
     simp only[look] at hv
     split at hv
     ·rename_i ht
      subst ht
      obtain rfl:=Option.some.inj hv
      obtain⟨l,hl,hu⟩:=q7V q0
      obtain⟨l',hl',_⟩:=q7V r0
      have e1:=st0 l' hl'
      rw[hl] at e1
      obtain rfl:=Option.some.inj e1
      show RepV w4 F4 w.heap.size σ4 (a3.tmps.getD 2 undef) _
      rw[hu]
      exact .ptr 0 0 0 l (hW.stab 0 l (by omega) hl' m2)
     ·split at hv
      ·rename_i ht
       subst ht
       obtain rfl:=Option.some.inj hv
       obtain⟨l,hl,hu⟩:=q7V q1
       obtain⟨l',hl',_⟩:=q7V r1
       have e1:=st1 l' hl'
       rw[hl] at e1
       obtain rfl:=Option.some.inj e1
       show RepV w4 F4 w.heap.size σ4 (a3.tmps.getD 3 undef) _
       rw[hu]
       exact .ptr 1 0 0 l (hW.stab 1 l (by omega) hl' m3)
      ·cases hv
    have hev:mapO (ev (K.later [{ target:=.fn (.func g.G) #[u0,u1],args:=#[] }]) ⟨[(2,.ptr 0 0 0),(3,.ptr 1 0 0)],s4.heap,s4.nx,s4.mv⟩) g.res=some vs:=by
     have:ev (K.later [{ target:=.fn (.func g.G) #[u0,u1],args:=#[] }]) ⟨[(2,.ptr 0 0 0),(3,.ptr 1 0 0)],s4.heap,s4.nx,s4.mv⟩=ev K ⟨[(2,.ptr 0 0 0),(3,.ptr 1 0 0)],s4.heap,s4.nx,s4.mv⟩:=funext fun e=>z4r K _ _ e
     rw[this];exact hv
    obtain⟨v,z1,z2⟩:=shut _ a3 w4 F4 σ4 vs mv _ hrel hev hfn
    exact⟨v,z1,z2⟩
end Go.Vm
end

section
namespace Go.Vm
set_option maxRecDepth 20000
open Go.Proofs Go.RowKit
def hcC(e:Int):C:=.reg [⟨[],[],[],some (none,.store 2 (.sl 0) (.agg (.cons (.nilsl 2) (.cons (.nilsl 3) .nil)))),[1],2,[],[],[]⟩,⟨[],[],[],some (none,.store 1 (.sl 1) (.int .i64 e)),[],1,[],[],[]⟩]
theorem j2h{pv:Value}(h:PanV pv brk):pv=.iface 95 (.agg #[]):=by
 have:=h default (fun _=>False) 0 (fun _=>none)
 unfold brk at this
 cases this with
 |iface _ v _ hv=>
  cases hv with
  |agg cs _ h1 _ _=>
   have:cs = #[]:=Array.eq_empty_of_size_eq_zero (by simpa using h1)
   rw[this]
theorem hta(w:World):(Instr.typeAssert (.iface 95 (.agg #[])) 20 95 true).run Tryz.prog w=.ok (.tuple #[.agg #[],.bool true]) w:=by
 simp [Instr.typeAssert,go_sem]
theorem j4h(K:Cx)(hd:K.dfr=[])(hK:K.Sound Tryz.prog):j5d Tryz.prog K 76 brk (hcC 171):=by
 intro X base w0 F0 m0 σ0 s s' p q w F σ pv hW hp hq hpv hex
 obtain rfl:=j2h hpv
 refine(callsD_of_wpS (R:=fun e u' w'=>u'=.panicking [{ v:=.iface 95 (.agg #[]),recovered:=true }]∧e=.returned (.tuple #[])∧∃ F' σ',StW K X base w0 F0 m0 σ0 s' w' F' σ') Tryz.func76 rfl fun c₀ cs hu=>?_)
 apply wpS_seq
 apply wpS_region
 simp [wpOpsS,go_sem,recoverD,hu,Tryz.ntmps76,Exit.thenS]
 apply wpS_seq
 apply wpS_region
 simp [wpOpsS,go_sem,recoverD,hu,Tryz.ntmps76,Exit.thenS]
 refine wpS_cond (t:=true) (by simp [Act.eval,Array.replicate]) ?_
 simp only[if_true]
 apply wpS_seq
 apply wpS_seq
 apply wpS_region
 simp [wpOpsS,go_sem,recoverD,hu,Tryz.ntmps76,Exit.thenS,hta]
 apply wpS_seq
 apply wpS_region
 simp [wpOpsS,go_sem,recoverD,hu,Tryz.ntmps76,Exit.thenS]
 refine wpS_cond (t:=false) (by simp [Act.eval,Array.replicate]) ?_
 simp only[Bool.false_eq_true,if_false]
 refine wpS_of_wp (wp_skip ?_)
 simp only[Exit.thenS]
 refine wpS_of_wp ?_
 have hbel:Below w.heap.size w (w.alloc (.cells #[] 95)):=⟨rfl,rfl,rfl,by
  show w.heap.size≤(w.heap.push (.cells #[] 95)).size
  simp,fun k hk=>by
  show(w.heap.push (.cells #[] 95))[k]? = _
  rw[Array.getElem?_push,if_neg (by omega)]⟩
 have hW1:=hW.after (w':=w.alloc (.cells #[] 95)) (F':=F) ⟨hbel,fun b hb=>hb,fun b hb=>.inl hb,fun b hb=>Nat.lt_of_lt_of_le (hW.heap.fro b hb) hbel.size⟩
 have hF:∀ b,F b→F b∧(w.alloc (.cells #[] 95)).heap[b]? = w.heap[b]?:=fun b hb=>⟨hb,hbel.block b (hW.heap.fro b hb)⟩
 have hp1:=hp.mono (w':=w.alloc (.cells #[] 95)) hF (fun _ _ h=>h)
 have hq1:=hq.mono (w':=w.alloc (.cells #[] 95)) hF (fun _ _ h=>h)
 refine wp_mono (q0Y (m0:=m0) (n:=Tryz.f76.ntmps) q1A hK (hcC 171) _ _ _ _ _ F σ ?_ hex ((hW1.with [(0,.ptr 0 0 0),(1,.ptr 1 0 0)]).rel ?_ hd.symm ?_)) ?_
 ·kernel_rfl
 ·simp [Tryz.ntmps76]
 ·intro t v ht
  simp only[look] at ht
  split at ht
  ·rename_i e
   subst e
   obtain rfl:=Option.some.inj ht
   simpa using hp1
  ·split at ht
   ·rename_i e
    subst e
    obtain rfl:=Option.some.inj ht
    simpa using hq1
   ·cases ht
 ·rintro e a w' ⟨rfl,F',σ',hs⟩
  exact⟨hs.dfr.trans hd,_,rfl,.tuple #[],by simp [results,Tryz.results76],rfl,rfl,F',σ',hs.mem⟩
end Go.Vm
end

section
namespace Go.Vm
set_option maxRecDepth 20000
open Go.Proofs
def mkB(v:V)(nx:Nat)(H:List (Nat×Blk)):Option Blk→Option (List (Nat×Blk)×V×Lost×Nat)
 |some b=>if b.entries.isNone then some (H,v,.none,nx) else none
 |none=>none
theorem z7M(v nx H c k rows):mkB v nx H (some (.dat c k rows))=some (H,v,.none,nx):=rfl
def mkA(nx:Nat)(H:List (Nat×Blk)):V→Option (List (Nat×Blk)×V×Lost×Nat)
 |.bsl id i len=>if 0<len then mkB (.bsl id i len) nx H (look H id) else none
 |_=>none
theorem z7N(nx H id i len):mkA nx H (.bsl id i len)=if 0<len then mkB (.bsl id i len) nx H (look H id) else none:=rfl
theorem z2m(K s H a):evWr K s H (.mark a)=o1 (mkA s.nx H) (ev K s a):=by
 simp only[evWr]
 cases ev K s a with
 |none=>rfl
 |some v=>
  cases v with
  |bsl id i len=>
   simp only[q10,mkA]
   split
   ·cases look H id <;> rfl
   ·rfl
  |_=>rfl
def rBy(p:Bs×Int):V×List Blk:=if p.2=0 then(.tup [.bsl 0 0 p.1.length,.d false (.int .i64 0)],[.dat true 1 (p.1.map eU)]) else(.tup [.fs true 1 [],.d false (.int .i64 p.2)],[])
set_option maxHeartbeats 2000000 in
theorem z8V(K:Cx)(h13:K13 K)(h68:M68 K)(h69:M69 K)(h70:M70 K)(h71:∀ s:Int,K.call 71 [.d false (.int .u32 s)]=some (.d true (.sl 1 ((q28 s).map eU)),[]))(h72:∀ l:Bs,l.length≤1000000000000→K.call 72 [.d false (.sl 1 (l.map eU))]=some (.d false (.int .u32 (sumS l)),[]))(t:Table)(hto:TabOk t)(hs:t.shapes.length≤1048576) :
  q0U K f24o [.agg (tabV t)] []=some ((rBy (q4y t)).1,(rBy (q4y t)).2,[]):=by
 have c13:=h13 t hto
 unfold q4y rBy
 by_cases hc:q1P t=0
 ·rw[if_pos hc]
  have ht:=by_ok hc hs hto.wd
  have hgl:=ht.gl
  rw[hc] at c13
  have hls:=q1o (n:=t.shapes.length) (by omega)
  have hlg:=q1o (n:=t.globals.length) (by omega)
  have c68:=h68 [83,76,84,72] t.shapes.length (by simp) (by omega)
  have e0:=bc_L0 K h68 h69 t ht t.shapes.length 0 ([83,76,84,72]++leb t.shapes.length) (by omega) (by simp only[List.length_append,List.length_cons,List.length_nil];omega)
  have hl0:(t.shapes.flatMap shB).length≤t.shapes.length*4300:=q6x _ fun s hs'=>z68 (ht.nm.sn s hs')
  simp only[List.drop_zero,Int.natCast_zero] at e0
  generalize hq:[83,76,84,72]++leb t.shapes.length++t.shapes.flatMap shB=q at *
  have hql:q.length≤10000000000:=by rw[←hq];simp only[List.length_append,List.length_cons,List.length_nil];omega
  have c68':=h68 q t.globals.length (by omega) (by omega)
  have e1:=bc_L2 K h68 h69 h70 t ht t.globals.length 0 (q++leb t.globals.length) (by omega) (by simp only[List.length_append];omega)
  simp only[List.drop_zero,Int.natCast_zero] at e1
  have hgo:(t.globals.flatMap glB).length≤t.globals.length*200000:=q6x _ fun g hg=>by
   have h1:=q6k (ht.nm.gn g hg)
   have h2:=q1o (q2E g.arity)
   have h3:=(ht.cd g hg).1
   have h4:=q1o (n:=g.code.length) (by omega)
   have h5:(g.code.flatMap q2i).length≤g.code.length*21:=q6x _ fun x hx=>q7j ((ht.cd g hg).2 x hx).2
   simp only[glB,List.length_append];omega
  have hbody:q++leb t.globals.length++t.globals.flatMap glB=q1K t:=by rw[←hq,q1K]
  have hbl:(q1K t).length≤100000000000:=by rw[←hbody];simp only[List.length_append];omega
  rw[hbody] at e1
  have c72:=h72 (q1K t) (by omega)
  have wl:=w64u (n:=t.shapes.length) (by omega)
  have wg:=w64u (n:=t.globals.length) (by omega)
  unfold q0t
  generalize q1K t=bd at *
  generalize hm1:[83,76,84,72]++leb t.shapes.length=m1 at *
  generalize hm2:q++leb t.globals.length=m2 at *
  simp only[List.map_cons,List.map_nil,List.length_cons,List.length_nil] at c68
  simp only[j3c] at c68
  rw[show((83:UInt8).toNat:Int)=83 from rfl,show((76:UInt8).toNat:Int)=76 from rfl,show((84:UInt8).toNat:Int)=84 from rfl,show((72:UInt8).toNat:Int)=72 from rfl] at c68
  generalize hs2:sumS bd=s2 at *
  have c71:=h71 s2
  clear ht h68 h69 h70 h71 h72 h13 hto hc hl0 hgo hbody hq hm1 hm2
  have hf4:(q28 s2).length=4:=rfl
  have hfl:(bd++q28 s2).length=bd.length+4:=by simp [hf4]
  simp only[tabV] at e0 e1 ⊢
  by_cases hbig:8388608<(bd++q28 s2).length
  ·rw[if_pos hbig,if_neg (show ¬(4:Int)=0 by decide)]
   have hbi:(8388608:Int)<(bd.length:Int)+4:=by omega
   simp(disch:=first|decide|omega|(simp only[LN];first|done|omega)) only[SV,SW,f24o,f24,Nat.reduceAdd,Nat.reduceBEq,q0b,c13,z2m,z7N,z7M,lose,q0D,wl,c68,q0q,Nat.reduceSub,V.forget,V.drop1,V.ref0,reduceCtorEq,e0,wg,c68',e1,c72,c71,q5L,j2E,hf4,q0d]
   trace_state
  ·rw[if_neg hbig,if_pos rfl]
   have hbi:¬(8388608:Int)<(bd.length:Int)+4:=by omega
   simp(disch:=first|decide|omega|(simp only[LN];first|done|omega)) only[SV,SW,f24o,f24,Nat.reduceAdd,Nat.reduceBEq,q0b,c13,z2m,z7N,z7M,lose,q0D,wl,c68,q0q,Nat.reduceSub,V.forget,V.drop1,V.ref0,reduceCtorEq,e0,wg,c68',e1,c72,c71,q5L,j2E,hf4,q0d,hNew,V.newR]
   trace_state
 ·rw[if_neg hc,if_neg hc]
  have hb:(q1P t != 0)=true:=by simpa using hc
  clear h68 h69 h70 h71 h72 h13 hto hc
  simp only[tabV]
  generalize q1P t=z at *
  simp(disch:=first|decide|omega|(simp only[LN];first|done|omega)) only[SV,SW,f24o,f24,Nat.reduceAdd,Nat.reduceBEq,q0b,c13,hb,q0d]
  trace_state
end Go.Vm
end

section
namespace Go.Vm
set_option maxRecDepth 100000
open Go.RowKit Go.Shelf Go.Proofs
def T8:List Row:=[⟨13,0,1,f13⟩,⟨15,0,2,f15⟩,⟨19,0,1,f19⟩,⟨24,0,1,f24⟩,⟨33,0,0,f33⟩,⟨34,0,1,f34⟩,⟨35,0,1,f35⟩,⟨36,0,0,f36⟩,⟨37,0,2,f37⟩,⟨48,0,1,f48⟩,⟨50,0,2,f50⟩,⟨60,1,1,f60⟩,⟨60,2,1,f60⟩,⟨60,3,1,f60⟩,⟨60,4,1,f60⟩,⟨60,5,1,f60⟩,⟨61,1,1,f61⟩,⟨61,2,1,f61⟩,⟨61,3,1,f61⟩,⟨61,4,1,f61⟩,⟨61,5,1,f61⟩,⟨68,1,2,f68⟩,⟨69,1,2,f69⟩,⟨70,1,2,f70⟩,⟨71,0,1,f71⟩,⟨72,0,1,f72⟩,⟨77,1,1,f77⟩,⟨78,0,0,f78⟩,⟨79,0,1,f79⟩,⟨80,0,5,f80⟩,⟨81,0,3,f81⟩,⟨82,1,3,f82⟩,⟨88,0,3,f88⟩,⟨90,0,3,f90⟩,⟨96,1,1,f96⟩,⟨96,2,1,f96⟩,⟨96,3,1,f96⟩,⟨96,4,1,f96⟩,⟨96,5,1,f96⟩,⟨97,1,1,f97⟩,⟨97,2,1,f97⟩,⟨97,3,1,f97⟩,⟨97,4,1,f97⟩,⟨97,5,1,f97⟩,⟨98,1,1,f98⟩,⟨98,2,1,f98⟩,⟨98,3,1,f98⟩,⟨98,4,1,f98⟩,⟨98,5,1,f98⟩,⟨99,1,4,f99⟩,⟨99,2,4,f99⟩,⟨99,3,4,f99⟩,⟨99,4,4,f99⟩,⟨99,5,4,f99⟩,⟨100,0,1,f100⟩,⟨101,1,1,f101⟩,⟨102,1,1,f102⟩,⟨103,1,1,f103⟩,⟨104,1,1,f104⟩,⟨106,0,4,f106⟩,⟨108,0,0,f108⟩,⟨109,1,1,f109⟩,⟨109,2,1,f109⟩,⟨109,3,1,f109⟩,⟨109,4,1,f109⟩,⟨109,5,1,f109⟩,⟨112,1,4,f112⟩,⟨112,2,4,f112⟩,⟨112,3,4,f112⟩,⟨112,4,4,f112⟩,⟨112,5,4,f112⟩,⟨113,1,1,f113⟩,⟨114,1,1,f114⟩,⟨126,1,1,f126⟩]
def K8 (n:Nat):Cx:=cxM KS8 400 T8 n
theorem T8_ok:∀ r∈T8,q1s Tryz.prog r.f r.m r.n r.g=true:=by
 have h:T8.all (fun r=>q1s Tryz.prog r.f r.m r.n r.g)=true:=by kernel_rfl
 simpa [List.all_eq_true] using h
theorem q5F (n:Nat):(K8 n).Sound Tryz.prog:=z9d q1A z9q T8_ok (fun r _ h=>by cases h) rfl n
theorem z4E (n:Nat):(K8 n).dfr=[]:=z3w rfl 400 T8 n
def q6N:List (List D):=[[.int .u8 83],[.int .u8 76],[.int .u8 84],[.int .u8 72],[.int .u8 7],[.int .u8 5],[.int .u8 70],[.int .u8 97],[.int .u8 108],[.int .u8 115],[.int .u8 101],[.int .u8 0],[.int .u8 4],[.int .u8 84],[.int .u8 114],[.int .u8 117],[.int .u8 101],[.int .u8 0],[.int .u8 4],[.int .u8 85],[.int .u8 110],[.int .u8 105],[.int .u8 116],[.int .u8 0],[.int .u8 3],[.int .u8 78],[.int .u8 105],[.int .u8 108],[.int .u8 0],[.int .u8 4],[.int .u8 67],[.int .u8 111],[.int .u8 110],[.int .u8 115],[.int .u8 2],[.int .u8 4],[.int .u8 80],[.int .u8 97],[.int .u8 105],[.int .u8 114],[.int .u8 2],[.int .u8 6],[.int .u8 84],[.int .u8 114],[.int .u8 105],[.int .u8 112],[.int .u8 108],[.int .u8 101],[.int .u8 3],[.int .u8 1],[.int .u8 2],[.int .u8 105],[.int .u8 100],[.int .u8 1],[.int .u8 4],[.int .u8 1],[.int .u8 0],[.int .u8 7],[.int .u8 2],[.int .u8 4],[.int .u8 1],[.int .u8 17],[.int .u8 204],[.int .u8 185],[.int .u8 3],[.int .u8 45]]
def j1W:List UInt8:=[115,104,97,112,101,32,34,70,97,108,115,101,34,32,48,10,115,104,97,112,101,32,34,84,114,117,101,34,32,48,10,115,104,97,112,101,32,34,85,110,105,116,34,32,48,10,115,104,97,112,101,32,34,78,105,108,34,32,48,10,115,104,97,112,101,32,34,67,111,110,115,34,32,50,10,115,104,97,112,101,32,34,80,97,105,114,34,32,50,10,115,104,97,112,101,32,34,84,114,105,112,108,101,34,32,51,10,103,108,111,98,97,108,32,34,105,100,34,32,49,10,32,32,112,117,115,104,32,48,10,32,32,117,112,100,97,116,101,32,50,10,32,32,112,111,112,32,49,10,32,32,117,110,119,105,110,100,10]
def cL:C→C
 | .seq a _=>a
 | c=>c
def cR:C→C
 | .seq _ b=>b
 | c=>c
def f21D:DfrF:=⟨cL f21.body,cL (cR f21.body),cR (cR (cR f21.body)),f21.res,9,59,[2,3]⟩
def f27D:DfrF:=⟨cL f27.body,cL (cR f27.body),cR (cR (cR f27.body)),f27.res,10,76,[2,3]⟩
theorem j2P:j01 Tryz.prog 21 1 f21D=true:=by kernel_rfl
theorem z8K:j01 Tryz.prog 27 1 f27D=true:=by kernel_rfl
def st (x:Option (Ex×S)):S:=match x with
 | some (_,s)=>s
 | none=>⟨[],[],0,[]⟩
def s0R:S:=st (execC 400 (K8 30) f21D.c0 (startS [.d false (.str j1W)] []))
def s1R:S:=st (execC 400 (K8 30) f21D.ca s0R)
def idT:V:=.tup [.agg [.d false (.sl 2 [[.str [70,97,108,115,101],.int .i64 0],[.str [84,114,117,101],.int .i64 0],[.str [85,110,105,116],.int .i64 0],[.str [78,105,108],.int .i64 0],[.str [67,111,110,115],.int .i64 2],[.str [80,97,105,114],.int .i64 2],[.str [84,114,105,112,108,101],.int .i64 3]]),
 .d false (.sl 3 [[.str [105,100],.int .i64 1,.sl 3 [[.int .i64 1,.int .i64 0,.int .i64 0],[.int .i64 7,.int .i64 2,.int .i64 0],[.int .i64 4,.int .i64 1,.int .i64 0],[.int .i64 17,.int .i64 0,.int .i64 0]]]])],.d false (.int .i64 0)]
theorem run21:DfrRun (K8 30) f21D [.d false (.str j1W)] idT []:=z9b (N:=400) (s0:=s0R) (s1:=s1R) (by kernel_rfl) (by kernel_rfl) (by kernel_rfl) (fun ds=>by kernel_rfl)
end Go.Vm
end

section
namespace Go.Vm
set_option maxRecDepth 20000
open Go.Proofs
structure TN(H:List (Nat×Blk))(p:Nat)(z:Bool)(t:Table):Prop where
 s:look H p=some (.dat z 2 (t.shapes.map q0k))
 g:look H (p+1)=some (gN z (p+2) t.globals)
 c:∀ j,j<t.globals.length→look H (p+2+j)=some (cN z (nth t.globals j))
theorem TN.all{H:List (Nat×Blk)}{p:Nat}{z:Bool}{t:Table}(h:TN H p z t):∀ j,j<t.globals.length+2→look H (p+j)=(tb0 z p t)[j]?:=by
 intro j hj
 match j,hj with
 |0,_=>rw[Nat.add_zero,h.s];rfl
 |1,_=>rw[h.g];rfl
 |j+2,hj=>
  rw[show p+(j+2)=p+2+j by omega,h.c j (by omega)]
  simp only[tb0,List.getElem?_cons_succ,List.getElem?_map,q4b (show j<t.globals.length by omega),Option.map_some]
theorem z6Z{H:List (Nat×Blk)}{z:Bool}{q:Nat×Glob}(h:look H q.1=some (cN z q.2)):mapO (q0b 5 H) (rowB q)=some (q00 q.2):=by
 have e:q0b 5 H (.bsl q.1 0 q.2.code.length)=some (.sl 3 (q.2.code.map q0J)):=by
  simp only[q0b,h,cN,List.drop_zero,List.length_map,Nat.zero_add,Nat.le_refl,if_true]
  rw[List.take_of_length_le (by simp)]
 have e1:∀ x,q0b 5 H (.d false x)=some x:=fun _=>rfl
 simp only[rowB,mapO,e,e1]
 rfl
theorem q9G{H:List (Nat×Blk)}{z:Bool}:∀(L:Gl),(∀ q∈L,look H q.1=some (cN z q.2))→mapO (fun r:List V=>mapO (q0b 5 H) r) (L.map rowB)=some (L.map fun q=>q00 q.2)
 |[],_=>rfl
 |q :: r,h=>by
  simp only[List.map_cons,mapO,z6Z (h q (by simp)),q9G r (fun x hx=>h x (List.mem_cons_of_mem _ hx))]
theorem z7A{p:Nat}{gs:List Glob}{q:Nat×Glob}(h:q∈numG p gs):∃ j,j<gs.length∧q=(p+j,nth gs (j:Int)):=by
 obtain⟨j,hj⟩:=List.mem_iff_getElem?.1 h
 rw[q72,Option.map_eq_some_iff] at hj
 obtain⟨g,hg,rfl⟩:=hj
 have hlt:=(List.getElem?_eq_some_iff.1 hg).1
 refine⟨j,hlt,?_⟩
 rw[q4b hlt] at hg
 rw[Option.some.inj hg]
theorem z7B:∀(gs:List Glob)(p:Nat),(numG p gs).map (fun q=>q00 q.2)=gs.map q00
 |[],_=>rfl
 |g :: r,p=>by simp only[numG,List.map_cons,z7B r]
theorem TN.view{H:List (Nat×Blk)}{p:Nat}{z:Bool}{t:Table}(h:TN H p z t):q0b 6 H (.bsl p 0 t.shapes.length)=some (.sl 2 (t.shapes.map q0k))∧q0b 6 H (.bsl (p+1) 0 t.globals.length)=some (.sl 3 (t.globals.map q00)):=by
 refine⟨?_,?_⟩
 ·simp only[q0b,h.s,List.drop_zero,List.length_map,Nat.zero_add,Nat.le_refl,if_true]
  rw[List.take_of_length_le (by simp)]
 ·have hg:=h.g
  unfold gN at hg
  by_cases hn:t.globals=[]
  ·rw[if_pos hn] at hg
   rw[hn]
   simp only[q0b,hg]
   rfl
  ·rw[if_neg hn] at hg
   have hv:=q9G (H:=H) (z:=z) (numG (p+2) t.globals) (fun q hq=>by
    obtain⟨j,hj,rfl⟩:=z7A hq
    exact h.c j hj)
   simp only[q0b,hg,List.drop_zero,List.length_map,q71,Nat.zero_add,Nat.le_refl,if_true]
   rw[List.take_of_length_le (by simp [q71]),hv,z7B]
   rfl
theorem z1J:∀(gs:List Glob)(p:Nat),((numG p gs).map rowB).flatMap refsL=List.range' p gs.length
 |[],_=>rfl
 |g :: r,p=>by
  simp only[numG,List.map_cons,List.flatMap_cons,z1v,z1J r (p+1),List.length_cons,List.range'_succ]
  rfl
theorem z8t(z p gs):(gN z p gs).refs=List.range' p gs.length:=by
 unfold gN
 split
 ·rename_i h;subst h;rfl
 ·simp only[Blk.refs,z1J]
theorem TN.reach{H:List (Nat×Blk)}{p:Nat}{z:Bool}{t:Table}(h:TN H p z t):q03 H (refN H+64) [] [p,p+1]=List.range' p (t.globals.length+2):=by
 have hr:=z24 h.g
 rw[z8t,List.length_range'] at hr
 rw[show refN H+64=(refN H+62)+1+1 by omega,q0x]
 simp only[List.contains_nil,q0s,h.s,q0O,Blk.refs,List.append_nil,List.nil_append]
 rw[q0x,show [p].contains (p+1)=false by simp,q0s,h.g,q0O,z8t,List.nil_append]
 rw[q39 _ _ _ _ (List.nodup_range' (step:=1)) (fun b hb=>?_) (by simp;omega)]
 ·rw[show t.globals.length+2=(t.globals.length+1)+1 by omega,List.range'_succ,List.range'_succ]
  rfl
 ·rw[List.mem_range'_1] at hb
  refine⟨by simp;omega,?_⟩
  obtain⟨j,rfl⟩:∃ j,b=p+2+j:=⟨b - (p+2),by omega⟩
  rw[h.c j (by omega)];rfl
theorem j0E{zz:Bool}{bs:List Nat}{H:List (Nat×Blk)}{q q':Nat}{g:Glob}(h1:bs.contains q=true)(h2:bs.idxOf q=q'):mapO (finC zz bs H) (rowB (q,g))=some (rowB (q',g)):=by
 simp only[rowB,mapO,finC,h1,h2,if_true]
theorem z2g{zz:Bool}{bs:List Nat}{H:List (Nat×Blk)}:∀(gs:List Glob)(q q':Nat),(∀ i,i<gs.length→bs.contains (q+i)=true∧bs.idxOf (q+i)=q'+i)→mapO (mapO (finC zz bs H)) ((numG q gs).map rowB)=some ((numG q' gs).map rowB)
 |[],_,_,_=>rfl
 |g :: r,q,q',h=>by
  have h0:=h 0 (by simp)
  have ih:=z2g (zz:=zz) (bs:=bs) (H:=H) r (q+1) (q'+1) fun i hi=>by
   have:=h (i+1) (by simp;omega)
   rw[show q+1+i=q+(i+1) by omega,show q'+1+i=q'+(i+1) by omega];exact this
  simp only[Nat.add_zero] at h0
  simp only[numG,List.map_cons,mapO,j0E h0.1 h0.2,ih]
theorem TN.fin{H:List (Nat×Blk)}{p:Nat}{z zz:Bool}{t:Table}(h:TN H p z t)(hz:z=true∨zz=false):mapO (finB zz (List.range' p (t.globals.length+2)) H) (List.range' p (t.globals.length+2))=some (tb0 z 0 t):=by
 have ez:∀ b,(z||(zz&&b))=z:=fun b=>by rcases hz with rfl|rfl <;> simp
 refine q8M (by simp [z61]) fun j b hb=>?_
 obtain⟨hj,rfl⟩:=j3K _ _ _ _ hb
 match j,hj with
 |0,_=>simp only[finB,Nat.add_zero,h.s,ez];rfl
 |1,_=>
  show finB _ _ _ _=some (gN z 2 t.globals)
  simp only[finB,h.g]
  by_cases hg:t.globals=[]
  ·simp only[gN,if_pos hg,ez]
  ·simp only[gN,if_neg hg]
   rw[z2g t.globals (p+2) 2 fun i hi=>⟨by rw[q5y,decide_eq_true_eq];omega,by rw[show p+2+i=p+(2+i) by omega];exact j0d (by omega)⟩]
   rfl
 |j+2,hj=>
  rw[show p+(j+2)=p+2+j by omega]
  simp only[finB,h.c j (by omega),cN,ez]
  simp only[tb0,List.getElem?_cons_succ,List.getElem?_map,q4b (show j<t.globals.length by omega),Option.map_some,cN]
theorem TN.out{H:List (Nat×Blk)}{p:Nat}{t:Table}(h:TN H p true t)(ρ:List (Nat×V))(nx:Nat)(mv:List Nat)(e:Int) :
  finish 0 true ⟨ρ,H,nx,mv⟩ (.tup [tbV p t,.d false (.int .i64 e)])=some (.tup [tbV 0 t,.d false (.int .i64 e)],tb0 true 0 t,[]):=by
 have hr:=h.reach
 have hf:=h.fin (zz:=true) (.inl rfl)
 unfold finish
 have e2:List.range 0++(V.tup [tbV p t,.d false (.int .i64 e)]).refs=[p,p+1]:=rfl
 rw[if_pos rfl,e2]
 simp only[hr]
 have c2:(List.range' p (t.globals.length+2)).contains p=true:=by rw[q5y,decide_eq_true_eq];omega
 have c3:(List.range' p (t.globals.length+2)).contains (p+1)=true:=by rw[q5y,decide_eq_true_eq];omega
 have i2:(List.range' p (t.globals.length+2)).idxOf p=0:=j0d (j:=0) (by omega)
 have i3:(List.range' p (t.globals.length+2)).idxOf (p+1)=1:=j0d (j:=1) (by omega)
 have hfv:finV true (List.range' p (t.globals.length+2)) H (.tup [tbV p t,.d false (.int .i64 e)])=some (.tup [tbV 0 t,.d false (.int .i64 e)]):=by
  simp only[tbV,finV,finA,mapO,finC,c2,c3,i2,i3,if_true,Option.map_some]
 have hnd:(List.range' p (t.globals.length+2)).Nodup:=List.nodup_range' (step:=1)
 simp only[hnd,decide_true,List.take_zero,List.range_zero,Bool.and_self,if_true,beq_self_eq_true,hfv,hf,List.filter_nil]
theorem z0W(i:Nat)(h:1≤i):q1L [2] 3 i=i+2:=by
 unfold q1L
 rw[show i=(i - 1)+1 by omega,List.getElem?_cons_succ]
 simp;omega
theorem z33(g:Nat→Nat):∀(gs:List Glob)(p q:Nat),(∀ i,i<gs.length→g (p+i)=q+i)→((numG p gs).map rowB).map (renL g)=(numG q gs).map rowB
 |[],_,_,_=>rfl
 |x :: r,p,q,h=>by
  have h0:=h 0 (by simp)
  simp only[Nat.add_zero] at h0
  simp only[numG,List.map_cons,z33 g r (p+1) (q+1) (fun i hi=>by have:=h (i+1) (by simp;omega);rw[show p+1+i=p+(i+1) by omega,this];omega)]
  congr 1
  simp only[rowB,renL,V.ren,h0]
theorem j4j{g:Nat→Nat}{z:Bool}{gs:List Glob}{p q:Nat}(h:∀ i,i<gs.length→g (p+i)=q+i):(gN z p gs).ren g=gN z q gs:=by
 unfold gN
 split
 ·rfl
 ·simp only[Blk.ren,z33 g gs p q h]
theorem put77(H:List (Nat×Blk))(r:Bs)(t:Table):TN (putAll H (q1L [2] 3) 0 (LB r :: tb0 true 1 t)) 3 true t∧look (putAll H (q1L [2] 3) 0 (LB r :: tb0 true 1 t)) 2=some (LB r)∧
  ∀ b,b<2→look (putAll H (q1L [2] 3) 0 (LB r :: tb0 true 1 t)) b=look H b:=by
 have b0:q1L [2] 3 0=2:=rfl
 have inj:∀ i j,i<(LB r :: tb0 true 1 t).length→j<(LB r :: tb0 true 1 t).length→q1L [2] 3 (0+i)=q1L [2] 3 (0+j)→i=j:=by
  intro i j _ _ e
  rw[Nat.zero_add,Nat.zero_add] at e
  rcases Nat.eq_zero_or_pos i with rfl|hi
  ·rcases Nat.eq_zero_or_pos j with rfl|hj
   ·rfl
   ·rw[b0,z0W j hj] at e;omega
  ·rcases Nat.eq_zero_or_pos j with rfl|hj
   ·rw[b0,z0W i hi] at e;omega
   ·rw[z0W i hi,z0W j hj] at e;omega
 have h1:=q5J (q1L [2] 3) (LB r :: tb0 true 1 t) 0 H inj
 refine⟨⟨?_,?_,fun j hj=>?_⟩,?_,fun b hb=>?_⟩
 ·have:=h1 1 _ rfl
  rw[Nat.zero_add,z0W 1 (by omega)] at this
  exact this
 ·have:=h1 2 _ rfl
  rw[Nat.zero_add,z0W 2 (by omega)] at this
  rw[this,j4j (q:=5)]
  intro i hi
  rw[z0W _ (by omega)];omega
 ·have:=h1 (j+3) (cN true (nth t.globals j)) (by simp only[tb0,List.getElem?_cons_succ,List.getElem?_map,q4b hj,Option.map_some])
  rw[Nat.zero_add,z0W _ (by omega)] at this
  rw[show 3+2+j=j+3+2 by omega,this]
  rfl
 ·have:=h1 0 _ rfl
  exact this
 ·refine q3W _ b _ 0 H fun j hj e=>?_
  rw[Nat.zero_add] at e
  rcases Nat.eq_zero_or_pos j with rfl|hj
  ·rw[b0] at e;omega
  ·rw[z0W j hj] at e;omega
def q2y(b:Bs):Table×Int:=
 if 8388608<b.length then(⟨[],[]⟩,2)
 else if b.length<8∨b.take 4≠[83,76,84,72]∨q28 (sumS (b.take (b.length - 4)))≠b.drop (b.length - 4) then(⟨[],[]⟩,171)
 else match q1N ((b.take (b.length - 4)).drop 4) with
  |some (t,r)=>if r≠[]∨q1P t≠0 then(⟨[],[]⟩,171) else(t,0)
  |none=>(⟨[],[]⟩,171)
def noT(e:Int):V:=.tup [.agg [.fs true 2 [],.fs true 3 []],.d false (.int .i64 e)]
def rLd(p:Table×Int):V×List Blk:=if p.2=0 then(.tup [tbV 0 p.1,.d false (.int .i64 0)],tb0 true 0 p.1) else(noT p.2,[])
theorem z38(ρ:List (Nat×V))(H:List (Nat×Blk))(nx:Nat)(mv:List Nat)(e:Int):finish 0 true ⟨ρ,H,nx,mv⟩ (noT e)=some (noT e,[],[]):=by
 unfold finish
 have e2:List.range 0++(noT e).refs=[]:=rfl
 rw[if_pos rfl,e2,q1u]
 rfl
theorem z4x{α:Type} (H k c)(l:List α)(e:α→List D)(mx:V) (c0 k0 c1 k1)(o p:Int)(h:0≤o)(h0:o≤p)(h1:p≤l.length):q5i H false true true false k (.d c (.sl k (l.map e))) (.d c0 (.int k0 o)) (.d c1 (.int k1 p)) mx=some (.d c (.sl k (((l.drop o.toNat).take (p.toNat - o.toNat)).map e))):=by
 simp [q5i,V.isStr,q89,q5n,h,h0,h1,List.map_take,List.map_drop]
structure LdK(K:Cx):Prop where
 k13:K13 K
 k71:∀ s:Int,K.call 71 [.d false (.int .u32 s)]=some (.d true (.sl 1 ((q28 s).map eU)),[])
 k72:∀ l:Bs,l.length≤1000000000000→K.call 72 [.d false (.sl 1 (l.map eU))]=some (.d false (.int .u32 (sumS l)),[])
 ok:∀(l:Bs) (t:Table) (r:Bs),l.length≤8388608→q1N l=some (t,r)→K.eff 77 [.ptr 0 0 0] [LB l]=some (tbV 1 t,LB r :: tb0 true 1 t,[])
 no:∀ l:Bs,l.length≤8388608→q1N l=none→K.eff 77 [.ptr 0 0 0] [LB l]=none
 pan:∀ l:Bs,l.length≤8388608→q1N l=none→K.pan 77 [.ptr 0 0 0] [LB l]=some brk
theorem LdK.later{K:Cx}(h:LdK K)(ds:List Deferred):LdK (K.later ds):=⟨h.k13,h.k71,h.k72,h.ok,h.no,h.pan⟩
def S1L(b:Bs):S:=⟨[(0,.d false (.sl 1 (b.map eU))),(2,.ptr 0 0 0),(3,.ptr 1 0 0)],[(1,.mix 1 [[.d false (.int .i64 0)]]),(0,.mix 2 [[.fs true 2 [],.fs true 3 []]])],2,[]⟩
def S2L(b:Bs):S:=⟨[(8,.bool false),(0,.d false (.sl 1 (b.map eU))),(2,.ptr 0 0 0),(3,.ptr 1 0 0)],[(1,.mix 1 [[.d false (.int .i64 0)]]),(0,.mix 2 [[.fs true 2 [],.fs true 3 []]])],2,[]⟩
theorem z77(K:Cx)(b:Bs):exec K f27D.c0 (startS [.d false (.sl 1 (b.map eU))] [])=some (.nrm,S1L b):=by
 unfold S1L
 show exec K (cL f27.body) _=_
 simp(disch:=first|decide|omega|(simp only[LN];first|done|omega)) only[SV,SW,cL,f27,Nat.reduceAdd,Nat.reduceBEq]
def ρR:List (Nat×V):=[(2,.ptr 0 0 0),(3,.ptr 1 0 0)]
def badB(b:Bs):Prop:=b.length<8∨b.take 4≠[83,76,84,72]∨q28 (sumS (b.take (b.length - 4)))≠b.drop (b.length - 4)
theorem toN4{n:Nat}(h:4≤n):((n:Int) - 4).toNat=n - 4:=by omega
set_option maxHeartbeats 1000000 in
theorem j35(K:Cx)(h:LdK K)(b:Bs)(hl:b.length≤8388608)(hb:badB b) :
  exec K f27D.cb (S2L b)=some (.ret,⟨ρR,[(1,.mix 1 [[.d false (.int .i64 171)]]),(0,.mix 2 [[.fs true 2 [],.fs true 3 []]])],2,[]⟩):=by
 show exec K (cR (cR (cR f27.body))) _=_
 unfold S2L ρR
 by_cases h8:b.length<8
 ·simp(disch:=first|decide|omega|(simp only[LN];first|done|omega)) only[SV,SW,cR,f27,Nat.reduceBEq,Nat.reduceAdd,lose,q08,q1Z,Nat.reduceEqDiff]
 ·have t4:=toN4 (n:=b.length) (by omega)
  by_cases hh:b.take 4=[83,76,84,72]
  ·have hs:q28 (sumS (b.take (b.length - 4)))≠b.drop (b.length - 4):=by
    rcases hb with hb|hb|hb
    ·omega
    ·exact absurd hh hb
    ·exact hb
   have c72:=h.k72 (b.take (b.length - 4)) (by simp;omega)
   have c71:=h.k71 (sumS (b.take (b.length - 4)))
   have hh':decide (b.take 4=[83,76,84,72])=true:=by simpa using hh
   have hsd:decide (q28 (sumS (b.take (b.length - 4)))=b.drop (b.length - 4))=false:=by simpa using hs
   clear h hb
   simp(disch:=first|decide|omega|(simp only[LN];first|done|omega)) only[SV,SW,cR,f27,Nat.reduceBEq,z3u,z3x,Int.reduceToNat,z3C,hh',t4,q0b,c72,c71,z2t,hsd,Nat.reduceAdd,lose,q08,q1Z,Nat.reduceEqDiff]
  ·have hhd:decide (b.take 4=[83,76,84,72])=false:=by simpa using hh
   clear h hb
   simp(disch:=first|decide|omega|(simp only[LN];first|done|omega)) only[SV,SW,cR,f27,Nat.reduceBEq,z3u,z3x,Int.reduceToNat,z3C,hhd,q0b,z2t,Nat.reduceAdd,lose,q08,q1Z,Nat.reduceEqDiff]
set_option maxHeartbeats 1000000 in
theorem j33(K:Cx)(h:LdK K)(b:Bs)(hl:b.length≤8388608)(hb:¬ badB b)(e:q1N ((b.take (b.length - 4)).drop 4)=none) :
  ∃ ρ,exec K f27D.cb (S2L b)=some (.pan brk,⟨ρ,[(1,.mix 1 [[.d false (.int .i64 0)]]),(0,.mix 2 [[.fs true 2 [],.fs true 3 []]])],3,[2]⟩)∧look ρ 2=some (.ptr 0 0 0)∧look ρ 3=some (.ptr 1 0 0):=by
 refine⟨[(2,.ptr 0 0 0),(3,.ptr 1 0 0),(5,.junk)],?_,rfl,rfl⟩
 show exec K (cR (cR (cR f27.body))) _=_
 unfold S2L
 simp only[badB,not_or,ne_eq,Decidable.not_not] at hb
 obtain⟨h8,hh,hs⟩:=hb
 have t4:=toN4 (n:=b.length) (by omega)
 have c72:=h.k72 (b.take (b.length - 4)) (by simp;omega)
 have c71:=h.k71 (sumS (b.take (b.length - 4)))
 have hq:List.take (b.length - 4 - 4) (List.drop 4 b)=List.drop 4 (List.take (b.length - 4) b):=by rw[List.drop_take]
 have e1:=h.no _ (by simp;omega) e
 have e2:=h.pan _ (by simp;omega) e
 clear h
 simp only[LB,brk] at e1 e2 ⊢
 have hh':decide (b.take 4=[83,76,84,72])=true:=by simpa using hh
 simp(disch:=first|decide|omega|(simp only[LN];first|done|omega)) only[SV,SW,cR,f27,q0a,q0i,q1l,q0B,Nat.reduceBEq,q0l,z3u,z3x,Int.reduceToNat,z3C,hh',t4,q0b,c72,c71,hs,z2t,z4x,hq,Nat.reduceAdd,q0m,q0g,q0z,q0o,dimL,q0V,q0M,lose,V.forget,V.drop1,V.ref0,reduceCtorEq,Nat.reduceEqDiff,q0q,e2,e1,q02,q01,q0v,q0r,q0K]
theorem TN.put{H:List (Nat×Blk)}{z:Bool}{t:Table}{p b:Nat}(h:TN H p z t)(hb:b<p)(x:Blk):TN (put H b x) p z t:=
 ⟨by rw[q0c _ _ (by omega)];exact h.s,by rw[q0c _ _ (by omega)];exact h.g,fun j hj=>by rw[q0c _ _ (by omega)];exact h.c j hj⟩
theorem vw_d(H:List (Nat×Blk))(c:Bool)(x:D):view H (.d c x)=some (.d false x):=by simp [view,q0b]
set_option maxHeartbeats 2000000 in
theorem j1s(K:Cx)(h:LdK K)(b:Bs)(hl:b.length≤8388608)(hb:¬ badB b)(t:Table)(r:Bs)(e:q1N ((b.take (b.length - 4)).drop 4)=some (t,r))(ht:TabOk t) :
  ∃ H nx mv,exec K f27D.cb (S2L b)=some (.ret,⟨ρR,H,nx,mv⟩)∧
   (if r≠[]∨q1P t≠0 then look H 0=some (.mix 2 [[.fs true 2 [],.fs true 3 []]])∧look H 1=some (.mix 1 [[.d false (.int .i64 171)]]) else
    look H 0=some (.mix 2 [[.bsl 3 0 t.shapes.length,.bsl 4 0 t.globals.length]])∧look H 1=some (.mix 1 [[.d false (.int .i64 0)]])∧TN H 3 true t):=by
 show ∃ H nx mv,exec K (cR (cR (cR f27.body))) _=_∧_
 unfold S2L ρR
 simp only[badB,not_or,ne_eq,Decidable.not_not] at hb
 obtain⟨h8,hh,hs⟩:=hb
 have t4:=toN4 (n:=b.length) (by omega)
 have c72:=h.k72 (b.take (b.length - 4)) (by simp;omega)
 have c71:=h.k71 (sumS (b.take (b.length - 4)))
 have c13:=h.k13 t ht
 have hq:List.take (b.length - 4 - 4) (List.drop 4 b)=List.drop 4 (List.take (b.length - 4) b):=by rw[List.drop_take]
 have e1:=h.ok _ t r (by simp;omega) e
 clear h
 have hh':decide (b.take 4=[83,76,84,72])=true:=by simpa using hh
 obtain⟨hT,h2,hlo⟩:=put77 [(2,LB ((b.take (b.length - 4)).drop 4)),(1,.mix 1 [[.d false (.int .i64 0)]]),(0,.mix 2 [[.fs true 2 [],.fs true 3 []]])] r t
 have h0:=hlo 0 (by omega)
 have h1:=hlo 1 (by omega)
 generalize hP:putAll [(2,LB ((b.take (b.length - 4)).drop 4)),(1,.mix 1 [[.d false (.int .i64 0)]]),(0,.mix 2 [[.fs true 2 [],.fs true 3 []]])] (q1L [2] 3) 0 (LB r :: tb0 true 1 t)=HP at hT h2 h0 h1
 simp only[LB] at e1 hP h2
 have er:V.ren (q1L [2] 3) (tbV 1 t)=.agg [.bsl 3 0 t.shapes.length,.bsl 4 0 t.globals.length]:=rfl
 have hT0:=hT.put (b:=0) (by omega) (.mix 2 [[.bsl 3 0 t.shapes.length,.bsl 4 0 t.globals.length]])
 have k0:look (put HP 0 (.mix 2 [[.bsl 3 0 t.shapes.length,.bsl 4 0 t.globals.length]])) 0=_:=q0G _ _ _
 have k1:look (put HP 0 (.mix 2 [[.bsl 3 0 t.shapes.length,.bsl 4 0 t.globals.length]])) 1=_:=(q0c _ _ (by omega)).trans h1
 have k2:look (put HP 0 (.mix 2 [[.bsl 3 0 t.shapes.length,.bsl 4 0 t.globals.length]])) 2=_:=(q0c _ _ (by omega)).trans h2
 have hv:=hT0.view
 have hv1:view (put HP 0 (.mix 2 [[.bsl 3 0 t.shapes.length,.bsl 4 0 t.globals.length]])) (.agg [.bsl 3 0 t.shapes.length,.bsl 4 0 t.globals.length])=some (.agg [.d false (.sl 2 (t.shapes.map q0k)),.d false (.sl 3 (t.globals.map q00))]):=by
  simp only[view,mapO,viewDepth,hv.1,hv.2]
  rfl
 by_cases hr:r=[]
 ·by_cases hz:q1P t=0
  ·simp only[if_neg (show ¬(r≠[]∨q1P t≠0) by simp [hr,hz])]
   have hn:r.length=0:=by simp [hr]
   simp(disch:=first|decide|omega|(simp only[LN];first|done|omega)) only[cR,f27,q2w,q19,q0N,q2b,q1E,q10,q2F,q12,q1F,q0X,q9f,q9c,e_sl,q1n,Nat.reduceBEq,q0W,beq_self_eq_true,q1d,evLen,List.length_map,q9d,q2L,evBin,intBin,q4S,if_true,q1g,q2P,q1x,q0y,q1z,q0H,List.cons_append,List.nil_append,addBlks,q15,q0E,q3P,e_or,z3k,decide_false,z3u,z5T,q6G,q65,z3x,Int.reduceToNat,z3C,j0X,strBin,hh',Bool.not_true,q70,Bool.or_self,q6H,q4e,t4,q1H,q2X,q2V,List.any_cons,V.own,V.own1,List.any_nil,q2I,List.all_cons,V.new,V.new1,D.flat,List.all_nil,Bool.and_true,V.flatV,V.flat1,Bool.not_false,Bool.false_and,q1B,vw_d,q18,q2O,q3C,c72,q2n,Bool.or_true,Bool.and_self,Bool.false_eq_true,if_false,Bool.and_false,c71,hs,Bool.or_false,z2t,decide_true,q2S,q2Y,q2R,q1f,q2c,j0Y,z4x,hq,q6I,q4O,q2d,evSet,V.laid,V.cell,V.cells,List.length_cons,List.length_nil,Nat.zero_add,Nat.le_refl,splice,List.take_zero,List.drop_succ_cons,List.drop_zero,List.append_nil,mkBox,q2N,q17,q1c,q2H,Nat.reduceAdd,q2M,q1w,q3a,q3N,refsL,V.refs,q0x,List.contains_nil,q0s,q0O,Blk.refs,List.flatMap_cons,List.flatMap_nil,q1u,q4N,List.nodup_cons,List.not_mem_nil,not_false_eq_true,List.nodup_nil,and_self,V.within,List.contains_cons,closedB,Blk.within,withinL,handed,Blk.ren,Blk.dim,List.idxOf_cons,Option.map_some,List.map_cons,dimL,V.dim,List.map_nil,renL,V.ren,q51,cond_true,e1,q50,j0j,q0q,hP,er,q3R,lose,loseH,Lost.ids,q1v,q1e,q0T,h0,q38,q14,q13,q1y,e_ld,e_fa,evFa,Nat.add_zero,q3B,q0u,reduceCtorEq,h2,q6s,q4E,List.getElem?_cons_zero,q6r,q3x,q2J,q3u,hv1,c13,hz,bne_self_eq_false,h1,q08,q1Z,q5z,Nat.reduceEqDiff,q6m,q6B,Option.some.injEq,Prod.mk.injEq,true_and,q0E]
   exact⟨_,_,_,rfl,by simp [q0u],by simp [q0u],(hT0.put (by omega) _).put (by omega) _⟩
  ·simp only[if_pos (show r≠[]∨q1P t≠0 from .inr hz)]
   have hn:r.length=0:=by simp [hr]
   have hz':decide (q1P t=0)=false:=by simpa using hz
   simp(disch:=first|decide|omega|(simp only[LN];first|done|omega)) only[cR,f27,q2w,q19,q0N,q2b,q1E,q10,q2F,q12,q1F,q0X,q9f,q9c,e_sl,q1n,Nat.reduceBEq,q0W,beq_self_eq_true,q1d,evLen,List.length_map,q9d,q2L,evBin,intBin,q4S,if_true,q1g,q2P,q1x,q0y,q1z,q0H,List.cons_append,List.nil_append,addBlks,q15,q0E,q3P,e_or,z3k,decide_false,z3u,z5T,q6G,q65,z3x,Int.reduceToNat,z3C,j0X,strBin,hh',Bool.not_true,q70,Bool.or_self,q6H,q4e,t4,q1H,q2X,q2V,List.any_cons,V.own,V.own1,List.any_nil,q2I,List.all_cons,V.new,V.new1,D.flat,List.all_nil,Bool.and_true,V.flatV,V.flat1,Bool.not_false,Bool.false_and,q1B,vw_d,q18,q2O,q3C,c72,q2n,Bool.or_true,Bool.and_self,Bool.false_eq_true,if_false,Bool.and_false,c71,hs,Bool.or_false,z2t,decide_true,q2S,q2Y,q2R,q1f,q2c,j0Y,z4x,hq,q6I,q4O,q2d,evSet,V.laid,V.cell,V.cells,List.length_cons,List.length_nil,Nat.zero_add,Nat.le_refl,splice,List.take_zero,List.drop_succ_cons,List.drop_zero,List.append_nil,mkBox,q2N,q17,q1c,q2H,Nat.reduceAdd,q2M,q1w,q3a,q3N,refsL,V.refs,q0x,List.contains_nil,q0s,q0O,Blk.refs,List.flatMap_cons,List.flatMap_nil,q1u,q4N,List.nodup_cons,List.not_mem_nil,not_false_eq_true,List.nodup_nil,and_self,V.within,List.contains_cons,closedB,Blk.within,withinL,handed,Blk.ren,Blk.dim,List.idxOf_cons,Option.map_some,List.map_cons,dimL,V.dim,List.map_nil,renL,V.ren,q51,cond_true,e1,q50,j0j,q0q,hP,er,q3R,lose,loseH,Lost.ids,q1v,q1e,q0T,h0,q38,q14,q13,q1y,e_ld,e_fa,evFa,Nat.add_zero,q3B,q0u,reduceCtorEq,h2,q6s,q4E,List.getElem?_cons_zero,q6r,q3x,q2J,q3u,hv1,c13,ne_t,q4h,h1,q08,q1Z,q5z,Nat.reduceEqDiff,q6m,q6B,z0h,Option.some.injEq,Prod.mk.injEq,true_and,q0E]
   exact⟨_,_,_,rfl,by simp [q0u],by simp [q0u]⟩
 ·simp only[if_pos (show r≠[]∨q1P t≠0 from .inl hr)]
  have hn:0<r.length:=List.length_pos_iff.2 hr
  simp(disch:=first|decide|omega|(simp only[LN];first|done|omega)) only[cR,f27,q2w,q19,q0N,q2b,q1E,q10,q2F,q12,q1F,q0X,q9f,q9c,e_sl,q1n,Nat.reduceBEq,q0W,beq_self_eq_true,q1d,evLen,List.length_map,q9d,q2L,evBin,intBin,q4S,if_true,q1g,q2P,q1x,q0y,q1z,q0H,List.cons_append,List.nil_append,addBlks,q15,q0E,q3P,e_or,z3k,decide_false,z3u,z5T,q6G,q65,z3x,Int.reduceToNat,z3C,j0X,strBin,hh',Bool.not_true,q70,Bool.or_self,q6H,q4e,t4,q1H,q2X,q2V,List.any_cons,V.own,V.own1,List.any_nil,q2I,List.all_cons,V.new,V.new1,D.flat,List.all_nil,Bool.and_true,V.flatV,V.flat1,Bool.not_false,Bool.false_and,q1B,vw_d,q18,q2O,q3C,c72,q2n,Bool.or_true,Bool.and_self,Bool.false_eq_true,if_false,Bool.and_false,c71,hs,Bool.or_false,z2t,decide_true,q2S,q2Y,q2R,q1f,q2c,j0Y,z4x,hq,q6I,q4O,q2d,evSet,V.laid,V.cell,V.cells,List.length_cons,List.length_nil,Nat.zero_add,Nat.le_refl,splice,List.take_zero,List.drop_succ_cons,List.drop_zero,List.append_nil,mkBox,q2N,q17,q1c,q2H,Nat.reduceAdd,q2M,q1w,q3a,q3N,refsL,V.refs,q0x,List.contains_nil,q0s,q0O,Blk.refs,List.flatMap_cons,List.flatMap_nil,q1u,q4N,List.nodup_cons,List.not_mem_nil,not_false_eq_true,List.nodup_nil,and_self,V.within,List.contains_cons,closedB,Blk.within,withinL,handed,Blk.ren,Blk.dim,List.idxOf_cons,Option.map_some,List.map_cons,dimL,V.dim,List.map_nil,renL,V.ren,q51,cond_true,e1,q50,j0j,q0q,hP,er,q3R,lose,loseH,Lost.ids,q1v,q1e,q0T,h0,q38,q14,q13,q1y,e_ld,e_fa,evFa,Nat.add_zero,q3B,q0u,reduceCtorEq,h2,q6s,q4E,List.getElem?_cons_zero,q6r,q3x,z3j,q2J,q3u,hv1,c13,Bool.true_or,q4h,h1,q08,q1Z,q5z,Nat.reduceEqDiff,q6m,q6B,z0h,Option.some.injEq,Prod.mk.injEq,true_and,q0E]
  exact⟨_,_,_,rfl,by simp [q0u],by simp [q0u]⟩
theorem j0w(K:Cx)(b:Bs)(hl:¬ 8388608<b.length):exec K f27D.ca (S1L b)=some (.nrm,S2L b):=by
 show exec K (cL (cR f27.body)) _=_
 unfold S1L S2L
 simp(disch:=first|decide|omega|(simp only[LN];first|done|omega)) only[SV,SW,cL,cR,f27,Nat.reduceBEq]
theorem j2w(K:Cx)(b:Bs)(hl:8388608<b.length):exec K f27D.ca (S1L b)=some (.ret,⟨ρR,[(1,.mix 1 [[.d false (.int .i64 2)]]),(0,.mix 2 [[.fs true 2 [],.fs true 3 []]])],2,[]⟩):=by
 show exec K (cL (cR f27.body)) _=_
 unfold S1L ρR
 simp(disch:=first|decide|omega|(simp only[LN];first|done|omega)) only[SV,SW,cL,cR,f27,Nat.reduceBEq,Nat.reduceAdd,lose,q08,q1Z,Nat.reduceEqDiff]
theorem j0J:z9c Go.Proofs.Tryz.prog 27 1 f27D=true:=by kernel_rfl
theorem q6A(K:Cx)(ρ:List (Nat×V))(H:List (Nat×Blk))(nx:Nat)(mv:List Nat)(x y:V)(h2:look ρ 2=some (.ptr 0 0 0))(h3:look ρ 3=some (.ptr 1 0 0))(h0:look H 0=some (.mix 2 [[x,y]]))(e:Int)(h1:look H 1=some (.mix 1 [[.d false (.int .i64 e)]])) :
  mapO (ev K ⟨ρ,H,nx,mv⟩) f27D.res=some [.agg [x,y],.d false (.int .i64 e)]:=by
 show mapO (ev K ⟨ρ,H,nx,mv⟩) f27.res=_
 simp(disch:=first|decide|omega|(simp only[LN];first|done|omega)) only[SV,SW,f27,h2,h0,Nat.reduceAdd,h3,h1]
theorem q9Y{b:Bs}(h:8388608<b.length):q2y b=(⟨[],[]⟩,2):=by unfold q2y;rw[if_pos h]
theorem z1R{b:Bs}(h:¬ 8388608<b.length)(hb:badB b):q2y b=(⟨[],[]⟩,171):=by unfold q2y;rw[if_neg h];exact if_pos hb
theorem z1Q{b:Bs}(h:¬ 8388608<b.length)(hb:¬ badB b)(e:q1N ((b.take (b.length - 4)).drop 4)=none):q2y b=(⟨[],[]⟩,171):=by
 unfold q2y;unfold badB at hb;rw[if_neg h,if_neg hb,e]
theorem q8Q{b:Bs}(h:¬ 8388608<b.length)(hb:¬ badB b){t:Table}{r:Bs}(e:q1N ((b.take (b.length - 4)).drop 4)=some (t,r)):q2y b=if r≠[]∨q1P t≠0 then(⟨[],[]⟩,171) else(t,0):=by
 unfold q2y;unfold badB at hb;rw[if_neg h,if_neg hb,e]
theorem z3V(e:Int)(he:e≠0):rLd (⟨[],[]⟩,e)=(noT e,[]):=by unfold rLd;rw[if_neg he]
theorem j3L(t:Table):rLd (t,0)=(.tup [tbV 0 t,.d false (.int .i64 0)],tb0 true 0 t):=by unfold rLd;rw[if_pos rfl]
theorem j34(K:Cx)(h:LdK K)(b:Bs):DfrEnd K f27D true brk (hcC 171) [.d false (.sl 1 (b.map eU))] (rLd (q2y b)).1 (rLd (q2y b)).2:=by
 by_cases hl:8388608<b.length
 ·rw[q9Y hl,z3V 2 (by decide)]
  exact .early (S1L b) _ _ [] (z77 K b) (j2w K b hl) (q6A K _ _ _ _ _ _ rfl rfl rfl 2 rfl) (z38 _ _ _ _ 2)
 ·have hl':b.length≤8388608:=by omega
  by_cases hb:badB b
  ·rw[z1R hl hb,z3V 171 (by decide)]
   exact .late (S1L b) (S2L b) (z77 K b) (j0w K b hl) rfl (Nat.le_refl 2) fun ds=>⟨_,_,[],j35 _ (h.later ds) b hl' hb,q6A _ _ _ _ _ _ _ rfl rfl rfl 171 rfl,z38 _ _ _ _ 171⟩
  ·cases e:q1N ((b.take (b.length - 4)).drop 4) with
   |none=>
    rw[z1Q hl hb e,z3V 171 (by decide)]
    refine .pan (S1L b) (S2L b) (z77 K b) (j0w K b hl) rfl (Nat.le_refl 2) rfl rfl fun ds=>?_
    obtain⟨ρ,h1,h2,h3⟩:=j33 _ (h.later ds) b hl' hb e
    refine⟨_,⟨[],[(1,.mix 1 [[.d false (.int .i64 171)]]),(0,.mix 2 [[.fs true 2 [],.fs true 3 []]])],3,[2]⟩,_,[],h1,h2,h3,by simp,by simp,?_,by simp,by simp,q6A K _ _ _ _ _ _ rfl rfl rfl 171 rfl,z38 _ _ _ _ 171⟩
    unfold hcC
    simp(disch:=first|decide|omega|(simp only[LN];first|done|omega)) only[SV,SW,Nat.reduceBEq,Nat.reduceAdd,lose]
   |some q=>
    obtain⟨t,r⟩:=q
    have hto:=z63 (l:=(b.take (b.length - 4)).drop 4) (by simp;omega) e
    rw[q8Q hl hb e]
    by_cases hc:r≠[]∨q1P t≠0
    ·rw[if_pos hc,z3V 171 (by decide)]
     refine .late (S1L b) (S2L b) (z77 K b) (j0w K b hl) rfl (Nat.le_refl 2) fun ds=>?_
     obtain⟨H,nx,mv,h1,h2⟩:=j1s _ (h.later ds) b hl' hb t r e hto
     rw[if_pos hc] at h2
     exact⟨_,_,[],h1,q6A _ _ _ _ _ _ _ rfl rfl h2.1 171 h2.2,z38 _ _ _ _ 171⟩
    ·rw[if_neg hc,j3L]
     refine .late (S1L b) (S2L b) (z77 K b) (j0w K b hl) rfl (Nat.le_refl 2) fun ds=>?_
     obtain⟨H,nx,mv,h1,h2⟩:=j1s _ (h.later ds) b hl' hb t r e hto
     rw[if_neg hc] at h2
     exact⟨_,_,[],h1,q6A _ _ _ _ _ _ _ rfl rfl h2.1 0 h2.2.1,h2.2.2.out _ _ _ 0⟩
end Go.Vm
end

section
namespace Go.Vm
set_option maxRecDepth 20000
open Go.Proofs
theorem j1P{n m:Nat}(hn:n<2 ^ 32)(hm:m<2 ^ 32):bits .xor .u32 (n:Int) ↑m=((n ^^^ m:Nat):Int):=by
 show IntKind.u32.wrap (((BitVec.ofInt 32 (n:Int) ^^^ BitVec.ofInt 32 (m:Int)).toNat:Nat):Int)=_
 rw[BitVec.toNat_xor,BitVec.toNat_ofInt,BitVec.toNat_ofInt]
 have h1:((n:Int) % ((2 ^ 32:Nat):Int)).toNat=n:=by omega
 have h2:((m:Int) % ((2 ^ 32:Nat):Int)).toNat=m:=by omega
 have hw:∀ x:Int,IntKind.u32.wrap x=x % 4294967296:=fun x=>by simp [IntKind.wrap,IntKind.signed,IntKind.bits]
 rw[h1,h2,hw]
 have:=Nat.xor_lt_two_pow hn hm
 omega
theorem and32{n:Nat}(hn:n<2 ^ 32):bits .and .u32 (n:Int) 1=((n % 2:Nat):Int):=by
 show IntKind.u32.wrap (((BitVec.ofInt 32 (n:Int) &&& BitVec.ofInt 32 1).toNat:Nat):Int)=_
 rw[BitVec.toNat_and,BitVec.toNat_ofInt,BitVec.toNat_ofInt]
 have h1:((n:Int) % ((2 ^ 32:Nat):Int)).toNat=n:=by omega
 have h2:((1:Int) % ((2 ^ 32:Nat):Int)).toNat=1:=by omega
 have hw:∀ x:Int,IntKind.u32.wrap x=x % 4294967296:=fun x=>by simp [IntKind.wrap,IntKind.signed,IntKind.bits]
 rw[h1,h2,hw,Nat.and_one_is_mod]
 omega
def bitN(r:Nat):Nat:=if r % 2=1 then r / 2 ^^^ 3988292384 else r / 2
def z3A:Nat→Nat→Nat
 |0,r=>r
 |k+1,r=>z3A k (bitN r)
def z2y(r:Nat)(x:UInt8):Nat:=z3A 8 (r ^^^ x.toNat)
theorem z3B{r:Nat}(h:r<2 ^ 32):bitN r<2 ^ 32:=by
 unfold bitN
 split
 ·exact Nat.xor_lt_two_pow (by omega) (by decide)
 ·omega
theorem j47{r:Nat}(h:r<2 ^ 32):bitR (r:Int)=(bitN r:Int):=by
 unfold bitR bitN
 rw[and32 h]
 have e:((r:Int) / 2)=((r / 2:Nat):Int):=by omega
 by_cases h1:r % 2=1
 ·have:(((r % 2:Nat):Int)==1)=true:=by rw[h1];rfl
  rw[if_pos this,if_pos h1,e]
  exact j1P (by omega) (by decide)
 ·have:(((r % 2:Nat):Int)==1)=false:=by
   have:r % 2=0:=by omega
   rw[this];rfl
  rw[if_neg (by rw[this];decide),if_neg h1,e]
theorem z9i:∀(k r:Nat),r<2 ^ 32→q7U k (r:Int)=(z3A k r:Int)∧z3A k r<2 ^ 32
 |0,r,h=>⟨rfl,h⟩
 |k+1,r,h=>by
  simp only[q7U,z3A,j47 h]
  exact z9i k _ (z3B h)
theorem xlt{r:Nat}(x:UInt8)(h:r<2 ^ 32):r ^^^ x.toNat<2 ^ 32:=Nat.xor_lt_two_pow h (by have:=x.toNat_lt;omega)
theorem q7u{r:Nat}(x:UInt8)(h:r<2 ^ 32):q7v (r:Int) x=(z2y r x:Int)∧z2y r x<2 ^ 32:=by
 unfold q7v z2y
 have hw:IntKind.u32.wrap (x.toNat:Int)=((x.toNat:Nat):Int):=by
  have:∀ x:Int,IntKind.u32.wrap x=x % 4294967296:=fun x=>by simp [IntKind.wrap,IntKind.signed,IntKind.bits]
  rw[this]
  have:=x.toNat_lt
  omega
 rw[hw,j1P h (by have:=x.toNat_lt;omega)]
 exact z9i 8 _ (xlt x h)
theorem z3o:∀(l:Bs)(r:Nat),r<2 ^ 32→l.foldl q7v (r:Int)=((l.foldl z2y r:Nat):Int)∧l.foldl z2y r<2 ^ 32
 |[],r,h=>⟨rfl,h⟩
 |x :: l,r,h=>by
  simp only[List.foldl_cons,(q7u x h).1]
  exact z3o l _ (q7u x h).2
def sumN(l:Bs):Nat:=4294967295 ^^^ l.foldl z2y 4294967295
theorem z3N(l:Bs):sumS l=(sumN l:Int)∧sumN l<2 ^ 32:=by
 have h:=z3o l 4294967295 (by decide)
 refine⟨?_,Nat.xor_lt_two_pow (by decide) h.2⟩
 unfold sumS sumN
 have:(l.foldl q7v 4294967295:Int)=_:=h.1
 rw[this]
 exact j1P (by decide) h.2
theorem q5o{a b c:Nat}(h:a ^^^ c=b ^^^ c):a=b:=by
 have:(a ^^^ c) ^^^ c=(b ^^^ c) ^^^ c:=by rw[h]
 simpa [Nat.xor_assoc] using this
theorem j1b{a b:Nat}(ha:a<2 ^ 32)(hb:b<2 ^ 32)(h:bitN a=bitN b):a=b:=by
 have top:∀ n:Nat,n<2 ^ 31→(n ^^^ 3988292384).testBit 31=true:=fun n hn=>by
  rw[Nat.testBit_xor,Nat.testBit_lt_two_pow hn]
  decide
 have low:∀ n:Nat,n<2 ^ 31→n.testBit 31=false:=fun n hn=>Nat.testBit_lt_two_pow hn
 unfold bitN at h
 split at h <;> split at h
 ·have:=q5o h;omega
 ·have t:=top (a / 2) (by omega)
  rw[h,low (b / 2) (by omega)] at t
  cases t
 ·have t:=top (b / 2) (by omega)
  rw[←h,low (a / 2) (by omega)] at t
  cases t
 ·omega
theorem q9r:∀(k:Nat){a b:Nat},a<2 ^ 32→b<2 ^ 32→z3A k a=z3A k b→a=b
 |0,a,b,_,_,h=>h
 |k+1,a,b,ha,hb,h=>j1b ha hb (q9r k (z3B ha) (z3B hb) h)
theorem z4n:∀(l:Bs){a b:Nat},a<2 ^ 32→b<2 ^ 32→l.foldl z2y a=l.foldl z2y b→a=b
 |[],a,b,_,_,h=>h
 |x :: l,a,b,ha,hb,h=>by
  have h1:=z4n l (q7u x ha).2 (q7u x hb).2 h
  exact q5o (q9r 8 (xlt x ha) (xlt x hb) h1)
theorem z5e(p q:Bs)(x y:UInt8)(h:x≠y):sumN (p++x :: q)≠sumN (p++y :: q):=by
 intro e
 unfold sumN at e
 rw[Nat.xor_comm,Nat.xor_comm 4294967295] at e
 have e:=q5o e
 simp only[List.foldl_append,List.foldl_cons] at e
 have hp:=(z3o p 4294967295 (by decide)).2
 have e:=z4n q (q7u x hp).2 (q7u y hp).2 e
 have e:=q9r 8 (xlt x hp) (xlt y hp) e
 rw[Nat.xor_comm,Nat.xor_comm _ y.toNat] at e
 exact h (UInt8.toNat_inj.1 (q5o e))
theorem z9Z{n m:Nat}(hn:n<256)(hm:m<256)(h:UInt8.ofNat n=UInt8.ofNat m):n=m:=by
 have:=congrArg UInt8.toNat h
 rwa [u8n hn,u8n hm] at this
theorem z8x{a b:Nat}(ha:a<2 ^ 32)(hb:b<2 ^ 32)(h:q28 (a:Int)=q28 (b:Int)):a=b:=by
 unfold q28 at h
 simp only[List.cons.injEq,and_true] at h
 obtain⟨h0,h1,h2,h3⟩:=h
 have h0:=z9Z (by omega) (by omega) h0
 have h1:=z9Z (by omega) (by omega) h1
 have h2:=z9Z (by omega) (by omega) h2
 have h3:=z9Z (by omega) (by omega) h3
 omega
theorem q6w(s:Int):(q28 s).length=4:=rfl
theorem q3f(t:Table):(q0t t).length=(q1K t).length+4:=by simp [q0t,q6w]
theorem z0T(t:Table):4≤(q1K t).length:=by simp [q1K]
theorem q4m(t:Table):(q0t t).take ((q0t t).length - 4)=q1K t:=by
 rw[q3f,Nat.add_sub_cancel]
 unfold q0t
 rw[List.take_left]
theorem q5r(t:Table):(q0t t).drop ((q0t t).length - 4)=q28 (sumS (q1K t)):=by
 rw[q3f,Nat.add_sub_cancel]
 unfold q0t
 rw[List.drop_left]
theorem z48(t:Table):(q0t t).take 4=[83,76,84,72]:=by simp [q0t,q1K]
theorem z54(t:Table)(i:Nat)(y:UInt8)(hi:i<(q0t t).length)(hy:(q0t t)[i]?≠some y):badB ((q0t t).set i y):=by
 have hl:=q3f t
 unfold badB
 rw[List.length_set]
 refine .inr (.inr ?_)
 by_cases h:i<(q1K t).length
 ·have e1:((q0t t).set i y).take ((q0t t).length - 4)=(q1K t).set i y:=by rw[List.take_set,q4m]
  have e2:((q0t t).set i y).drop ((q0t t).length - 4)=q28 (sumS (q1K t)):=by rw[List.drop_set_of_lt (by omega),q5r]
  rw[e1,e2,(z3N _).1,(z3N _).1]
  intro e
  have e:=z8x (z3N _).2 (z3N _).2 e
  obtain⟨x,hx⟩:∃ x,(q1K t)[i]? = some x:=⟨_,List.getElem?_eq_getElem h⟩
  have hw:(q0t t)[i]? = some x:=by unfold q0t;rw[List.getElem?_append_left h,hx]
  have hne:x≠y:=fun c=>hy (by rw[hw,c])
  have d1:(q1K t).set i y=(q1K t).take i++y :: (q1K t).drop (i+1):=by rw[List.set_eq_take_append_cons_drop,if_pos h]
  have d2:q1K t=(q1K t).take i++x :: (q1K t).drop (i+1):=by
   have:x=(q1K t)[i]:=by rw[List.getElem?_eq_getElem h] at hx;exact(Option.some.inj hx).symm
   rw[this,←List.drop_eq_getElem_cons h,List.take_append_drop]
  rw[d1] at e
  rw[show sumN (q1K t)=sumN ((q1K t).take i++x :: (q1K t).drop (i+1)) by rw[←d2]] at e
  exact z5e _ _ x y hne e.symm
 ·have e1:((q0t t).set i y).take ((q0t t).length - 4)=q1K t:=by
   rw[List.take_set_of_le (by omega),q4m]
  have e2:((q0t t).set i y).drop ((q0t t).length - 4)=(q28 (sumS (q1K t))).set (i - ((q0t t).length - 4)) y:=by
   rw[List.drop_set,if_neg (by omega),q5r]
  rw[e1,e2]
  intro e
  have hg:(q28 (sumS (q1K t)))[i - ((q0t t).length - 4)]? = (q0t t)[i]?:=by
   rw[←q5r,List.getElem?_drop]
   congr 1;omega
  rw[e,List.getElem?_set_self (by rw[q6w];omega)] at hg
  exact hy hg.symm
theorem z2c(z:Bs):∀(f j n:Nat)(l:Bs)(m:Nat)(r:Bs),q4V f j n l=some (m,r)→q4V f j n (l++z)=some (m,r++z)
 |0,_,_,_,_,_,h=>by cases h
 |_+1,_,_,[],_,_,h=>by cases h
 |f+1,j,n,x :: l,m,r,h=>by
  simp only[q4V,List.cons_append] at h ⊢
  split at h
  ·cases h
  ·rename_i h1
   rw[if_neg h1]
   split at h
   ·rename_i h2
    simp only[Option.some.injEq,Prod.mk.injEq] at h
    obtain⟨rfl,rfl⟩:=h
    rw[if_pos h2]
   ·rename_i h2
    rw[if_neg h2]
    exact z2c z f _ _ l m r h
theorem z31(z:Bs){l:Bs}{m:Nat}{r:Bs}(h:numT l=some (m,r)):numT (l++z)=some (m,r++z):=z2c z 10 0 0 l m r h
theorem q25(z:Bs){l:Bs}{m:Nat}{r:Bs}(h:q0h l=some (m,r)):q0h (l++z)=some (m,r++z):=by
 unfold q0h at h ⊢
 cases e:numT l with
 |none=>simp [e] at h
 |some q=>
  obtain⟨n,r'⟩:=q
  simp only[e] at h
  rw[z31 z e]
  split at h
  ·cases h
  ·rename_i hn
   simp only[Option.some.injEq,Prod.mk.injEq] at h
   obtain⟨rfl,rfl⟩:=h
   simp only
   rw[if_neg hn]
theorem q5D(z:Bs){l:Bs}{m:Nat}{r:Bs}(h:q0Q l=some (m,r)):q0Q (l++z)=some (m,r++z):=by
 unfold q0Q at h ⊢
 cases e:q0h l with
 |none=>simp [e] at h
 |some q=>
  obtain⟨n,r'⟩:=q
  simp only[e] at h
  rw[q25 z e]
  split at h
  ·cases h
  ·rename_i hn
   simp only[Option.some.injEq,Prod.mk.injEq] at h
   obtain⟨rfl,rfl⟩:=h
   simp only
   rw[if_neg (by rw[List.length_append];omega)]
theorem z1L(z:Bs){l:Bs}{m:Bs}{r:Bs}(h:q2e l=some (m,r)):q2e (l++z)=some (m,r++z):=by
 unfold q2e at h ⊢
 cases e:q0Q l with
 |none=>simp [e] at h
 |some q=>
  obtain⟨n,r'⟩:=q
  simp only[e,Option.some.injEq,Prod.mk.injEq] at h
  obtain⟨rfl,rfl⟩:=h
  have:=(q1m e).2
  rw[q5D z e]
  simp only
  rw[List.take_append_of_le_length this,List.drop_append_of_le_length this]
theorem z2X(z:Bs){l:Bs}{m:Int}{r:Bs}(h:q2r l=some (m,r)):q2r (l++z)=some (m,r++z):=by
 unfold q2r at h ⊢
 cases e:numT l with
 |none=>simp [e] at h
 |some q=>
  obtain⟨n,r'⟩:=q
  simp only[e,Option.some.injEq,Prod.mk.injEq] at h
  obtain⟨rfl,rfl⟩:=h
  rw[z31 z e]
theorem j1g(z:Bs){k:Int}{l:Bs}{m:Int}{r:Bs}(h:argA k l=some (m,r)):argA k (l++z)=some (m,r++z):=by
 unfold argA at h ⊢
 split at h
 ·rename_i h3
  rw[if_pos h3];exact z2X z h
 ·rename_i h3
  rw[if_neg h3]
  split at h
  ·rename_i h0
   rw[if_pos h0]
   cases e:q0h l with
   |none=>simp [e] at h
   |some q=>
    obtain⟨n,r'⟩:=q
    simp only[e,Option.some.injEq,Prod.mk.injEq] at h
    obtain⟨rfl,rfl⟩:=h
    rw[q25 z e]
  ·rename_i h0
   rw[if_neg h0]
   simp only[Option.some.injEq,Prod.mk.injEq] at h
   obtain⟨rfl,rfl⟩:=h
   rfl
theorem j1e(z:Bs){k:Int}{l:Bs}{m:Int}{r:Bs}(h:argB k l=some (m,r)):argB k (l++z)=some (m,r++z):=by
 unfold argB at h ⊢
 split at h
 ·rename_i h0
  rw[if_pos h0]
  cases e:q0h l with
  |none=>simp [e] at h
  |some q=>
   obtain⟨n,r'⟩:=q
   simp only[e,Option.some.injEq,Prod.mk.injEq] at h
   obtain⟨rfl,rfl⟩:=h
   rw[q25 z e]
 ·rename_i h0
  rw[if_neg h0]
  simp only[Option.some.injEq,Prod.mk.injEq] at h
  obtain⟨rfl,rfl⟩:=h
  rfl
theorem z5C(z:Bs){l:Bs}{x:Instr}{r:Bs}(h:q1C l=some (x,r)):q1C (l++z)=some (x,r++z):=by
 unfold q1C at h ⊢
 cases e:q0h l with
 |none=>simp [e] at h
 |some q=>
  obtain⟨n,r'⟩:=q
  simp only[e] at h
  rw[q25 z e]
  split at h
  ·rename_i ho
   cases ea:argA (q0S n).2.1 r' with
   |none=>simp [ea] at h
   |some q=>
    obtain⟨a,r1⟩:=q
    simp only[ea] at h
    cases eb:argB (q0S n).2.2 r1 with
    |none=>simp [eb] at h
    |some q=>
     obtain⟨b,r2⟩:=q
     simp only[eb,Option.some.injEq,Prod.mk.injEq] at h
     obtain⟨rfl,rfl⟩:=h
     simp only
     rw[if_pos ho,j1g z ea]
     simp only
     rw[j1e z eb]
  ·cases h
theorem z2w(z:Bs):∀(k:Nat)(l:Bs)(xs:List Instr)(r:Bs),q3q k l=some (xs,r)→q3q k (l++z)=some (xs,r++z)
 |0,l,xs,r,h=>by
  simp only[q3q,Option.some.injEq,Prod.mk.injEq] at h ⊢
  obtain⟨rfl,rfl⟩:=h
  exact⟨rfl,rfl⟩
 |k+1,l,xs,r,h=>by
  simp only[q3q] at h ⊢
  cases e:q1C l with
  |none=>simp [e] at h
  |some q=>
   obtain⟨x,r1⟩:=q
   simp only[e] at h
   cases e2:q3q k r1 with
   |none=>simp [e2] at h
   |some q=>
    obtain⟨ys,r2⟩:=q
    simp only[e2,Option.some.injEq,Prod.mk.injEq] at h
    obtain⟨rfl,rfl⟩:=h
    rw[z5C z e]
    simp only
    rw[z2w z k r1 ys r2 e2]
theorem z8r(z:Bs){l:Bs}{g:Glob}{r:Bs}(h:q5I l=some (g,r)):q5I (l++z)=some (g,r++z):=by
 unfold q5I at h ⊢
 cases e1:q2e l with
 |none=>simp [e1] at h
 |some q=>
  obtain⟨nm,r0⟩:=q
  simp only[e1] at h
  cases e2:q0h r0 with
  |none=>simp [e2] at h
  |some q=>
   obtain⟨ar,r1⟩:=q
   simp only[e2] at h
   cases e3:q0Q r1 with
   |none=>simp [e3] at h
   |some q=>
    obtain⟨m,r2⟩:=q
    simp only[e3] at h
    cases e4:q3q m r2 with
    |none=>simp [e4] at h
    |some q=>
     obtain⟨xs,r3⟩:=q
     simp only[e4,Option.some.injEq,Prod.mk.injEq] at h
     obtain⟨rfl,rfl⟩:=h
     rw[z1L z e1]
     simp only
     rw[q25 z e2]
     simp only
     rw[q5D z e3]
     simp only
     rw[z2w z m r2 xs r3 e4]
theorem q94(z:Bs):∀(k:Nat)(l:Bs)(xs:List Glob)(r:Bs),q1Y k l=some (xs,r)→q1Y k (l++z)=some (xs,r++z)
 |0,l,xs,r,h=>by
  simp only[q1Y,Option.some.injEq,Prod.mk.injEq] at h ⊢
  obtain⟨rfl,rfl⟩:=h
  exact⟨rfl,rfl⟩
 |k+1,l,xs,r,h=>by
  simp only[q1Y] at h ⊢
  cases e:q5I l with
  |none=>simp [e] at h
  |some q=>
   obtain⟨x,r1⟩:=q
   simp only[e] at h
   cases e2:q1Y k r1 with
   |none=>simp [e2] at h
   |some q=>
    obtain⟨ys,r2⟩:=q
    simp only[e2,Option.some.injEq,Prod.mk.injEq] at h
    obtain⟨rfl,rfl⟩:=h
    rw[z8r z e]
    simp only
    rw[q94 z k r1 ys r2 e2]
theorem q8t(z:Bs):∀(k:Nat)(l:Bs)(xs:List Shape)(r:Bs),q1i k l=some (xs,r)→q1i k (l++z)=some (xs,r++z)
 |0,l,xs,r,h=>by
  simp only[q1i,Option.some.injEq,Prod.mk.injEq] at h ⊢
  obtain⟨rfl,rfl⟩:=h
  exact⟨rfl,rfl⟩
 |k+1,l,xs,r,h=>by
  simp only[q1i] at h ⊢
  cases e:q2e l with
  |none=>simp [e] at h
  |some q=>
   obtain⟨x,r0⟩:=q
   simp only[e] at h
   cases e1:q0h r0 with
   |none=>simp [e1] at h
   |some q=>
    obtain⟨f,r1⟩:=q
    simp only[e1] at h
    cases e2:q1i k r1 with
    |none=>simp [e2] at h
    |some q=>
     obtain⟨ys,r2⟩:=q
     simp only[e2,Option.some.injEq,Prod.mk.injEq] at h
     obtain⟨rfl,rfl⟩:=h
     rw[z1L z e]
     simp only
     rw[q25 z e1]
     simp only
     rw[q8t z k r1 ys r2 e2]
theorem q9I(z:Bs){l:Bs}{t:Table}{r:Bs}(h:q1N l=some (t,r)):q1N (l++z)=some (t,r++z):=by
 unfold q1N at h ⊢
 cases e1:q0Q l with
 |none=>simp [e1] at h
 |some q=>
  obtain⟨n,r0⟩:=q
  simp only[e1] at h
  cases e2:q1i n r0 with
  |none=>simp [e2] at h
  |some q=>
   obtain⟨ss,r1⟩:=q
   simp only[e2] at h
   cases e3:q0Q r1 with
   |none=>simp [e3] at h
   |some q=>
    obtain⟨m,r2⟩:=q
    simp only[e3] at h
    cases e4:q1Y m r2 with
    |none=>simp [e4] at h
    |some q=>
     obtain⟨gs,r3⟩:=q
     simp only[e4,Option.some.injEq,Prod.mk.injEq] at h
     obtain⟨rfl,rfl⟩:=h
     rw[q5D z e1]
     simp only
     rw[q8t z _ _ _ _ e2]
     simp only
     rw[q5D z e3]
     simp only
     rw[q94 z _ _ _ _ e4]
theorem z5w{t:Table}(h:q1P t=0)(hr:RtT t)(hl:(q0t t).length≤8388608):q2y (q0t t)=(t,0):=by
 have hb:¬ badB (q0t t):=by
  unfold badB
  have:=q3f t
  have:=z0T t
  rw[q4m,q5r,z48]
  simp
  omega
 rw[q8Q (r:=[]) (t:=t) (by omega) hb (by rw[q4m];exact q61 hr)]
 simp [h]
theorem z0A{b:Bs}(hl:b.length≤8388608)(h:badB b):q2y b=(⟨[],[]⟩,171):=z1R (by omega) h
theorem j0t{t:Table}(hr:RtT t)(hl:(q0t t).length≤8388608)(m:Nat)(hm:m<(q0t t).length):(q2y ((q0t t).take m)).2=171:=by
 have hlen:((q0t t).take m).length=m:=by rw[List.length_take];omega
 by_cases hb:badB ((q0t t).take m)
 ·rw[z0A (by omega) hb]
 ·have h8:8≤m:=by
   unfold badB at hb
   simp only[not_or] at hb
   have:=hb.1
   omega
  have hw:=q3f t
  have e:(((q0t t).take m).take (m - 4)).drop 4=((q1K t).drop 4).take (m - 8):=by
   rw[List.take_take,Nat.min_eq_left (by omega),←q4m t,List.drop_take,List.drop_take,List.take_take]
   congr 1
   omega
  have hn:q1N (((q1K t).drop 4).take (m - 8))=none:=by
   cases c:q1N (((q1K t).drop 4).take (m - 8)) with
   |none=>rfl
   |some q=>
    obtain⟨t',r'⟩:=q
    have:=q9I (((q1K t).drop 4).drop (m - 8)) c
    rw[List.take_append_drop,q61 hr] at this
    simp only[Option.some.injEq,Prod.mk.injEq] at this
    have hz:=congrArg List.length this.2
    simp only[List.length_nil,List.length_append,List.length_drop] at hz
    omega
  rw[z1Q (by omega) hb (by rw[hlen,e];exact hn)]
theorem z7Y{t:Table}(hr:RtT t)(z:Bs)(hz:z≠[])(hl:(q0t t++z).length≤8388608):(q2y (q0t t++z)).2=171:=by
 by_cases hb:badB (q0t t++z)
 ·rw[z0A hl hb]
 ·have hw:=q3f t
  have hzl:=List.length_pos_iff.2 hz
  have h4:=z0T t
  have e:((q0t t++z).take ((q0t t++z).length - 4)).drop 4=(q1K t).drop 4++(q28 (sumS (q1K t))++z).take z.length:=by
   have:q0t t++z=q1K t++(q28 (sumS (q1K t))++z):=by rw[q0t,List.append_assoc]
   rw[this,List.take_append,List.take_of_length_le (by simp [q6w];omega),List.drop_append_of_le_length h4]
   congr 2
   simp only[List.length_append,q6w]
   omega
  have ht:=q9I ((q28 (sumS (q1K t))++z).take z.length) (q61 hr)
  rw[←e,List.nil_append] at ht
  have hc:(q28 (sumS (q1K t))++z).take z.length≠[]:=fun c=>by
   have:=congrArg List.length c
   simp only[List.length_take,List.length_append,List.length_nil] at this
   omega
  rw[q8Q (by omega) hb ht,if_pos (.inl hc)]
end Go.Vm
end

section
namespace Go.Vm
set_option maxRecDepth 20000
open Go.Proofs
/- 'sloth/slothlaw17.CodeBytes' -/
/- 'sloth/slothlaw17.sameBytes' -/
theorem setU(l:Bs)(i:Nat)(c:UInt8):(l.map eU).set i [.int .u8 (c.toNat:Int)]=(l.set i c).map eU:=by
 rw[List.map_set];rfl
end Go.Vm
end

section
namespace Go.Vm
set_option maxRecDepth 20000
open Go.Proofs
def L24(K:Cx):Prop:=∀ t:Table,TabOk t→t.shapes.length≤1048576→K.call 24 [.agg [.d false (.sl 2 (t.shapes.map q0k)),.d false (.sl 3 (t.globals.map q00))]]=some (rBy (q4y t))
end Go.Vm
end

section
namespace Go.Vm
set_option maxRecDepth 20000
open Go.Proofs
def z8I:C:=(.reg [⟨[(5,.box (.sl 0))],[],[(.bool false)],none,[1,2,3,4,5],2,[],[],[]⟩])
def z8D:C:=(.reg [⟨[],[(11,(.call 11 .nil))],[],none,[1,2,3,4,5],2,[],[],[]⟩])
def z8C:C:=(.reg [⟨[(27,.callo 24 (.cons (.ld 2 true (.sl 5)) .nil))],[(12,(.ext 0 (.sl 27))),(13,(.ext 1 (.sl 27)))],[],none,[1,2,3,4,11],7,[],[],[]⟩])
def z8B:C:=(.seq (.reg [⟨[],[(40,(.or (.or (.un .not (.sl 11)) (.bin .neq (.sl 13) (.int .i64 0))) (.bin .eql (.len false (.sl 12)) (.int .i64 0))))],[],none,[1,2,3,4,11,12],11,[],[],[]⟩]) (.cond (.sl 40) (.seq (.reg [⟨[],[(10,(.sl 11))],[],none,[],2,[],[],[]⟩]) (.seq (.tidy 0 [10]) .ret)) .skip))
def j2M:C:=(.reg [⟨[(44,.callo 27 (.cons (.sl 12) .nil)),(14,.box (.agg (.cons (.nilsl 2) (.cons (.nilsl 3) .nil))))],[(46,(.ext 1 (.sl 44)))],[],some (none,.store 2 (.sl 14) (.ext 0 (.sl 44))),[1,2,3,4,12],7,[],[],[]⟩,⟨[],[(15,(.sl 46))],[],none,[1,2,3,4,12],1,[],[],[]⟩])
def j2L:C:=(.reg [⟨[(47,.lits 1 .nil)],[],[],some (some 49,.app 1 (.sl 47) (.sl 12)),[1,2,3,4,12,15],3,[],[],[]⟩,⟨[],[(16,(.sl 49))],[],none,[1,2,3,4,12,15],1,[],[],[]⟩])
def j2K:C:=(.reg [⟨[],[],[],some (none,.store 1 (.ia 1 (.sl 16) (.bin .rem (.cond (.and (.bin .eql (.bin .and (.sl 1) (.int .i64 0)) (.bin .and (.sl 1) (.int .i64 0))) (.bin .gtr (.sl 1) (.int .i64 0))) (.sl 1) (.int .i64 0)) (.len false (.sl 12)))) (.bin .xor (.ld 1 false (.ia 1 (.sl 16) (.bin .rem (.cond (.and (.bin .eql (.bin .and (.sl 1) (.int .i64 0)) (.bin .and (.sl 1) (.int .i64 0))) (.bin .gtr (.sl 1) (.int .i64 0))) (.sl 1) (.int .i64 0)) (.len false (.sl 12))))) (.sl 2))),[2,3,4,12,15,16],18,[[],[],[1],[],[3],[3,4,1,2],[],[],[7],[],[9],[9,10,7,8],[8,7,10,9,11,6],[6,11,9,10,7,8,12],[],[14,12,8,7,10,9,11,6,13],[15,14,13,12,11,10,9,8,7,6,2,1,4,3,5,0],[0,5,3,4,1,2,6,7,8,9,10,11,12,13,14,15,16]],[],[]⟩])
def j2J:C:=(.reg [⟨[(69,.callo 27 (.cons (.sl 16) .nil)),(17,.box (.agg (.cons (.nilsl 2) (.cons (.nilsl 3) .nil))))],[(71,(.ext 1 (.sl 69)))],[],some (none,.store 2 (.sl 17) (.ext 0 (.sl 69))),[2,3,4,12,15],7,[],[],[]⟩,⟨[],[(18,(.sl 71))],[],none,[2,3,4,12,15],1,[],[],[]⟩])
def j2I:C:=(.reg [⟨[(84,.callo 27 (.cons (.cut false false true false 1 (.sl 12) .nil (.bin .sub (.bin .sub (.len false (.sl 12)) (.int .i64 1)) (.bin .rem (.cond (.and (.bin .eql (.bin .and (.sl 3) (.int .i64 0)) (.bin .and (.sl 3) (.int .i64 0))) (.bin .gtr (.sl 3) (.int .i64 0))) (.sl 3) (.int .i64 0)) (.len false (.sl 12)))) .nil) .nil)),(19,.box (.agg (.cons (.nilsl 2) (.cons (.nilsl 3) .nil))))],[(86,(.ext 1 (.sl 84)))],[],some (none,.store 2 (.sl 19) (.ext 0 (.sl 84))),[2,4,12,15,18],17,[],[],[]⟩,⟨[],[(20,(.sl 86))],[],none,[2,4,12,15,18],1,[],[],[]⟩])
def z8H:C:=(.reg [⟨[(87,.lits 1 .nil)],[],[],some (some 89,.app 1 (.sl 87) (.sl 12)),[2,4,15,18,20],3,[],[],[]⟩,⟨[],[(21,(.sl 89))],[],none,[2,4,15,18,20],1,[],[],[]⟩])
def z8G:C:=(.reg [⟨[],[],[],some (some 92,.app 1 (.sl 21) (.sl 4)),[2,4,15,18,20],3,[],[],[]⟩,⟨[],[(21,(.sl 92))],[],none,[2,4,15,18,20],1,[],[],[]⟩])
def z8F:C:=(.reg [⟨[(95,.callo 27 (.cons (.sl 21) .nil)),(22,.box (.agg (.cons (.nilsl 2) (.cons (.nilsl 3) .nil))))],[(97,(.ext 1 (.sl 95)))],[],some (none,.store 2 (.sl 22) (.ext 0 (.sl 95))),[2,4,15,18,20,21],7,[],[],[]⟩,⟨[],[(23,(.sl 97))],[],none,[2,4,15,18,20,21],1,[],[],[]⟩])
def z8E:C:=(.seq (.seq (.reg [⟨[],[(111,(.or (.or (.bin .neq (.sl 15) (.int .i64 0)) (.and (.bin .neq (.sl 2) (.int .u8 0)) (.bin .neq (.sl 18) (.int .i64 171)))) (.bin .neq (.sl 20) (.int .i64 171))))],[],none,[4,21,23],14,[],[],[]⟩]) (.cond (.sl 111) (.seq (.reg [⟨[],[(10,(.bool false))],[],none,[],1,[],[],[]⟩]) (.seq (.tidy 0 [10]) .ret)) .skip)) (.seq (.reg [⟨[],[(10,(.or (.or (.bin .eql (.len false (.sl 4)) (.int .i64 0)) (.bin .eql (.sl 23) (.int .i64 171))) (.and (.bin .eql (.sl 23) (.int .i64 2)) (.bin .gtr (.len false (.sl 21)) (.int .i64 8388608)))))],[],none,[],17,[],[],[]⟩]) (.seq (.tidy 0 [10]) .ret)))
def f9:Fun:=⟨(.seq z8I (.seq z8D (.seq z8C (.seq z8B (.seq j2M (.seq j2L (.seq j2K (.seq j2J (.seq j2I (.seq z8H (.seq z8G (.seq z8F z8E)))))))))))),[(.sl 10)],false⟩
theorem f9_ok:q1s Go.Proofs.Tryz.prog 9 0 5 f9=true:=by kernel_rfl
def LA(nx:Nat)(p:Table×Int):V:=if p.2=0 then .bsl nx 0 p.1.shapes.length else .fs true 2 []
def LC(nx:Nat)(p:Table×Int):V:=if p.2=0 then .bsl (nx+1) 0 p.1.globals.length else .fs true 3 []
def LNw(nx:Nat)(p:Table×Int):List Blk:=if p.2=0 then(tb0 true 0 p.1).map (Blk.shift nx) else []
theorem z1I:∀(gs:List Glob)(p:Nat),((numG p gs).map rowB).all (·.all fun v=>v.new2)=true
 |[],_=>rfl
 |g :: r,p=>by
  simp only[numG,List.map_cons,List.all_cons,z1I r (p+1),Bool.and_true]
  rfl
theorem z3M(t:Table):(tb0 true 0 t).all Blk.newM=true∧(tb0 true 0 t).all Blk.lays=true:=by
 simp only[tb0,List.all_cons,List.all_map]
 refine⟨?_,?_⟩
 ·have h1:(gN true 2 t.globals).newM=true:=by
   unfold gN
   split
   ·rfl
   ·exact z1I _ _
  rw[h1]
  simp [Blk.newM,cN]
 ·have h1:(gN true 2 t.globals).lays=true:=by
   unfold gN
   split <;> rfl
  rw[h1]
  simp [Blk.lays,cN]
theorem z60(t:Table)(n:Nat)(h:(tb0 true 0 t).all Blk.plain=true):(tb0 true 0 t).map (Blk.shift n)=tb0 true 0 t:=q8A n h
theorem mk27(nx:Nat)(p:Table×Int):mkOR nx true (some (rLd p))=some (.tup [.agg [LA nx p,LC nx p],.d false (.int .i64 p.2)],LNw nx p):=by
 obtain⟨t,e⟩:=p
 unfold rLd LA LC LNw
 by_cases h:e=0
 ·subst h
  simp only[if_true,q8L]
  have h2:V.new2 (.tup [tbV 0 t,.d false (.int .i64 0)])=true:=rfl
  have hs:V.shift nx (.tup [tbV 0 t,.d false (.int .i64 0)])=.tup [.agg [.bsl nx 0 t.shapes.length,.bsl (nx+1) 0 t.globals.length],.d false (.int .i64 0)]:=by
   simp [tbV,V.shift,Nat.add_comm]
  rw[(z3M t).1,(z3M t).2,h2,hs]
  by_cases hp:(tb0 true 0 t).all Blk.plain=true
  ·rw[z60 t nx hp]
   split <;> rfl
  ·rw[if_neg (by simp [hp])]
   rfl
 ·simp only[h,if_false,q8L]
  rfl
theorem q5m(H:List (Nat×Blk))(nx:Nat)(L:List Blk)(x:Blk):look (addBlks H nx (L++[x])) (nx+L.length)=some x:=by
 rw[q1S,if_pos (by simp),Nat.add_sub_cancel_left,List.getElem?_append_right (Nat.le_refl _),Nat.sub_self];rfl
theorem z0S(H:List (Nat×Blk))(nx:Nat)(L:List Blk)(x y:Blk){b:Nat}(hb:b<nx):look (put (addBlks H nx (L++[x])) (nx+L.length) y) b=look H b:=by
 rw[q0c _ _ (by omega),q1S,if_neg (by omega)]
structure LawS(K:Cx):Prop where
 k11:K.call 11 []=some (.d false (.bool true),[])
 k24:L24 K
 k27:∀ b:Bs,b.length≤1000000000000→K.call 27 [.d false (.sl 1 (b.map eU))]=some (rLd (q2y b))
def n9(H H':List (Nat×Blk))(nx nx':Nat):Prop:=nx≤nx'∧∀ b c k rows,b<nx→look H b=some (.dat c k rows)→look H' b=some (.dat c k rows)
set_option maxHeartbeats 2000000 in
theorem sp_R5(K:Cx)(h:LawS K)(l:Bs)(hl:l.length≤1000000000000)(z:Bool)(at_ ct:Int)(m:UInt8)(w:Bs)(H:List (Nat×Blk))(nx:Nat)(h1:look H 1=some (.dat z 1 (l.map eU))) :
  ∃ H' nx',exec K j2M ⟨[(40,.bool false),(1,.d false (.int .i64 at_)),(2,.d false (.int .u8 (m.toNat:Int))),(3,.d false (.int .i64 ct)),(4,.d false (.sl 1 (w.map eU))),(11,.bool true),(12,.bsl 1 0 l.length)],H,nx,[]⟩=some (.nrm,⟨[(15,.d false (.int .i64 (q2y l).2)),(1,.d false (.int .i64 at_)),(2,.d false (.int .u8 (m.toNat:Int))),(3,.d false (.int .i64 ct)),(4,.d false (.sl 1 (w.map eU))),(12,.bsl 1 0 l.length)],H',nx',[]⟩)∧n9 H H' nx nx':=by
 have k:=h.k27 l hl
 have mk:=mk27 nx (q2y l)
 have hv:q0b 6 H (.bsl 1 0 l.length)=some (.sl 1 (l.map eU)):=by
  simp only[q0b,h1,List.drop_zero,List.length_map,Nat.zero_add,Nat.le_refl,if_true]
  rw[List.take_of_length_le (by simp)]
 unfold j2M
 clear h
 have hlk:=q5m H nx (LNw nx (q2y l)) (.mix 2 [[.fs true 2 [],.fs true 3 []]])
 simp(disch:=first|decide|omega|(simp only[LN];first|done|omega)) only[q19,q0N,q2b,q1f,q3I,q4e,e_sl,q1n,Nat.reduceBEq,q0W,beq_self_eq_true,q1d,q6G,q2L,q1H,q10,q68,List.any_cons,V.own,V.own1,List.any_nil,Bool.or_false,q1B,view,viewDepth,hv,Option.map_some,q18,q2O,q69,k,mk,q2N,q17,q1c,q2H,q2c,q6I,q4O,q2d,mkBox,V.laid,V.cells,List.length_cons,List.length_nil,Nat.zero_add,Nat.reduceAdd,if_true,q1E,q2M,List.append_nil,q2F,q12,q1F,q0X,q9e,evExt,List.getElem?_cons_succ,List.getElem?_cons_zero,q1g,q2P,q1w,q0y,q1z,q0H,List.cons_append,List.nil_append,q1e,q0T,Bool.and_self,hlk,q38,q14,Nat.le_refl,splice,List.take_zero,List.drop_succ_cons,List.drop_zero,q13,q1y,lose,loseH,Lost.ids,q1v,q1x,addBlks,q15,q0E,Option.some.injEq,Prod.mk.injEq,true_and,q0E]
 exact⟨_,_,rfl,by omega,fun b c k rows hb hl=>(z0S _ _ _ _ _ hb).trans hl⟩
set_option maxHeartbeats 2000000 in
theorem sp_R6(K:Cx)(l:Bs)(hl:l.length≤1000000000000)(z:Bool)(at_ ct e1:Int)(m:UInt8)(w:Bs)(H:List (Nat×Blk))(nx:Nat)(h1:look H 1=some (.dat z 1 (l.map eU)))(hnx:1<nx) :
  ∃ H' nx' b mv,exec K j2L ⟨[(15,.d false (.int .i64 e1)),(1,.d false (.int .i64 at_)),(2,.d false (.int .u8 (m.toNat:Int))),(3,.d false (.int .i64 ct)),(4,.d false (.sl 1 (w.map eU))),(12,.bsl 1 0 l.length)],H,nx,[]⟩ =
   some (.nrm,⟨[(16,.bsl b 0 l.length),(1,.d false (.int .i64 at_)),(2,.d false (.int .u8 (m.toNat:Int))),(3,.d false (.int .i64 ct)),(4,.d false (.sl 1 (w.map eU))),(12,.bsl 1 0 l.length),(15,.d false (.int .i64 e1))],H',nx',mv⟩)∧n9 H H' nx nx'∧nx≤b∧b<nx'∧∃ z',look H' b=some (.dat z' 1 (l.map eU)):=by
 unfold j2L
 have hne:(nx==1)=false:=by simp;omega
 have hn1:¬(1=nx):=by omega
 simp(disch:=first|decide|omega|(simp only[LN];first|done|omega)) only[SX,SW,mkBlk,Nat.reduceBEq,hne,h1,q5L,lose,V.forget,V.drop1,V.ref0,hn1,true_and]
 refine⟨_,_,nx,_,rfl,⟨by omega,fun b c k rows hb hl=>q1k (by rw[q1n,show(nx==b)=false by simp;omega];exact hl) rfl⟩,Nat.le_refl _,by omega,true,q1k (by simp [look]) rfl⟩
def ix9(a:Int)(n:Nat):Nat:=if 0<a then a.toNat % n else 0
theorem xorU(x y:UInt8):bits .xor .u8 (x.toNat:Int) (y.toNat:Int)=((x ^^^ y).toNat:Int):=by
 show IntKind.u8.wrap (((BitVec.ofInt 8 (x.toNat:Int) ^^^ BitVec.ofInt 8 (y.toNat:Int)).toNat:Nat):Int)=_
 rw[BitVec.toNat_xor,BitVec.toNat_ofInt,BitVec.toNat_ofInt,UInt8.toNat_xor,z03]
 have hx:=x.toNat_lt
 have hy:=y.toNat_lt
 have h1:((x.toNat:Int) % ((2 ^ 8:Nat):Int)).toNat=x.toNat:=by omega
 have h2:((y.toNat:Int) % ((2 ^ 8:Nat):Int)).toNat=y.toNat:=by omega
 rw[h1,h2]
 have:=Nat.xor_lt_two_pow (n:=8) hx hy
 omega
set_option maxHeartbeats 2000000 in
theorem sp_R7(K:Cx)(l:Bs)(hl:l.length≤1000000000000)(hp:0<l.length)(z:Bool)(at_ ct e1:Int)(ha:at_≤9223372036854775807)(m:UInt8)(w:Bs)(H:List (Nat×Blk))(nx b:Nat)(mv:List Nat)(h1:look H b=some (.dat z 1 (l.map eU))) :
  ∃ mv',exec K j2K ⟨[(16,.bsl b 0 l.length),(1,.d false (.int .i64 at_)),(2,.d false (.int .u8 (m.toNat:Int))),(3,.d false (.int .i64 ct)),(4,.d false (.sl 1 (w.map eU))),(12,.bsl 1 0 l.length),(15,.d false (.int .i64 e1))],H,nx,mv⟩ =
   some (.nrm,⟨[(2,.d false (.int .u8 (m.toNat:Int))),(3,.d false (.int .i64 ct)),(4,.d false (.sl 1 (w.map eU))),(12,.bsl 1 0 l.length),(15,.d false (.int .i64 e1)),(16,.bsl b 0 l.length)],put H b (.dat z 1 ((l.set (ix9 at_ l.length) (nth l (ix9 at_ l.length:Int) ^^^ m)).map eU)),nx,mv'⟩):=by
 unfold j2K ix9
 have hl0:¬((l.length:Int)=0):=by omega
 by_cases hg:0<at_
 ·have htm:at_.tmod (l.length:Int)=((at_.toNat % l.length:Nat):Int):=by
   obtain⟨k,rfl⟩:=Int.eq_ofNat_of_zero_le (show 0≤at_ by omega)
   rfl
  have hlt:=Nat.mod_lt at_.toNat hp
  rw[if_pos hg]
  generalize at_.toNat % l.length=i at htm hlt ⊢
  have hs:=setU l i (nth l (i:Int) ^^^ m)
  simp(disch:=first|decide|omega|(simp only[LN];first|done|omega)) only[SV,SW,Nat.reduceBEq,hg,hl0,htm,h1,eU,xorU,hs,lose,true_and]
  exact⟨_,rfl⟩
 ·have htm:Int.tmod 0 (l.length:Int)=0:=Int.zero_tmod _
  have hs:=setU l 0 (nth l ((0:Nat):Int) ^^^ m)
  rw[if_neg hg]
  simp(disch:=first|decide|omega|(simp only[LN];first|done|omega)) only[SV,SW,Nat.reduceBEq,hg,hl0,htm,h1,Int.toNat_zero,eU,xorU,hs,lose,true_and]
  exact⟨_,rfl⟩
theorem q8m{H:List (Nat×Blk)}{b n:Nat}{z:Bool}{l:Bs}(h:look H b=some (.dat z 1 (l.map eU)))(hn:n≤l.length):q0b 6 H (.bsl b 0 n)=some (.sl 1 ((l.take n).map eU)):=by
 simp only[q0b,h,List.drop_zero,List.length_map,Nat.zero_add,hn,if_true,List.map_take]
set_option maxHeartbeats 2000000 in
theorem sp_R8(K:Cx)(h:LawS K)(l s:Bs)(n b:Nat)(hn:n=s.length)(hl:s.length≤1000000000000)(z:Bool)(ct e1:Int)(m:UInt8)(w:Bs)(H:List (Nat×Blk))(nx:Nat)(mv:List Nat)(h1:look H b=some (.dat z 1 (s.map eU))) :
  ∃ H' nx',exec K j2J ⟨[(2,.d false (.int .u8 (m.toNat:Int))),(3,.d false (.int .i64 ct)),(4,.d false (.sl 1 (w.map eU))),(12,.bsl 1 0 n),(15,.d false (.int .i64 e1)),(16,.bsl b 0 n)],H,nx,mv⟩ =
   some (.nrm,⟨[(18,.d false (.int .i64 (q2y s).2)),(2,.d false (.int .u8 (m.toNat:Int))),(3,.d false (.int .i64 ct)),(4,.d false (.sl 1 (w.map eU))),(12,.bsl 1 0 n),(15,.d false (.int .i64 e1))],H',nx',mv⟩)∧n9 H H' nx nx':=by
 have k:=h.k27 s hl
 have mk:=mk27 nx (q2y s)
 have hv:=q8m (n:=n) h1 (by omega)
 rw[List.take_of_length_le (by omega)] at hv
 have hlk:=q5m H nx (LNw nx (q2y s)) (.mix 2 [[.fs true 2 [],.fs true 3 []]])
 unfold j2J
 clear h
 simp(disch:=first|decide|omega|(simp only[LN];first|done|omega)) only[q19,q0N,q2b,q1f,q3I,q4e,e_sl,q1n,Nat.reduceBEq,q0W,beq_self_eq_true,q1d,q6G,q2L,q1H,q10,q68,List.any_cons,V.own,V.own1,List.any_nil,Bool.or_false,q1B,view,viewDepth,hv,Option.map_some,q18,q2O,q69,k,mk,q2N,q17,q1c,q2H,q2c,q6I,q4O,q2d,mkBox,V.laid,V.cells,List.length_cons,List.length_nil,Nat.zero_add,Nat.reduceAdd,if_true,q1E,q2M,List.append_nil,q2F,q12,q1F,q0X,q9e,evExt,List.getElem?_cons_succ,List.getElem?_cons_zero,q1g,q2P,q1w,q0y,q1z,q0H,List.cons_append,List.nil_append,q1e,q0T,Bool.and_self,hlk,q38,q14,Nat.le_refl,splice,List.take_zero,List.drop_succ_cons,List.drop_zero,q13,q1y,lose,loseH,Lost.ids,q1v,q1x,addBlks,q15,q0E,Option.some.injEq,Prod.mk.injEq,true_and,q0E]
 exact⟨_,_,rfl,by omega,fun b c k rows hb hl=>(z0S _ _ _ _ _ hb).trans hl⟩
theorem cut_b{H:List (Nat×Blk)}{b len n:Nat}{z:Bool}{rows:List (List D)}(h:look H b=some (.dat z 1 rows))(lo mx:V)(hn:n≤len):q5i H false false true false 1 (.bsl b 0 len) lo (.d false (.int .i64 (n:Int))) mx=some (.bsl b 0 n):=by
 have hw:q6V H b 1=true:=by simp [q6V,h,Blk.k]
 simp [q5i,V.isStr,q89,q5n,hw,hn]
set_option maxHeartbeats 2000000 in
theorem sp_R9(K:Cx)(h:LawS K)(l:Bs)(hp:0<l.length)(hl:l.length≤1000000000000)(z:Bool)(ct e1 e2:Int)(hc:ct≤9223372036854775807)(m:UInt8)(w:Bs)(H:List (Nat×Blk))(nx:Nat)(mv:List Nat)(h1:look H 1=some (.dat z 1 (l.map eU))) :
  ∃ H' nx',exec K j2I ⟨[(18,.d false (.int .i64 e2)),(2,.d false (.int .u8 (m.toNat:Int))),(3,.d false (.int .i64 ct)),(4,.d false (.sl 1 (w.map eU))),(12,.bsl 1 0 l.length),(15,.d false (.int .i64 e1))],H,nx,mv⟩ =
   some (.nrm,⟨[(20,.d false (.int .i64 (q2y (l.take (l.length - 1 - ix9 ct l.length))).2)),(2,.d false (.int .u8 (m.toNat:Int))),(4,.d false (.sl 1 (w.map eU))),(12,.bsl 1 0 l.length),(15,.d false (.int .i64 e1)),(18,.d false (.int .i64 e2))],H',nx',mv⟩)∧n9 H H' nx nx':=by
 have key:∀ n:Nat,n≤l.length→K.call 27 [.d false (.sl 1 ((l.take n).map eU))]=some (rLd (q2y (l.take n)))∧q0b 6 H (.bsl 1 0 n)=some (.sl 1 ((l.take n).map eU)):=fun n hn=>⟨h.k27 _ (by rw[List.length_take];omega),q8m h1 hn⟩
 unfold j2I ix9
 clear h
 have hl0:¬((l.length:Int)=0):=by omega
 have hcut:∀(lo mx:V) (n:Nat),n≤l.length→q5i H false false true false 1 (.bsl 1 0 l.length) lo (.d false (.int .i64 (n:Int))) mx=some (.bsl 1 0 n):=fun lo mx n hn=>cut_b h1 lo mx hn
 clear h1
 by_cases hg:0<ct
 ·have htm:ct.tmod (l.length:Int)=((ct.toNat % l.length:Nat):Int):=by
   obtain⟨k,rfl⟩:=Int.eq_ofNat_of_zero_le (show 0≤ct by omega)
   rfl
  have hlt:=Nat.mod_lt ct.toNat hp
  rw[if_pos hg]
  generalize ct.toNat % l.length=i at htm hlt ⊢
  have hi:((l.length:Int) - 1 - (i:Int))=((l.length - 1 - i:Nat):Int):=by omega
  obtain⟨k,hv⟩:=key (l.length - 1 - i) (by omega)
  generalize hq:l.length - 1 - i=q at k hv hi ⊢
  have mk:=mk27 nx (q2y (l.take q))
  have hlk:=q5m H nx (LNw nx (q2y (l.take q))) (.mix 2 [[.fs true 2 [],.fs true 3 []]])
  have hc':=fun lo mx=>hcut lo mx q (by omega)
  simp(disch:=first|decide|omega|(simp only[LN];first|done|omega)) only[q19,q0N,q2b,q1f,q3I,q4e,z5T,e_sl,q1n,Nat.reduceBEq,q0W,beq_self_eq_true,q1d,q6G,q9f,q9c,q10,evLen,q9d,q2L,evBin,intBin,q4S,if_true,z87,z2q,hg,decide_true,q3m,Bool.and_self,q7r,hl0,htm,if_false,hi,q65,hc',q1H,q68,List.any_cons,V.own,V.own1,List.any_nil,Bool.or_false,q1B,view,viewDepth,hv,Option.map_some,q18,q2O,q69,k,mk,q2N,q17,q1c,q2H,q2c,q6I,q4O,q2d,mkBox,V.laid,V.cells,List.length_cons,List.length_nil,Nat.zero_add,Nat.reduceAdd,q1E,q2M,List.append_nil,q2F,q12,q1F,q0X,q9e,evExt,List.getElem?_cons_succ,List.getElem?_cons_zero,q1g,q2P,q1w,q0y,q1z,q0H,List.cons_append,List.nil_append,q1e,q0T,hlk,q38,q14,Nat.le_refl,splice,List.take_zero,List.drop_succ_cons,List.drop_zero,q13,q1y,lose,loseH,Lost.ids,q1v,q1x,addBlks,q15,q0E,Option.some.injEq,Prod.mk.injEq,true_and,q0E]
  exact⟨_,_,rfl,by omega,fun b c k rows hb hl=>(z0S _ _ _ _ _ hb).trans hl⟩
 ·have htm:Int.tmod 0 (l.length:Int)=0:=Int.zero_tmod _
  rw[if_neg hg,Nat.sub_zero]
  have hi:((l.length:Int) - 1 - 0)=((l.length - 1:Nat):Int):=by omega
  obtain⟨k,hv⟩:=key (l.length - 1) (by omega)
  generalize hq:l.length - 1=q at k hv hi ⊢
  have mk:=mk27 nx (q2y (l.take q))
  have hlk:=q5m H nx (LNw nx (q2y (l.take q))) (.mix 2 [[.fs true 2 [],.fs true 3 []]])
  have hc':=fun lo mx=>hcut lo mx q (by omega)
  simp(disch:=first|decide|omega|(simp only[LN];first|done|omega)) only[q19,q0N,q2b,q1f,q3I,q4e,z5T,e_sl,q1n,Nat.reduceBEq,q0W,beq_self_eq_true,q1d,q6G,q9f,q9c,q10,evLen,q9d,q2L,evBin,intBin,q4S,if_true,z87,z2q,hg,decide_false,q3m,Bool.and_false,q7r,Bool.false_eq_true,if_false,hl0,htm,hi,q65,hc',q1H,q68,List.any_cons,V.own,V.own1,List.any_nil,Bool.or_false,q1B,view,viewDepth,hv,Option.map_some,q18,q2O,q69,k,mk,q2N,q17,q1c,q2H,q2c,q6I,q4O,q2d,mkBox,V.laid,V.cells,List.length_cons,List.length_nil,Nat.zero_add,Nat.reduceAdd,q1E,q2M,List.append_nil,q2F,q12,q1F,q0X,q9e,evExt,List.getElem?_cons_succ,List.getElem?_cons_zero,q1g,q2P,q1w,q0y,q1z,q0H,List.cons_append,List.nil_append,q1e,q0T,Bool.and_self,hlk,q38,q14,Nat.le_refl,splice,List.take_zero,List.drop_succ_cons,List.drop_zero,q13,q1y,lose,loseH,Lost.ids,q1v,q1x,addBlks,q15,q0E,Option.some.injEq,Prod.mk.injEq,true_and,q0E]
  exact⟨_,_,rfl,by omega,fun b c k rows hb hl=>(z0S _ _ _ _ _ hb).trans hl⟩
set_option maxHeartbeats 2000000 in
theorem j3E(K:Cx)(l:Bs)(hl:l.length≤1000000000000)(z:Bool)(e1 e2 e3:Int)(m:UInt8)(w:Bs)(H:List (Nat×Blk))(nx:Nat)(mv:List Nat)(h1:look H 1=some (.dat z 1 (l.map eU)))(hnx:1<nx) :
  ∃ H' nx' b mv',exec K z8H ⟨[(20,.d false (.int .i64 e3)),(2,.d false (.int .u8 (m.toNat:Int))),(4,.d false (.sl 1 (w.map eU))),(12,.bsl 1 0 l.length),(15,.d false (.int .i64 e1)),(18,.d false (.int .i64 e2))],H,nx,mv⟩ =
   some (.nrm,⟨[(21,.bsl b 0 l.length),(2,.d false (.int .u8 (m.toNat:Int))),(4,.d false (.sl 1 (w.map eU))),(15,.d false (.int .i64 e1)),(18,.d false (.int .i64 e2)),(20,.d false (.int .i64 e3))],H',nx',mv'⟩)∧nx≤b∧b<nx'∧∃ z',look H' b=some (.dat z' 1 (l.map eU)):=by
 unfold z8H
 have hne:(nx==1)=false:=by simp;omega
 have hn1:¬(1=nx):=by omega
 simp(disch:=first|decide|omega|(simp only[LN];first|done|omega)) only[SX,SW,mkBlk,Nat.reduceBEq,hne,h1,q5L,lose,V.forget,V.drop1,V.ref0,true_and]
 exact⟨_,_,nx,_,rfl,Nat.le_refl _,by omega,true,q1k (by simp [look]) rfl⟩
set_option maxHeartbeats 2000000 in
theorem j3D(K:Cx)(l w:Bs)(hl:l.length≤1000000000)(hw:w.length≤1000000000)(z:Bool)(e1 e2 e3:Int)(m:UInt8)(H:List (Nat×Blk))(nx b:Nat)(mv:List Nat)(h1:look H b=some (.dat z 1 (l.map eU)))(hb:b<nx) :
  ∃ H' nx' b' mv' z',exec K z8G ⟨[(21,.bsl b 0 l.length),(2,.d false (.int .u8 (m.toNat:Int))),(4,.d false (.sl 1 (w.map eU))),(15,.d false (.int .i64 e1)),(18,.d false (.int .i64 e2)),(20,.d false (.int .i64 e3))],H,nx,mv⟩ =
   some (.nrm,⟨[(21,.bsl b' 0 (l++w).length),(2,.d false (.int .u8 (m.toNat:Int))),(4,.d false (.sl 1 (w.map eU))),(15,.d false (.int .i64 e1)),(18,.d false (.int .i64 e2)),(20,.d false (.int .i64 e3))],H',nx',mv'⟩)∧look H' b'=some (.dat z' 1 ((l++w).map eU)):=by
 unfold z8G
 simp(disch:=first|decide|omega|(simp only[LN];first|done|omega)) only[SX,SW,Nat.reduceBEq,q5L,h1,lose,V.forget,V.drop1,V.ref0,true_and]
 exact⟨_,_,b,_,z,rfl,q1k (by rw[q0G,List.map_append]) rfl⟩
set_option maxHeartbeats 2000000 in
theorem j3C(K:Cx)(h:LawS K)(s:Bs)(hl:s.length≤1000000000000)(z:Bool)(e1 e2 e3:Int)(m:UInt8)(w:Bs)(H:List (Nat×Blk))(nx b:Nat)(mv:List Nat)(h1:look H b=some (.dat z 1 (s.map eU))) :
  ∃ H' nx',exec K z8F ⟨[(21,.bsl b 0 s.length),(2,.d false (.int .u8 (m.toNat:Int))),(4,.d false (.sl 1 (w.map eU))),(15,.d false (.int .i64 e1)),(18,.d false (.int .i64 e2)),(20,.d false (.int .i64 e3))],H,nx,mv⟩ =
   some (.nrm,⟨[(23,.d false (.int .i64 (q2y s).2)),(2,.d false (.int .u8 (m.toNat:Int))),(4,.d false (.sl 1 (w.map eU))),(15,.d false (.int .i64 e1)),(18,.d false (.int .i64 e2)),(20,.d false (.int .i64 e3)),(21,.bsl b 0 s.length)],H',nx',mv⟩):=by
 have k:=h.k27 s hl
 have mk:=mk27 nx (q2y s)
 have hv:=q8m (n:=s.length) h1 (Nat.le_refl _)
 rw[List.take_length] at hv
 have hlk:=q5m H nx (LNw nx (q2y s)) (.mix 2 [[.fs true 2 [],.fs true 3 []]])
 unfold z8F
 clear h
 simp(disch:=first|decide|omega|(simp only[LN];first|done|omega)) only[q19,q0N,q2b,q1f,q3I,q4e,e_sl,q1n,beq_self_eq_true,q1d,q6G,q2L,q1H,q10,q68,List.any_cons,V.own,V.own1,List.any_nil,Bool.or_false,q1B,view,viewDepth,hv,Option.map_some,q18,q2O,q69,k,mk,q2N,q17,Nat.reduceBEq,q1c,q2H,q2c,q6I,q4O,q2d,mkBox,V.laid,V.cells,List.length_cons,List.length_nil,Nat.zero_add,Nat.reduceAdd,if_true,q1E,q2M,List.append_nil,q2F,q12,q1F,q0X,q9e,q0W,evExt,List.getElem?_cons_succ,List.getElem?_cons_zero,q1g,q2P,q1w,q0y,q1z,q0H,List.cons_append,List.nil_append,q1e,q0T,Bool.and_self,hlk,q38,q14,Nat.le_refl,splice,List.take_zero,List.drop_succ_cons,List.drop_zero,q13,q1y,lose,loseH,Lost.ids,q1v,q1x,addBlks,q15,q0E,Option.some.injEq,Prod.mk.injEq,true_and,q0E]
 exact⟨_,_,rfl⟩
set_option maxHeartbeats 2000000 in
theorem j3B(K:Cx)(n:Nat)(e1 e2 e3 e4:Int)(m:UInt8)(w:Bs)(H:List (Nat×Blk))(nx b:Nat)(mv:List Nat)(h1:e1=0)(h2:m≠0→e2=171)(h3:e3=171)(h4:w=[]∨e4=171∨(e4=2∧8388608<n)) :
  ∃ s:S,exec K z8E ⟨[(23,.d false (.int .i64 e4)),(2,.d false (.int .u8 (m.toNat:Int))),(4,.d false (.sl 1 (w.map eU))),(15,.d false (.int .i64 e1)),(18,.d false (.int .i64 e2)),(20,.d false (.int .i64 e3)),(21,.bsl b 0 n)],H,nx,mv⟩=some (.ret,s)∧ev K s (.sl 10)=some (.d false (.bool true)):=by
 subst h1 h3
 unfold z8E
 have key:((w.length:Int)==0||e4==171||e4==2&&decide (8388608<(n:Int)))=true:=by
  rcases h4 with rfl|rfl|⟨rfl,h⟩
  ·rfl
  ·simp
  ·simp;omega
 by_cases hm:(m.toNat:Int)=0
 ·simp(disch:=first|decide|omega|(simp only[LN];first|done|omega)) only[SV,SW,hm,Nat.reduceBEq,true_and]
  exact⟨_,rfl,by rw[key];rfl⟩
 ·have h2:e2=171:=h2 (by rintro rfl;exact hm rfl)
  subst h2
  simp(disch:=first|decide|omega|(simp only[LN];first|done|omega)) only[SV,SW,Nat.reduceBEq,true_and]
  exact⟨_,rfl,by rw[key];rfl⟩
theorem j3g{t:Table}(h:(q4y t).2=0):q1P t=0∧(q0t t).length≤8388608∧q4y t=(q0t t,0):=by
 unfold q4y at h ⊢
 split at h
 ·rename_i hc
  rw[if_pos hc]
  split at h
  ·simp at h
  ·rename_i hl
   rw[if_neg hl]
   exact⟨hc,by omega,rfl⟩
 ·rename_i hc
  exact absurd h hc
set_option maxHeartbeats 2000000 in
theorem sp_no(K:Cx)(h:LawS K)(t:Table)(hto:TabOk t)(hs:t.shapes.length≤1048576)(at_ ct:Int)(m:UInt8)(w:Bs)(hz:(q4y t).2≠0) :
  ∃ s,exec K f9.body (startS [.agg (tabV t),.d false (.int .i64 at_),.d false (.int .u8 (m.toNat:Int)),.d false (.int .i64 ct),.d false (.sl 1 (w.map eU))] [])=some (.ret,s)∧ev K s (.sl 10)=some (.d false (.bool true)):=by
 have k24:=h.k24 t hto hs
 have k11:=h.k11
 unfold rBy at k24
 rw[if_neg hz] at k24
 have hz':((q4y t).2==0)=false:=by simpa using hz
 clear h
 simp only[tabV]
 simp(disch:=first|decide|omega|(simp only[LN];first|done|omega)) only[SV,SW,f9,z8I,z8D,z8C,z8B,Nat.reduceAdd,Nat.reduceBEq,k11,q0b,k24,V.new2,V.newR,V.shift,evUn,true_and]
 exact⟨_,rfl,rfl⟩
def s4T(t:Table)(at_ ct:Int)(m:UInt8)(w:Bs):S:=⟨[(40,.bool false),(1,.d false (.int .i64 at_)),(2,.d false (.int .u8 (m.toNat:Int))),(3,.d false (.int .i64 ct)),(4,.d false (.sl 1 (w.map eU))),(11,.bool true),(12,.bsl 1 0 (q0t t).length)],[(1,.dat true 1 ((q0t t).map eU)),(0,.mix 2 [tabV t])],2,[]⟩
set_option maxHeartbeats 2000000 in
theorem j3A(K:Cx)(h:LawS K)(t:Table)(hto:TabOk t)(hs:t.shapes.length≤1048576)(at_ ct:Int)(m:UInt8)(w:Bs)(hz:q4y t=(q0t t,0))(C':C) :
  exec K (.seq z8I (.seq z8D (.seq z8C (.seq z8B C')))) (startS [.agg (tabV t),.d false (.int .i64 at_),.d false (.int .u8 (m.toNat:Int)),.d false (.int .i64 ct),.d false (.sl 1 (w.map eU))] [])=exec K C' (s4T t at_ ct m w):=by
 have k24:=h.k24 t hto hs
 have k11:=h.k11
 unfold rBy at k24
 rw[hz,if_pos rfl] at k24
 have hp:0<(q0t t).length:=by rw[q3f];omega
 clear h
 unfold s4T
 simp only[tabV] at k24 ⊢
 simp(disch:=first|decide|omega|(simp only[LN];first|done|omega)) only[SV,SW,z8I,z8D,z8C,z8B,Nat.reduceAdd,Nat.reduceBEq,k11,q0b,k24,V.new2,V.newR,V.shift,evUn]
theorem z1s{K:Cx}{a b:C}{s s':S}(h:exec K a s=some (.nrm,s')):exec K (.seq a b) s=exec K b s':=by
 rw[q2w,h];rfl
set_option maxHeartbeats 2000000 in
theorem j3z(K:Cx)(h:LawS K)(t:Table)(hto:TabOk t)(hs:t.shapes.length≤1048576)(at_ ct:Int)(ha:at_≤9223372036854775807)(hct:ct≤9223372036854775807)(m:UInt8)(w:Bs)(hw:w.length≤1000000000)(hz:(q4y t).2=0) :
  ∃ s,exec K f9.body (startS [.agg (tabV t),.d false (.int .i64 at_),.d false (.int .u8 (m.toNat:Int)),.d false (.int .i64 ct),.d false (.sl 1 (w.map eU))] [])=some (.ret,s)∧ev K s (.sl 10)=some (.d false (.bool true)):=by
 obtain⟨hc,hl,hb⟩:=j3g hz
 have hr:=rt_ok hc hs hto.wd
 have h4:=q3f t
 have h5:=z0T t
 show ∃ s,exec K (.seq z8I (.seq z8D (.seq z8C (.seq z8B _)))) _=_∧_
 rw[j3A K h t hto hs at_ ct m w hb]
 have b1:look [(1,Blk.dat true 1 ((q0t t).map eU)),(0,.mix 2 [tabV t])] 1=some (.dat true 1 ((q0t t).map eU)):=rfl
 unfold s4T
 generalize hd:q0t t=l at *
 obtain⟨H5,n5,e5,p5,q5⟩:=sp_R5 K h l (by omega) true at_ ct m w _ 2 b1
 rw[z1s e5]
 have b5:=q5 1 _ _ _ (by omega) b1
 obtain⟨H6,n6,b,mv6,e6,⟨p6,q6⟩,r6,r6',z6,c6⟩:=sp_R6 K l (by omega) true at_ ct _ m w H5 n5 b5 (by omega)
 rw[z1s e6]
 have b6:=q6 1 _ _ _ (by omega) b5
 obtain⟨mv7,e7⟩:=sp_R7 K l (by omega) (by omega) z6 at_ ct _ ha m w H6 n6 b mv6 c6
 rw[z1s e7]
 have b7:look (put H6 b (.dat z6 1 ((l.set (ix9 at_ l.length) (nth l (ix9 at_ l.length:Int) ^^^ m)).map eU))) 1=some (.dat true 1 (l.map eU)):=by
  rw[q0c _ _ (by omega)];exact b6
 have hset:l.length=(l.set (ix9 at_ l.length) (nth l (ix9 at_ l.length:Int) ^^^ m)).length:=by rw[List.length_set]
 obtain⟨H8,n8,e8,p8,q8⟩:=sp_R8 K h l (l.set (ix9 at_ l.length) (nth l (ix9 at_ l.length:Int) ^^^ m)) l.length b hset (by omega) z6 ct _ m w _ n6 mv7 (q0G _ _ _)
 rw[z1s e8]
 have b8:=q8 1 _ _ _ (by omega) b7
 obtain⟨H9,n9',e9,p9,q9⟩:=sp_R9 K h l (by omega) (by omega) true ct _ _ hct m w H8 n8 mv7 b8
 rw[z1s e9]
 have b9:=q9 1 _ _ _ (by omega) b8
 obtain⟨H10,n10,b',mv10,e10,r10,r10',z10,c10⟩:=j3E K l (by omega) true _ _ _ m w H9 n9' mv7 b9 (by omega)
 rw[z1s e10]
 obtain⟨H11,n11,b'',mv11,z11,e11,c11⟩:=j3D K l w (by omega) hw z10 _ _ _ m H10 n10 b' mv10 c10 r10'
 rw[z1s e11]
 obtain⟨H12,n12,e12⟩:=j3C K h (l++w) (by rw[List.length_append];omega) z11 _ _ _ m w H11 n11 b'' mv11 c11
 rw[z1s e12]
 have hix:∀ a:Int,ix9 a l.length<l.length:=fun a=>by
  unfold ix9
  split
  ·exact Nat.mod_lt _ (by omega)
  ·omega
 refine j3B K _ _ _ _ _ m w H12 n12 b'' mv11 ?_ (fun hm=>?_) ?_ ?_
 ·rw[←hd,z5w hc hr (by rw[hd];omega)]
 ·have hy:l[ix9 at_ l.length]?≠some (nth l (ix9 at_ l.length:Int) ^^^ m):=by
   rw[q4b (hix at_)]
   intro e
   have e:=congrArg UInt8.toNat (Option.some.inj e)
   rw[UInt8.toNat_xor] at e
   refine hm (UInt8.toNat_inj.1 ?_)
   have:(nth l (ix9 at_ l.length:Int)).toNat ^^^ ((nth l (ix9 at_ l.length:Int)).toNat ^^^ m.toNat)=0:=by rw[←e];exact Nat.xor_self _
   rw[←Nat.xor_assoc,Nat.xor_self,Nat.zero_xor] at this
   exact this
  have:=z54 t (ix9 at_ l.length) (nth l (ix9 at_ l.length:Int) ^^^ m) (by rw[hd];exact hix at_) (by rw[hd];exact hy)
  rw[hd] at this
  rw[z0A (by rw[List.length_set];omega) this]
 ·have:=j0t hr (by rw[hd];omega) (l.length - 1 - ix9 ct l.length) (by rw[hd];omega)
  rwa [hd] at this
 ·by_cases hw0:w=[]
  ·exact .inl hw0
  ·by_cases hbig:8388608<(l++w).length
   ·exact .inr (.inr ⟨by rw[q9Y hbig],hbig⟩)
   ·have:=z7Y hr w hw0 (by rw[hd];omega)
    rw[hd] at this
    exact .inr (.inl this)
theorem z8P(K:Cx)(h:LawS K)(t:Table)(hto:TabOk t)(hs:t.shapes.length≤1048576)(at_ ct:Int)(ha:at_≤9223372036854775807)(hct:ct≤9223372036854775807)(m:UInt8)(w:Bs)(hw:w.length≤1000000000) :
  q0U K f9 [.agg (tabV t),.d false (.int .i64 at_),.d false (.int .u8 (m.toNat:Int)),.d false (.int .i64 ct),.d false (.sl 1 (w.map eU))] []=some (.d false (.bool true),[],[]):=by
 have fin:∀ s,exec K f9.body (startS [.agg (tabV t),.d false (.int .i64 at_),.d false (.int .u8 (m.toNat:Int)),.d false (.int .i64 ct),.d false (.sl 1 (w.map eU))] [])=some (.ret,s)→ev K s (.sl 10)=some (.d false (.bool true))→
   q0U K f9 [.agg (tabV t),.d false (.int .i64 at_),.d false (.int .u8 (m.toNat:Int)),.d false (.int .i64 ct),.d false (.sl 1 (w.map eU))] []=some (.d false (.bool true),[],[]):=by
  intro s e1 e2
  unfold q0U
  rw[e1]
  have:f9.res=[.sl 10]:=rfl
  simp only[this,mapO,e2]
  rfl
 by_cases hz:(q4y t).2=0
 ·obtain⟨s,e1,e2⟩:=j3z K h t hto hs at_ ct ha hct m w hw hz
  exact fin s e1 e2
 ·obtain⟨s,e1,e2⟩:=sp_no K h t hto hs at_ ct m w hz
  exact fin s e1 e2
end Go.Vm
end

section
namespace Go.Vm
set_option maxRecDepth 20000
open Go.Proofs
theorem z9a{a:Nat}{q:Nat×Glob}(h:q.1≠a):(rowG q).map (V.drop1 (·== a))=rowG q:=by
 simp [rowG,V.drop1,h]
theorem z2r{a:Nat}:∀(gs:List Glob)(p:Nat),p+gs.length≤a→((numG p gs).map rowG).map (List.map (V.drop1 (·== a)))=(numG p gs).map rowG
 |[],_,_=>rfl
 |g :: r,p,h=>by
  simp only[List.length_cons] at h
  simp only[numG,List.map_cons]
  rw[z9a (by simp only;omega),z2r r (p+1) (by omega)]
theorem TB.forget{H:List (Nat×Blk)}{p a:Nat}{z:Bool}{t:Table}(h:TB H p z t)(ha:p+2+t.globals.length≤a):TB (forgetH (·== a) H) p z t:=by
 refine⟨q47 h.s,?_,fun j hj=>q47 (h.c j hj)⟩
 rw[q1J,h.g]
 unfold gB
 split
 ·rfl
 ·simp only[Option.map_some,Blk.forget,List.map_append,z2r t.globals (p+2) ha]
  rfl
end Go.Vm
end

section
namespace Go.Vm
set_option maxRecDepth 20000
open Go.Proofs
end Go.Vm
end

section
namespace Go.Vm
set_option maxRecDepth 20000
open Go.Proofs
end Go.Vm
end

section
namespace Go.Vm
set_option maxRecDepth 100000
open Go.RowKit Go.Shelf Go.Proofs
def s0L (c:Bool):S:=st (execC 400 (K8 30) f27D.c0 (startS [.d c (.sl 1 q6N)] []))
def s1L (c:Bool):S:=st (execC 400 (K8 30) f27D.ca (s0L c))
theorem j3G:DfrRun (K8 30) f27D [.d false (.sl 1 q6N)] idT []:=z9b (N:=400) (s0:=s0L false) (s1:=s1L false) (by kernel_rfl) (by kernel_rfl) (by kernel_rfl) (fun ds=>by kernel_rfl)
theorem j3F:DfrRun (K8 30) f27D [.d true (.sl 1 q6N)] idT []:=z9b (N:=400) (s0:=s0L true) (s1:=s1L true) (by kernel_rfl) (by kernel_rfl) (by kernel_rfl) (fun ds=>by kernel_rfl)
def f24n:Fun:=⟨f24.body,f24.res,false⟩
theorem j2O:q1s Go.Proofs.Tryz.prog 24 0 1 f24n=true:=j4I
def f11n:Fun:=⟨
 (.seq
  (.reg [⟨[],[],[(.bool false)],none,[],1,[],[],[]⟩])
  (.seq
   (.reg [⟨[],[(1,(.str [115,104,97,112,101,32,34,70,97,108,115,101,34,32,48,10,115,104,97,112,101,32,34,84,114,117,101,34,32,48,10,115,104,97,112,101,32,34,85,110,105,116,34,32,48,10,115,104,97,112,101,32,34,78,105,108,34,32,48,10,115,104,97,112,101,32,34,67,111,110,115,34,32,50,10,115,104,97,112,101,32,34,80,97,105,114,34,32,50,10,115,104,97,112,101,32,34,84,114,105,112,108,101,34,32,51,10,103,108,111,98,97,108,32,34,105,100,34,32,49,10,32,32,112,117,115,104,32,48,10,32,32,117,112,100,97,116,101,32,50,10,32,32,112,111,112,32,49,10,32,32,117,110,119,105,110,100,10]))],[],none,[],1,[],[],[]⟩])
   (.seq
    (.reg [⟨[],[(2,(.call 13 (.cons (.call 33 .nil) .nil)))],[],none,[1],3,[],[],[]⟩])
    (.seq
     (.reg [⟨[],[(3,(.ext 0 (.call 19 (.cons (.call 33 .nil) .nil)))),(4,(.ext 1 (.call 19 (.cons (.call 33 .nil) .nil))))],[],none,[1,2],7,[],[],[]⟩])
     (.seq
      (.reg [⟨[(5,.box (.agg (.cons (.nilsl 2) (.cons (.nilsl 3) .nil))))],[(24,(.ext 1 (.call 21 (.cons (.sl 1) .nil))))],[],some (none,.store 2 (.sl 5) (.ext 0 (.call 21 (.cons (.sl 1) .nil)))),[1,2,3,4,5],7,[],[],[]⟩,⟨[],[(6,(.sl 24))],[],none,[1,2,3,4,5],1,[],[],[]⟩])
      (.seq
       (.reg [⟨[],[(7,(.ext 0 (.call 24 (.cons (.call 33 .nil) .nil)))),(8,(.ext 1 (.call 24 (.cons (.call 33 .nil) .nil))))],[],none,[1,2,3,4,5,6],7,[],[],[]⟩])
       (.seq
        (.reg [⟨[(9,.box (.agg (.cons (.nilsl 2) (.cons (.nilsl 3) .nil))))],[(34,(.ext 1 (.call 27 (.cons (.sl 7) .nil))))],[],some (none,.store 2 (.sl 9) (.ext 0 (.call 27 (.cons (.sl 7) .nil)))),[1,2,3,4,5,6,7,8,9],7,[],[],[]⟩,⟨[],[(10,(.sl 34))],[],none,[1,2,3,4,5,6,7,8,9],1,[],[],[]⟩])
        (.seq
         (.reg [⟨[],[(11,(.call 15 (.cons (.ld 2 true (.sl 5)) (.cons (.call 33 .nil) .nil))))],[],none,[1,2,3,4,6,7,8,9,10],4,[[],[],[1,0],[0,1,2]],[],[]⟩])
         (.seq
          (.reg [⟨[],[(12,(.call 15 (.cons (.ld 2 true (.sl 9)) (.cons (.call 33 .nil) .nil))))],[],none,[1,2,3,4,6,7,8,10,11],4,[[],[],[1,0],[0,1,2]],[],[]⟩])
          (.seq
           (.reg [⟨[],[(0,(.and (.and (.and (.and (.and (.and (.and (.and (.bin .eql (.sl 2) (.int .i64 0)) (.bin .eql (.sl 4) (.int .i64 0))) (.bin .eql (.sl 3) (.sl 1))) (.bin .eql (.sl 6) (.int .i64 0))) (.bin .eql (.sl 8) (.int .i64 0))) (.bin .gtr (.len false (.sl 7)) (.int .i64 20))) (.bin .eql (.sl 10) (.int .i64 0))) (.sl 11)) (.sl 12)))],[],none,[],35,[],[],[]⟩])
           (.seq
            (.tidy 0 [0])
            .ret))))))))))),
 [(.sl 0)],false⟩
theorem j2R:q1s Go.Proofs.Tryz.prog 11 0 0 f11n=true:=by kernel_rfl
def j1A:FuncId→List V→Option (V×List Blk)
  | 21,[.d false (.str l)]=>if l=j1W then some (idT,[]) else none
  | 27,[.d c (.sl 1 rows)]=>if q9C rows q6N then some (idT,[]) else none
  | 24,[v]=>match q63 400 (K8 30) f24n [v] [] with
    | some (r,news,_)=>some (r,news)
    | none=>none
  | f,vs=>(K8 30).call f vs
def KA8:Cx:=⟨j1A,(K8 30).eff,GT,fun _=>false,[],fun _ _ _=>none⟩
theorem q7y (n:Nat):(K8 n).glob=GT:=q78 KS8 400 T8 n
theorem z9r:KA8.Sound Tryz.prog:=by
  refine ⟨fun f args r news h=>?_,fun f args r news h=>(by cases h),fun f args blks r blks' mv h=>?_,fun f args blks v h=>(by cases h)⟩
  · simp only [KA8] at h ⊢
    unfold j1A at h
    split at h
    · split at h
      · rename_i l hl
        subst hl
        simp only [Option.some.injEq,Prod.mk.injEq] at h
        obtain ⟨rfl,rfl⟩:=h
        have:=q9h q1A (q5F 30) j2P j2e run21 (z4E 30)
        rw [q7y] at this
        exact this
      · cases h
    · split at h
      · rename_i c rows hl
        obtain rfl:=q77 hl
        simp only [Option.some.injEq,Prod.mk.injEq] at h
        obtain ⟨rfl,rfl⟩:=h
        cases c with
        | false=>
          have:=q9h q1A (q5F 30) z8K z26 j3G (z4E 30)
          rw [q7y] at this
          exact this
        | true=>
          have:=q9h q1A (q5F 30) z8K z26 j3F (z4E 30)
          rw [q7y] at this
          exact this
      · cases h
    · split at h
      · rename_i v r' news' mv hr
        simp only [Option.some.injEq,Prod.mk.injEq] at h
        obtain ⟨rfl,rfl⟩:=h
        have:=q4q q1A (q5F 30) j2O (q5v hr) (z4E 30)
        rw [q7y] at this
        exact this
      · cases h
    · have:=(q5F 30).pure _ _ _ _ h
      rw [q7y] at this
      exact this
  · have:=(q5F 30).eff f args blks r blks' mv h
    rw [q7y] at this
    exact this
theorem z9l:q63 400 KA8 f11n [] []=some (.bool true,[],[]):=by kernel_rfl
theorem j48:q0p Tryz.prog 11=true∧q2o Tryz.prog GT 11 [] (.bool true) []:=q4q q1A z9r j2R (q5v z9l)
end Go.Vm
end

section
namespace Go.Vm
theorem z8Q(K:Cx)(t:Table)(g:Glob)(at_ n kind:Int)(hk:0≤kind∧kind≤8) :
  q0U K f80 [.agg [.d false (.sl 2 (t.shapes.map q0k)),.d false (.sl 3 (t.globals.map q00))],.agg [.d false (.str g.name),.d false (.int .i64 g.arity),.d false (.sl 3 (g.code.map q0J))],.d false (.int .i64 at_),.d false (.int .i64 n),.d false (.int .i64 kind)] []
  = some (.d false (.int .i64 (q1U t.globals.length t.shapes.length g.code.length at_ n kind)),[],[]):=by
 have:kind=0∨kind=1∨kind=2∨kind=3∨kind=4∨kind=5∨kind=6∨kind=7∨kind=8:=by omega
 unfold q1U
 rcases this with rfl|rfl|rfl|rfl|rfl|rfl|rfl|rfl|rfl
 ·by_cases h:n=0
  ·simp(disch:=first|decide|omega|(simp only[LN];first|done|omega)) only[SV,SW,f80,Int.reduceNeg,h,Nat.reduceAdd,Nat.reduceBEq,evUn,q0d,Int.reduceEq,true_and]
  ·simp(disch:=first|decide|omega|(simp only[LN];first|done|omega)) only[SV,SW,f80,Int.reduceNeg,Nat.reduceAdd,Nat.reduceBEq,evUn,q0d,Int.reduceEq,h]
 ·by_cases h:0≤n
  ·simp(disch:=first|decide|omega|(simp only[LN];first|done|omega)) only[SV,SW,f80,Int.reduceNeg,Nat.reduceAdd,Nat.reduceBEq,evUn,q0d,Int.reduceEq,true_and]
  ·simp(disch:=first|decide|omega|(simp only[LN];first|done|omega)) only[SV,SW,f80,Int.reduceNeg,Nat.reduceAdd,Nat.reduceBEq,evUn,q0d,Int.reduceEq]
 ·by_cases h:1≤n
  ·simp(disch:=first|decide|omega|(simp only[LN];first|done|omega)) only[SV,SW,f80,Int.reduceNeg,Nat.reduceAdd,Nat.reduceBEq,evUn,q0d,Int.reduceEq,true_and]
  ·simp(disch:=first|decide|omega|(simp only[LN];first|done|omega)) only[SV,SW,f80,Int.reduceNeg,Nat.reduceAdd,Nat.reduceBEq,evUn,q0d,Int.reduceEq]
 ·by_cases h : -4611686018427387904≤n
  ·by_cases h2:n≤4611686018427387903
   ·simp(disch:=first|decide|omega|(simp only[LN];first|done|omega)) only[SV,SW,f80,Int.reduceNeg,Nat.reduceAdd,Nat.reduceBEq,evUn,q0d,Int.reduceEq]
   ·simp(disch:=first|decide|omega|(simp only[LN];first|done|omega)) only[SV,SW,f80,Int.reduceNeg,Nat.reduceAdd,Nat.reduceBEq,evUn,q0d,Int.reduceEq,and_false,true_and]
  ·simp(disch:=first|decide|omega|(simp only[LN];first|done|omega)) only[SV,SW,f80,Int.reduceNeg,Nat.reduceAdd,Nat.reduceBEq,evUn,q0d,Int.reduceEq]
 ·by_cases h:0≤n
  ·by_cases h2:n<t.globals.length
   ·simp(disch:=first|decide|omega|(simp only[LN];first|done|omega)) only[SV,SW,f80,Int.reduceNeg,Nat.reduceAdd,Nat.reduceBEq,evUn,q0d,Int.reduceEq,true_and]
   ·simp(disch:=first|decide|omega|(simp only[LN];first|done|omega)) only[SV,SW,f80,Int.reduceNeg,Nat.reduceAdd,Nat.reduceBEq,evUn,q0d,Int.reduceEq,true_and,and_false]
  ·simp(disch:=first|decide|omega|(simp only[LN];first|done|omega)) only[SV,SW,f80,Int.reduceNeg,Nat.reduceAdd,Nat.reduceBEq,evUn,q0d,Int.reduceEq]
 ·by_cases h:0≤n
  ·by_cases h2:n<t.shapes.length
   ·simp(disch:=first|decide|omega|(simp only[LN];first|done|omega)) only[SV,SW,f80,Int.reduceNeg,Nat.reduceAdd,Nat.reduceBEq,evUn,q0d,Int.reduceEq,true_and]
   ·simp(disch:=first|decide|omega|(simp only[LN];first|done|omega)) only[SV,SW,f80,Int.reduceNeg,Nat.reduceAdd,Nat.reduceBEq,evUn,q0d,Int.reduceEq,true_and,and_false]
  ·simp(disch:=first|decide|omega|(simp only[LN];first|done|omega)) only[SV,SW,f80,Int.reduceNeg,Nat.reduceAdd,Nat.reduceBEq,evUn,q0d,Int.reduceEq]
 ·by_cases h:1≤n
  ·by_cases h2:n≤11
   ·simp(disch:=first|decide|omega|(simp only[LN];first|done|omega)) only[SV,SW,f80,Int.reduceNeg,Nat.reduceAdd,Nat.reduceBEq,evUn,q0d,Int.reduceEq,true_and]
   ·simp(disch:=first|decide|omega|(simp only[LN];first|done|omega)) only[SV,SW,f80,Int.reduceNeg,Nat.reduceAdd,Nat.reduceBEq,evUn,q0d,Int.reduceEq,true_and,and_false]
  ·simp(disch:=first|decide|omega|(simp only[LN];first|done|omega)) only[SV,SW,f80,Int.reduceNeg,Nat.reduceAdd,Nat.reduceBEq,evUn,q0d,Int.reduceEq]
 ·by_cases h:1≤n
  ·by_cases h2:n≤4
   ·simp(disch:=first|decide|omega|(simp only[LN];first|done|omega)) only[SV,SW,f80,Int.reduceNeg,Nat.reduceAdd,Nat.reduceBEq,evUn,q0d,Int.reduceEq,true_and]
   ·simp(disch:=first|decide|omega|(simp only[LN];first|done|omega)) only[SV,SW,f80,Int.reduceNeg,Nat.reduceAdd,Nat.reduceBEq,evUn,q0d,Int.reduceEq,true_and,and_false]
  ·simp(disch:=first|decide|omega|(simp only[LN];first|done|omega)) only[SV,SW,f80,Int.reduceNeg,Nat.reduceAdd,Nat.reduceBEq,evUn,q0d,Int.reduceEq]
 ·by_cases h:n≤at_
  ·simp(disch:=first|decide|omega|(simp only[LN];first|done|omega)) only[SV,SW,f80,Int.reduceNeg,Nat.reduceAdd,Nat.reduceBEq,q0d,Int.reduceEq]
  ·by_cases h2:(g.code.length:Int)≤n
   ·simp(disch:=first|decide|omega|(simp only[LN];first|done|omega)) only[SV,SW,f80,Int.reduceNeg,Nat.reduceAdd,Nat.reduceBEq,q0d,Int.reduceEq,true_and]
   ·simp(disch:=first|decide|omega|(simp only[LN];first|done|omega)) only[SV,SW,f80,Int.reduceNeg,Nat.reduceAdd,Nat.reduceBEq,evUn,q0d,Int.reduceEq]
theorem j0K(K:Cx)(c:Bool)(Dp:List Int)(at_ d:Int)(h:0≤at_∧at_<Dp.length)(n:Nat)(hn:n=Dp.length) :
  q0U K f82 [.bsl 0 0 n,.d false (.int .i64 at_),.d false (.int .i64 d)] [.dat c 1 (Dp.map eInt)]=some (.d false (.bool (q4i Dp at_ d)),[.dat c 1 ((q2G Dp at_ d).map eInt)],[]):=by
 subst hn
 obtain⟨h0,h1⟩:=h
 unfold q4i q2G
 have hs:=z1K Dp at_ d h0 h1
 by_cases g:nth Dp at_=0
 ·rw[if_pos g,if_pos g]
  simp(disch:=first|decide|omega|(simp only[LN];first|done|omega)) only[SV,SW,f82,Nat.reduceAdd,Nat.reduceBEq,g,q11,j0H,lose,hs,q0C,q0d]
 ·rw[if_neg g,if_neg g]
  simp(disch:=first|decide|omega|(simp only[LN];first|done|omega)) only[SV,SW,f82,Nat.reduceAdd,Nat.reduceBEq,q11,q0C,q0d]
set_option maxHeartbeats 8000000 in
theorem z5M(K:Cx)(t:Table)(x:Instr)(d:Int)(hd:1≤d∧d≤8000)(ha:0≤x.a∧x.a≤9223372036854775807∨(x.op≠1∧x.op≠4∧x.op≠5∧x.op≠7∧x.op≠8))(hs:x.op=9∨x.op=10→0≤x.a∧x.a<t.shapes.length∧0≤(nth t.shapes x.a).fields∧(nth t.shapes x.a).fields≤8) :
  q0U K f81 [.agg [.d false (.sl 2 (t.shapes.map q0k)),.d false (.sl 3 (t.globals.map q00))],.agg [.d false (.int .i64 x.op),.d false (.int .i64 x.a),.d false (.int .i64 x.b)],.d false (.int .i64 d)] []
  = some (.tup [.d false (.int .i64 (q06 t.shapes x d).1),.d false (.bool (q06 t.shapes x d).2)],[],[]):=by
 obtain⟨op,a,b⟩:=x
 simp only at ha hs ⊢
 obtain⟨d1,d2⟩:=hd
 unfold q06
 simp only
 by_cases g1:op=1
 ·subst g1
  have⟨a1,a2⟩:0≤a∧a≤9223372036854775807:=by omega
  clear hs ha
  by_cases k:a<d
  ·simp(disch:=first|decide|omega|(simp only[LN];first|done|omega)) only[SV,SW,f81,Nat.reduceAdd,Nat.reduceBEq,q0d,Int.reduceEq]
  ·simp(disch:=first|decide|omega|(simp only[LN];first|done|omega)) only[SV,SW,f81,Nat.reduceAdd,Nat.reduceBEq,q0d,Int.reduceEq]
 by_cases g2:op=2
 ·subst g2
  simp(disch:=first|decide|omega|(simp only[LN];first|done|omega)) only[SV,SW,f81,Nat.reduceAdd,Nat.reduceBEq,q0d,Int.reduceEq]
 by_cases g3:op=3
 ·subst g3
  simp(disch:=first|decide|omega|(simp only[LN];first|done|omega)) only[SV,SW,f81,Nat.reduceAdd,Nat.reduceBEq,q0d,Int.reduceEq]
 by_cases g4:op=4
 ·subst g4
  have⟨a1,a2⟩:0≤a∧a≤9223372036854775807:=by omega
  clear hs ha
  by_cases k:a<d
  ·simp(disch:=first|decide|omega|(simp only[LN];first|done|omega)) only[SV,SW,f81,Nat.reduceAdd,Nat.reduceBEq,q0d,Int.reduceEq]
  ·simp(disch:=first|decide|omega|(simp only[LN];first|done|omega)) only[SV,SW,f81,Nat.reduceAdd,Nat.reduceBEq,q0d,Int.reduceEq]
 by_cases g5:op=5
 ·subst g5
  have⟨a1,a2⟩:0≤a∧a≤9223372036854775807:=by omega
  clear hs ha
  by_cases k:a<d - 1
  ·simp(disch:=first|decide|omega|(simp only[LN];first|done|omega)) only[SV,SW,f81,Nat.reduceAdd,Nat.reduceBEq,q0d,Int.reduceEq]
  ·simp(disch:=first|decide|omega|(simp only[LN];first|done|omega)) only[SV,SW,f81,Nat.reduceAdd,Nat.reduceBEq,q0d,Int.reduceEq]
 by_cases g6:op=6
 ·subst g6
  by_cases k:2<d
  ·simp(disch:=first|decide|omega|(simp only[LN];first|done|omega)) only[SV,SW,f81,Nat.reduceAdd,Nat.reduceBEq,q0d,Int.reduceEq]
  ·simp(disch:=first|decide|omega|(simp only[LN];first|done|omega)) only[SV,SW,f81,Nat.reduceAdd,Nat.reduceBEq,q0d,Int.reduceEq]
 by_cases g12:op=12
 ·subst g12
  by_cases k:2<d
  ·simp(disch:=first|decide|omega|(simp only[LN];first|done|omega)) only[SV,SW,f81,Nat.reduceAdd,Nat.reduceBEq,q0d,Int.reduceEq]
  ·simp(disch:=first|decide|omega|(simp only[LN];first|done|omega)) only[SV,SW,f81,Nat.reduceAdd,Nat.reduceBEq,q0d,Int.reduceEq]
 by_cases g7:op=7
 ·subst g7
  have⟨a1,a2⟩:0≤a∧a≤9223372036854775807:=by omega
  clear hs ha
  by_cases k:a<d
  ·simp(disch:=first|decide|omega|(simp only[LN];first|done|omega)) only[SV,SW,f81,Nat.reduceAdd,Nat.reduceBEq,q0d,Int.reduceEq]
  ·simp(disch:=first|decide|omega|(simp only[LN];first|done|omega)) only[SV,SW,f81,Nat.reduceAdd,Nat.reduceBEq,q0d,Int.reduceEq]
 by_cases g8:op=8
 ·subst g8
  have⟨a1,a2⟩:0≤a∧a≤9223372036854775807:=by omega
  clear hs ha
  by_cases k:8000<a
  ·simp(disch:=first|decide|omega|(simp only[LN];first|done|omega)) only[SV,SW,f81,Nat.reduceAdd,Nat.reduceBEq,q0d,Int.reduceEq]
  ·by_cases k2:d+a≤8000
   ·simp(disch:=first|decide|omega|(simp only[LN];first|done|omega)) only[SV,SW,f81,Nat.reduceAdd,Nat.reduceBEq,q0d,Int.reduceEq]
   ·simp(disch:=first|decide|omega|(simp only[LN];first|done|omega)) only[SV,SW,f81,Nat.reduceAdd,Nat.reduceBEq,q0d,Int.reduceEq]
 by_cases g9:op=9
 ·subst g9
  obtain⟨a1,a2,a3,a4⟩:=hs (.inl rfl)
  clear ha
  unfold q7n
  generalize hf:(nth t.shapes a).fields=fl at a3 a4
  by_cases k:fl<d
  ·simp(disch:=first|decide|omega|(simp only[LN];first|done|omega)) only[SV,SW,f81,Nat.reduceAdd,Nat.reduceBEq,q1a,hf,q0d,Int.reduceEq]
  ·simp(disch:=first|decide|omega|(simp only[LN];first|done|omega)) only[SV,SW,f81,Nat.reduceAdd,Nat.reduceBEq,q1a,hf,q0d,Int.reduceEq]
 by_cases g10:op=10
 ·subst g10
  obtain⟨a1,a2,a3,a4⟩:=hs (.inr rfl)
  clear ha
  unfold q7n
  generalize hf:(nth t.shapes a).fields=fl at a3 a4
  by_cases k:1<d
  ·by_cases k2:d - 1+fl≤8000
   ·simp(disch:=first|decide|omega|(simp only[LN];first|done|omega)) only[SV,SW,f81,Nat.reduceAdd,Nat.reduceBEq,q1a,hf,q0d,Int.reduceEq]
   ·simp(disch:=first|decide|omega|(simp only[LN];first|done|omega)) only[SV,SW,f81,Nat.reduceAdd,Nat.reduceBEq,q1a,hf,q0d,Int.reduceEq]
  ·simp(disch:=first|decide|omega|(simp only[LN];first|done|omega)) only[SV,SW,f81,Nat.reduceAdd,Nat.reduceBEq,q1a,hf,q0d,Int.reduceEq]
 by_cases g11:op=11
 ·subst g11
  by_cases k:1<d
  ·simp(disch:=first|decide|omega|(simp only[LN];first|done|omega)) only[SV,SW,f81,Nat.reduceAdd,Nat.reduceBEq,q0d,Int.reduceEq]
  ·simp(disch:=first|decide|omega|(simp only[LN];first|done|omega)) only[SV,SW,f81,Nat.reduceAdd,Nat.reduceBEq,q0d,Int.reduceEq]
 by_cases g14:op=14
 ·subst g14
  by_cases k:1<d
  ·simp(disch:=first|decide|omega|(simp only[LN];first|done|omega)) only[SV,SW,f81,Nat.reduceAdd,Nat.reduceBEq,q0d,Int.reduceEq]
  ·simp(disch:=first|decide|omega|(simp only[LN];first|done|omega)) only[SV,SW,f81,Nat.reduceAdd,Nat.reduceBEq,q0d,Int.reduceEq]
 by_cases g15:op=15
 ·subst g15
  by_cases k:1<d
  ·simp(disch:=first|decide|omega|(simp only[LN];first|done|omega)) only[SV,SW,f81,Nat.reduceAdd,Nat.reduceBEq,q0d,Int.reduceEq]
  ·simp(disch:=first|decide|omega|(simp only[LN];first|done|omega)) only[SV,SW,f81,Nat.reduceAdd,Nat.reduceBEq,q0d,Int.reduceEq]
 by_cases g17:op=17
 ·subst g17
  by_cases k:d=1
  ·simp(disch:=first|decide|omega|(simp only[LN];first|done|omega)) only[SV,SW,f81,k,Nat.reduceAdd,Nat.reduceBEq,q0d,Int.reduceEq,Int.reduceAdd,Int.reduceSub]
  ·simp(disch:=first|decide|omega|(simp only[LN];first|done|omega)) only[SV,SW,f81,Nat.reduceAdd,Nat.reduceBEq,q0d,Int.reduceEq,k]
 ·simp(disch:=first|decide|omega|(simp only[LN];first|done|omega)) only[SV,SW,f81,Nat.reduceAdd,Nat.reduceBEq,q0d,g1,g2,g3,g4,g5,g6,g12,g7,g8,g9,g10,g11,g14,g15,g17]
end Go.Vm
end

section
namespace Go.Vm
open Go.RowKit Go.Shelf Go.Proofs
theorem z5V(a b:Instr)(h:q0J a=q0J b):a=b:=by
 cases a;cases b
 simp only[q0J,List.cons.injEq,D.int.injEq,true_and,and_true] at h
 simp only[Instr.mk.injEq]
 exact h
theorem z5U(a b:Shape)(h:q0k a=q0k b):a=b:=by
 cases a;cases b
 simp only[q0k,List.cons.injEq,D.int.injEq,D.str.injEq,true_and,and_true] at h
 simp only[Shape.mk.injEq]
 exact h
theorem q7a{α β:Type}{f:α→β}(hf:∀ a b,f a=f b→a=b):∀ l l':List α,l.map f=l'.map f→l=l'
 |[],[],_=>rfl
 |[],_ :: _,h=>by simp at h
 |_ :: _,[],h=>by simp at h
 |a :: l,b :: l',h=>by
  simp only[List.map_cons,List.cons.injEq] at h
  rw[hf a b h.1,q7a hf l l' h.2]
theorem mI(l l':List Instr):l.map q0J=l'.map q0J↔l=l':=⟨q7a z5V l l',fun h=>by rw[h]⟩
theorem mS(l l':List Shape):l.map q0k=l'.map q0k↔l=l':=⟨q7a z5U l l',fun h=>by rw[h]⟩
theorem z89(a b:Glob)(h:q00 a=q00 b):a=b:=by
 cases a;cases b
 simp only[q00,List.cons.injEq,D.int.injEq,D.str.injEq,D.sl.injEq,mI,true_and,and_true] at h
 simp only[Glob.mk.injEq]
 exact h
theorem mG(l l':List Glob):l.map q00=l'.map q00↔l=l':=⟨q7a z89 l l',fun h=>by rw[h]⟩
theorem j0Z(a b:Int)(h:eInt a=eInt b):a=b:=by simpa [eInt] using h
theorem mN(l l':List Int):l.map eInt=l'.map eInt↔l=l':=⟨q7a j0Z l l',fun h=>by rw[h]⟩
theorem z2V(t u:Table)(h:t.shapes=u.shapes∧t.globals=u.globals):t=u:=by
 cases t;cases u
 simp only[Table.mk.injEq]
 exact h
noncomputable def z35:Sp where
 α:=List UInt8
 f:=35
 ok:=fun s=>((s.length:Int)≤9223372036854775807)
 args:=fun s=>[.d false (.str s)]
 res:=fun s=>(.d false (.bool (q2s s)),[])
 inj:=by
  rintro s s' _ _ h
  simp only[List.cons.injEq,V.agg.injEq,V.d.injEq,D.sl.injEq,D.int.injEq,D.str.injEq,D.ptr.injEq,Int.natCast_inj,mI,mS,mG,mN,true_and,and_true] at h
  rw[h]
noncomputable def z36:Sp where
 α:=Unit
 f:=36
 ok:=fun u=>True
 args:=fun u=>[]
 res:=fun u=>(.bsl 0 0 7,[.dat true 2 (givenS.map q0k)])
 inj:=by
  rintro u u' _ _ h
  rfl
noncomputable def z34:Sp where
 α:=Table
 f:=34
 ok:=fun t=>(TabOk t)
 args:=fun t=>[.agg [.d false (.sl 2 (t.shapes.map q0k)),.d false (.sl 3 (t.globals.map q00))]]
 res:=fun t=>(.d false (.bool (q7G t)),[])
 inj:=by
  rintro t t' _ _ h
  simp only[List.cons.injEq,V.agg.injEq,V.d.injEq,D.sl.injEq,mS,mG,true_and,and_true] at h
  rw[z2V _ _ h]
noncomputable def z79:Sp where
 α:=Int
 f:=79
 ok:=fun op=>True
 args:=fun op=>[.d false (.int .i64 op)]
 res:=fun op=>(z49 (q0S op) (decide (1≤op∧op<18)),[])
 inj:=by
  rintro op op' _ _ h
  simp only[List.cons.injEq,V.agg.injEq,V.d.injEq,D.sl.injEq,D.int.injEq,D.str.injEq,D.ptr.injEq,Int.natCast_inj,mI,mS,mG,mN,true_and,and_true] at h
  rw[h]
noncomputable def z80:Sp where
 α:=List Shape×List Glob×List UInt8×Int×List Instr×Int×Int×Int
 f:=80
 ok:=fun(sh,gl,nm,ar,cd,at_,n,kind)=>(0≤kind∧kind≤8)
 args:=fun(sh,gl,nm,ar,cd,at_,n,kind)=>[.agg [.d false (.sl 2 (sh.map q0k)),.d false (.sl 3 (gl.map q00))],.agg [.d false (.str nm),.d false (.int .i64 ar),.d false (.sl 3 (cd.map q0J))],.d false (.int .i64 at_),.d false (.int .i64 n),.d false (.int .i64 kind)]
 res:=fun(sh,gl,nm,ar,cd,at_,n,kind)=>(.d false (.int .i64 (q1U gl.length sh.length cd.length at_ n kind)),[])
 inj:=by
  rintro⟨sh,gl,nm,ar,cd,at_,n,kind⟩ ⟨sh',gl',nm',ar',cd',at_',n',kind'⟩ _ _ h
  simp only[List.cons.injEq,V.agg.injEq,V.d.injEq,D.sl.injEq,D.int.injEq,D.str.injEq,D.ptr.injEq,Int.natCast_inj,mI,mS,mG,mN,true_and,and_true] at h
  simp only[h]
noncomputable def z81:Sp where
 α:=List Shape×List Glob×Int×Int×Int×Int
 f:=81
 ok:=fun(sh,gl,op,a,b,d)=>(1≤d∧d≤8000)∧(0≤a∧a≤9223372036854775807∨(op≠1∧op≠4∧op≠5∧op≠7∧op≠8))∧(op=9∨op=10→0≤a∧a<sh.length∧0≤(nth sh a).fields∧(nth sh a).fields≤8)
 args:=fun(sh,gl,op,a,b,d)=>[.agg [.d false (.sl 2 (sh.map q0k)),.d false (.sl 3 (gl.map q00))],.agg [.d false (.int .i64 op),.d false (.int .i64 a),.d false (.int .i64 b)],.d false (.int .i64 d)]
 res:=fun(sh,gl,op,a,b,d)=>(.tup [.d false (.int .i64 (q06 sh ⟨op,a,b⟩ d).1),.d false (.bool (q06 sh ⟨op,a,b⟩ d).2)],[])
 inj:=by
  rintro⟨sh,gl,op,a,b,d⟩ ⟨sh',gl',op',a',b',d'⟩ _ _ h
  simp only[List.cons.injEq,V.agg.injEq,V.d.injEq,D.sl.injEq,D.int.injEq,D.str.injEq,D.ptr.injEq,Int.natCast_inj,mI,mS,mG,mN,true_and,and_true] at h
  simp only[h]
noncomputable def z37:Sp where
 α:=List Shape×List Glob×List UInt8×Int×List Instr
 f:=37
 ok:=fun(sh,gl,nm,ar,cd)=>(ShOk sh)∧(cd.length≤8000)∧(0≤ar∧ar≤24)∧(∀ x∈cd,x.a≤9223372036854775807)
 args:=fun(sh,gl,nm,ar,cd)=>[.agg [.d false (.sl 2 (sh.map q0k)),.d false (.sl 3 (gl.map q00))],.agg [.d false (.str nm),.d false (.int .i64 ar),.d false (.sl 3 (cd.map q0J))]]
 res:=fun(sh,gl,nm,ar,cd)=>(.d false (.int .i64 (q1Q gl.length sh ⟨nm,ar,cd⟩)),[])
 inj:=by
  rintro⟨sh,gl,nm,ar,cd⟩ ⟨sh',gl',nm',ar',cd'⟩ _ _ h
  simp only[List.cons.injEq,V.agg.injEq,V.d.injEq,D.sl.injEq,D.int.injEq,D.str.injEq,D.ptr.injEq,Int.natCast_inj,mI,mS,mG,mN,true_and,and_true] at h
  simp only[h]
noncomputable def z13:Sp where
 α:=Table
 f:=13
 ok:=fun t=>(TabOk t)
 args:=fun t=>[.agg [.d false (.sl 2 (t.shapes.map q0k)),.d false (.sl 3 (t.globals.map q00))]]
 res:=fun t=>(.d false (.int .i64 (q1P t)),[])
 inj:=by
  rintro t t' _ _ h
  simp only[List.cons.injEq,V.agg.injEq,V.d.injEq,D.sl.injEq,mS,mG,true_and,and_true] at h
  rw[z2V _ _ h]
noncomputable def z11:Sp where
 α:=Unit
 f:=11
 ok:=fun _=>True
 args:=fun _=>[]
 res:=fun _=>(.d false (.bool true),[])
 inj:=by
  rintro u u' _ _ h
  rfl
noncomputable def y82:Se where
 α:=Bool×List Int×Int×Int
 f:=82
 ok:=fun(_,Dp,at_,_)=>0≤at_∧at_<Dp.length
 args:=fun(_,Dp,at_,d)=>[.bsl 0 0 Dp.length,.d false (.int .i64 at_),.d false (.int .i64 d)]
 blks:=fun(c,Dp,_,_)=>[.dat c 1 (Dp.map eInt)]
 res:=fun(c,Dp,at_,d)=>(.d false (.bool (q4i Dp at_ d)),[.dat c 1 ((q2G Dp at_ d).map eInt)],[])
 inj:=by
  rintro⟨c,Dp,at_,d⟩ ⟨c',Dp',at_',d'⟩ _ _ h h2
  simp only[List.cons.injEq,V.bsl.injEq,V.d.injEq,D.int.injEq,true_and,and_true] at h
  simp only[List.cons.injEq,Blk.dat.injEq,mN,true_and,and_true] at h2
  simp only[h,h2]
theorem j4b{G:Nat→Option (List D)}{L:List Sp}{E:List Se}(h:Has L z35):K21 (cx G L E):=fun s h1=>h s h1
theorem j4a{G:Nat→Option (List D)}{L:List Sp}{E:List Se}(h:Has L z36):K22 (cx G L E):=h () trivial
theorem j4c{G:Nat→Option (List D)}{L:List Sp}{E:List Se}(h:Has L z34):K20 (cx G L E):=fun t h1=>h t h1
theorem z8g{G:Nat→Option (List D)}{L:List Sp}{E:List Se}(h:Has L z79):K40 (cx G L E):=fun op=>h op trivial
theorem j38{G:Nat→Option (List D)}{L:List Sp}{E:List Se}(h:Has L z80):K41 (cx G L E):=fun sh gl nm ar cd at_ n kind h1=>h (sh,gl,nm,ar,cd,at_,n,kind) h1
theorem j37{G:Nat→Option (List D)}{L:List Sp}{E:List Se}(h:Has L z81):K42 (cx G L E):=fun sh gl op a b d h1 h2 h3=>h (sh,gl,op,a,b,d) ⟨h1,h2,h3⟩
theorem j39{G:Nat→Option (List D)}{L:List Sp}{E:List Se}(h:Has L z37):K23 (cx G L E):=fun sh gl nm ar cd h1 h2 h3 h4=>h (sh,gl,nm,ar,cd) ⟨h1,h2,h3,h4⟩
theorem j4d{G:Nat→Option (List D)}{L:List Sp}{E:List Se}(h:Has L z13):K13 (cx G L E):=fun t h1=>h t h1
theorem j36{G:Nat→Option (List D)}{L:List Sp}{E:List Se}(h:HasE E y82):K43 (cx G L E):=fun c Dp at_ d n h1 h2=>by subst h2;exact h (c,Dp,at_,d) h1
theorem j4e{G:Nat→Option (List D)}{L:List Sp}{E:List Se}(h:Has L z11):(cx G L E).call 11 []=some (.d false (.bool true),[]):=h () trivial
noncomputable def ZL0:List Sp:=[z11]
noncomputable def ZE0:List Se:=[y82]
theorem zn0:Known Tryz.prog GT ZL0 ZE0:=(Known.nil.put (s:=z11) (fun _ _=>j48)).addE q1A (fun⟨c,Dp,at_,d⟩ _=>j4o) (fun⟨c,Dp,at_,d⟩ h=>j0K _ c Dp at_ d h _ rfl)
noncomputable def ZL1:List Sp:=z35 :: ZL0
theorem zn1:Known Tryz.prog GT ZL1 ZE0:=by
 exact zn0.add q1A (fun s _=>j4G) (fun s h1=>⟨_,z8R _ s h1⟩)
noncomputable def ZL2:List Sp:=z36 :: ZL1
theorem zn2:Known Tryz.prog GT ZL2 ZE0:=by
 exact zn1.add q1A (fun u _=>j4F) (fun u _=>⟨_,j0M _⟩)
noncomputable def ZL3:List Sp:=z34 :: ZL2
theorem zn3:Known Tryz.prog GT ZL3 ZE0:=by
 exact zn2.add q1A (fun t _=>j4H) (fun t h1=>⟨_,j0L _ t h1.gl h1.sh h1.cd⟩)
noncomputable def ZL4:List Sp:=z79 :: ZL3
theorem zn4:Known Tryz.prog GT ZL4 ZE0:=by
 exact zn3.add q1A (fun op _=>j4r) (fun op _=>⟨_,j0N _ op⟩)
noncomputable def ZL5:List Sp:=z80 :: ZL4
theorem zn5:Known Tryz.prog GT ZL5 ZE0:=by
 exact zn4.add q1A (fun⟨sh,gl,nm,ar,cd,at_,n,kind⟩ _=>j4q) (fun⟨sh,gl,nm,ar,cd,at_,n,kind⟩ h1=>⟨_,z8Q _ ⟨sh,gl⟩ ⟨nm,ar,cd⟩ at_ n kind h1⟩)
noncomputable def ZL6:List Sp:=z81 :: ZL5
theorem zn6:Known Tryz.prog GT ZL6 ZE0:=by
 exact zn5.add q1A (fun⟨sh,gl,op,a,b,d⟩ _=>j4p) (fun⟨sh,gl,op,a,b,d⟩ ⟨h1,h2,h3⟩=>⟨_,z5M _ ⟨sh,gl⟩ ⟨op,a,b⟩ d h1 h2 h3⟩)
noncomputable def ZL7:List Sp:=z37 :: ZL6
theorem zn7:Known Tryz.prog GT ZL7 ZE0:=by
 have k79:=z8g (G:=GT) (E:=ZE0) (show Has ZL6 z79 by repeat(first|exact q1j _ _|refine q1r ?_ (by decide)))
 have k80:=j38 (G:=GT) (E:=ZE0) (show Has ZL6 z80 by repeat(first|exact q1j _ _|refine q1r ?_ (by decide)))
 have k81:=j37 (G:=GT) (E:=ZE0) (show Has ZL6 z81 by repeat(first|exact q1j _ _|refine q1r ?_ (by decide)))
 have k82:K43 (cx GT ZL6 ZE0):=j36 (q31 _ _)
 exact zn6.add q1A (fun⟨sh,gl,nm,ar,cd⟩ _=>j4E) (fun⟨sh,gl,nm,ar,cd⟩ ⟨h1,h2,h3,h4⟩=>⟨_,z2k _ k79 k80 k81 k82 sh gl ⟨nm,ar,cd⟩ h1 h2 h3 h4⟩)
noncomputable def ZL8:List Sp:=z13 :: ZL7
theorem zn8:Known Tryz.prog GT ZL8 ZE0:=by
 have k34:=j4c (G:=GT) (E:=ZE0) (show Has ZL7 z34 by repeat(first|exact q1j _ _|refine q1r ?_ (by decide)))
 have k35:=j4b (G:=GT) (E:=ZE0) (show Has ZL7 z35 by repeat(first|exact q1j _ _|refine q1r ?_ (by decide)))
 have k36:=j4a (G:=GT) (E:=ZE0) (show Has ZL7 z36 by repeat(first|exact q1j _ _|refine q1r ?_ (by decide)))
 have k37:=j39 (G:=GT) (E:=ZE0) (show Has ZL7 z37 by repeat(first|exact q1j _ _|refine q1r ?_ (by decide)))
 exact zn7.add q1A (fun t _=>j4P) (fun t h1=>⟨_,j0O _ k34 k35 k36 k37 t h1⟩)
end Go.Vm
end

section
namespace Go.Vm
open Go.RowKit Go.Shelf Go.Proofs
set_option maxRecDepth 20000
end Go.Vm
end

section
namespace Go.Vm
open Go.RowKit Go.Shelf Go.Proofs
set_option maxRecDepth 20000
theorem mU(l l':Bs):l.map eU=l'.map eU↔l=l':=⟨q7a (fun a b h=>by simpa [eU,u8k2] using h) l l',fun h=>by rw[h]⟩
theorem z92{t u:Table}(h:tabV t=tabV u):t=u:=by
 simp only[tabV,List.cons.injEq,V.d.injEq,D.sl.injEq,mS,mG,true_and,and_true] at h
 exact z2V _ _ h
theorem j2A{x y:Instr}(h:[V.d false (.int .i64 x.op),.d false (.int .i64 x.a),.d false (.int .i64 x.b)]=[V.d false (.int .i64 y.op),.d false (.int .i64 y.a),.d false (.int .i64 y.b)]):x=y:=by
 simp only[List.cons.injEq,V.d.injEq,D.int.injEq,true_and,and_true] at h
 cases x;cases y;simp_all
noncomputable def y43:Se where
 α:=Bool×Bs×Bs
 f:=43
 ok:=fun(_,l,s)=>l.length≤1000000000000∧s.length≤1000000000∧s≠[]
 args:=fun(_,l,s)=>[.bsl 0 0 l.length,.d false (.str s)]
 blks:=fun(c,l,_)=>[.dat c 1 (l.map eU)]
 res:=fun(c,l,s)=>(.bsl 0 0 (l++s).length,[.dat c 1 ((l++s).map eU)],[0])
 inj:=by
  rintro⟨c,l,s⟩ ⟨c',l',s'⟩ _ _ h h2
  simp only[List.cons.injEq,V.bsl.injEq,V.d.injEq,D.str.injEq,true_and,and_true] at h
  simp only[List.cons.injEq,Blk.dat.injEq,mU,true_and,and_true] at h2
  simp only[h,h2]
noncomputable def y63:Se where
 α:=Bs×Nat
 f:=63
 ok:=fun(l,n)=>l.length≤999999999000∧n≤18446744073709551615
 args:=fun(l,n)=>[.bsl 0 0 l.length,.d false (.int .u64 n)]
 blks:=fun(l,_)=>[.dat false 1 (l.map eU)]
 res:=fun(l,n)=>(.bsl 0 0 (l++leb n).length,[.dat false 1 ((l++leb n).map eU)],[0])
 inj:=by
  rintro⟨l,n⟩ ⟨l',n'⟩ _ _ h h2
  simp only[List.cons.injEq,V.bsl.injEq,V.d.injEq,D.int.injEq,Int.natCast_inj,true_and,and_true] at h
  simp only[List.cons.injEq,Blk.dat.injEq,mU,true_and,and_true] at h2
  simp only[h,h2]
noncomputable def y68:Se where
 α:=Bs×Nat
 f:=68
 ok:=fun(l,n)=>l.length≤999999999000∧n≤18446744073709551615
 args:=fun(l,n)=>[.bsl 0 0 l.length,.d false (.int .u64 n)]
 blks:=fun(l,_)=>[.dat false 1 (l.map eU)]
 res:=fun(l,n)=>(.bsl 0 0 (l++leb n).length,[.dat false 1 ((l++leb n).map eU)],[0])
 inj:=by
  rintro⟨l,n⟩ ⟨l',n'⟩ _ _ h h2
  simp only[List.cons.injEq,V.bsl.injEq,V.d.injEq,D.int.injEq,Int.natCast_inj,true_and,and_true] at h
  simp only[List.cons.injEq,Blk.dat.injEq,mU,true_and,and_true] at h2
  simp only[h,h2]
noncomputable def y64:Se where
 α:=Bs×Bs
 f:=64
 ok:=fun(l,s)=>l.length≤999999990000∧s.length≤100000∧s≠[]
 args:=fun(l,s)=>[.bsl 0 0 l.length,.d false (.str s)]
 blks:=fun(l,_)=>[.dat false 1 (l.map eU)]
 res:=fun(l,s)=>(.bsl 0 0 (l++q3y s).length,[.dat false 1 ((l++q3y s).map eU)],[0])
 inj:=by
  rintro⟨l,n⟩ ⟨l',n'⟩ _ _ h h2
  simp only[List.cons.injEq,V.bsl.injEq,V.d.injEq,D.str.injEq,true_and,and_true] at h
  simp only[List.cons.injEq,Blk.dat.injEq,mU,true_and,and_true] at h2
  simp only[h,h2]
noncomputable def y69:Se where
 α:=Bs×Bs
 f:=69
 ok:=fun(l,s)=>l.length≤999999990000∧s.length≤100000∧s≠[]
 args:=fun(l,s)=>[.bsl 0 0 l.length,.d false (.str s)]
 blks:=fun(l,_)=>[.dat false 1 (l.map eU)]
 res:=fun(l,s)=>(.bsl 0 0 (l++q3y s).length,[.dat false 1 ((l++q3y s).map eU)],[0])
 inj:=by
  rintro⟨l,n⟩ ⟨l',n'⟩ _ _ h h2
  simp only[List.cons.injEq,V.bsl.injEq,V.d.injEq,D.str.injEq,true_and,and_true] at h
  simp only[List.cons.injEq,Blk.dat.injEq,mU,true_and,and_true] at h2
  simp only[h,h2]
noncomputable def y70:Se where
 α:=Bs×Instr
 f:=70
 ok:=fun(l,x)=>l.length≤999999990000∧(1≤x.op∧x.op<18)∧NumR x
 args:=fun(l,x)=>[.bsl 0 0 l.length,.agg [.d false (.int .i64 x.op),.d false (.int .i64 x.a),.d false (.int .i64 x.b)]]
 blks:=fun(l,_)=>[.dat false 1 (l.map eU)]
 res:=fun(l,x)=>(.bsl 0 0 (l++q2i x).length,[.dat false 1 ((l++q2i x).map eU)],[0])
 inj:=by
  rintro⟨l,x⟩ ⟨l',x'⟩ _ _ h h2
  simp only[List.cons.injEq,V.agg.injEq,and_true] at h
  simp only[List.cons.injEq,Blk.dat.injEq,mU,true_and,and_true] at h2
  rw[h2,j2A (x:=x) (y:=x') (by simp only[List.cons.injEq,and_true];exact h.2)]
noncomputable def Sp71:Sp where
 α:=Int
 f:=71
 ok:=fun _=>True
 args:=fun n=>[.d false (.int .u32 n)]
 res:=fun n=>(.d true (.sl 1 ((q28 n).map eU)),[])
 inj:=by
  rintro n n' _ _ h
  simp only[List.cons.injEq,V.d.injEq,D.int.injEq,true_and,and_true] at h
  rw[h]
noncomputable def Sp66:Sp where
 α:=Int
 f:=66
 ok:=fun n=>-9223372036854775808≤n∧n≤9223372036854775807
 args:=fun n=>[.d false (.int .i64 n)]
 res:=fun n=>(.d false (.int .u64 (q2z n)),[])
 inj:=by
  rintro n n' _ _ h
  simp only[List.cons.injEq,V.d.injEq,D.int.injEq,true_and,and_true] at h
  rw[h]
noncomputable def j1j:Sp where
 α:=Int
 f:=100
 ok:=fun n=>-9223372036854775808≤n∧n≤9223372036854775807
 args:=fun n=>[.d false (.int .i64 n)]
 res:=fun n=>(.d false (.int .u64 (q2z n)),[])
 inj:=by
  rintro n n' _ _ h
  simp only[List.cons.injEq,V.d.injEq,D.int.injEq,true_and,and_true] at h
  rw[h]
noncomputable def Sp67:Sp where
 α:=Bs
 f:=67
 ok:=fun l=>l.length≤1000000000000
 args:=fun l=>[.d false (.sl 1 (l.map eU))]
 res:=fun l=>(.d false (.int .u32 (sumS l)),[])
 inj:=by
  rintro n n' _ _ h
  simp only[List.cons.injEq,V.d.injEq,D.sl.injEq,mU,true_and,and_true] at h
  rw[h]
noncomputable def Sp72:Sp where
 α:=Bs
 f:=72
 ok:=fun l=>l.length≤1000000000000
 args:=fun l=>[.d false (.sl 1 (l.map eU))]
 res:=fun l=>(.d false (.int .u32 (sumS l)),[])
 inj:=by
  rintro n n' _ _ h
  simp only[List.cons.injEq,V.d.injEq,D.sl.injEq,mU,true_and,and_true] at h
  rw[h]
noncomputable def Sp24:Sp where
 α:=Table
 f:=24
 ok:=fun t=>TabOk t∧t.shapes.length≤1048576
 args:=fun t=>[.agg (tabV t)]
 res:=fun t=>rBy (q4y t)
 inj:=by
  rintro t t' _ _ h
  simp only[List.cons.injEq,V.agg.injEq,and_true] at h
  rw[z92 h]
theorem j68{L:List Sp}{E:List Se}(h:HasE E y68):M68 (cx GT L E):=fun l n h1 h2=>h (l,n) ⟨h1,h2⟩
theorem j69{L:List Sp}{E:List Se}(h:HasE E y69):M69 (cx GT L E):=fun l s h1 h2 h3=>h (l,s) ⟨h1,h2,h3⟩
theorem j70{L:List Sp}{E:List Se}(h:HasE E y70):M70 (cx GT L E):=fun l x h1 h2 h3=>h (l,x) ⟨h1,h2,h3⟩
theorem j100{L:List Sp}{E:List Se}(h:Has L j1j):∀ a:Int,-9223372036854775808≤a→a≤9223372036854775807→(cx GT L E).call 100 [.d false (.int .i64 a)]=some (.d false (.int .u64 (q2z a)),[]):=fun a h1 h2=>h a ⟨h1,h2⟩
theorem j71{L:List Sp}{E:List Se}(h:Has L Sp71):∀ s:Int,(cx GT L E).call 71 [.d false (.int .u32 s)]=some (.d true (.sl 1 ((q28 s).map eU)),[]):=fun s=>h s trivial
theorem j72{L:List Sp}{E:List Se}(h:Has L Sp72):∀ l:Bs,l.length≤1000000000000→(cx GT L E).call 72 [.d false (.sl 1 (l.map eU))]=some (.d false (.int .u32 (sumS l)),[]):=fun l h1=>h l h1
end Go.Vm
end

section
namespace Go.Vm
open Go.RowKit Go.Shelf Go.Proofs
set_option maxRecDepth 20000
def Only (E:List Se) (s:Se):Prop:=HasE E s∧∀ vs bs,(¬ ∃ a,s.ok a∧s.args a=vs∧s.blks a=bs)→q9A E s.f vs bs=none
theorem q2g (s:Se) (E:List Se):Only (s :: E) s:=by
  refine ⟨q31 s E,fun vs bs h=>?_⟩
  simp only [q9A,if_true]
  rw [dif_neg h]
theorem q1W {s t:Se} {E:List Se} (h:Only E s) (hne:t.f≠s.f):Only (t :: E) s:=by
  refine ⟨q5b h.1 hne,fun vs bs hn=>?_⟩
  simp only [q9A]
  rw [if_neg hne]
  exact h.2 vs bs hn
theorem z4D {l l':Bs} (h:LB l=LB l'):l=l':=by
  simp only [LB,Blk.mix.injEq,List.cons.injEq,V.d.injEq,D.sl.injEq,mU,true_and,and_true] at h
  exact h
noncomputable def yR {A:Type} (f:FuncId) (p:Bs→Option (A×Bs)) (v:A→V):Se where
  α:=Bs×A×Bs
  f:=f
  ok:=fun (l,a,r)=>l.length≤8388608∧p l=some (a,r)
  args:=fun _=>[.ptr 0 0 0]
  blks:=fun (l,_,_)=>[LB l]
  res:=fun (_,a,r)=>(v a,[LB r],[])
  inj:=by
    rintro ⟨l,a,r⟩ ⟨l',a',r'⟩ ⟨_,h1⟩ ⟨_,h2⟩ _ h
    simp only [List.cons.injEq,and_true] at h
    rw [z4D h,h2] at h1
    simp only [Option.some.injEq,Prod.mk.injEq] at h1
    simp only [h1]
noncomputable def qR {A:Type} (f:FuncId) (p:Bs→Option (A×Bs)):Sq where
  α:=Bs
  f:=f
  ok:=fun l=>l.length≤8388608∧p l=none
  args:=fun _=>[.ptr 0 0 0]
  blks:=fun l=>[LB l]
  val:=fun _=>brk
  inj:=fun _ _ _ _ _ _=>rfl
theorem q9a {A:Type} {f:FuncId} {p:Bs→Option (A×Bs)} {v:A→V} {G:Nat→Option (List D)} {L:List Sp} {E:List Se} {Q:List Sq} (h:Only E (yR f p v)) (hq:HasQ Q (qR f p)):EP (cx G L E Q) f p v:=by
  refine ⟨fun l a r hl e=>h.1 (l,a,r) ⟨hl,e⟩,fun l hl e=>h.2 _ _ ?_,fun l hl e=>hq l ⟨hl,e⟩⟩
  rintro ⟨⟨l',a,r⟩,⟨_,h2⟩,_,h3⟩
  have h3:[LB l']=[LB l]:=h3
  simp only [List.cons.injEq,and_true] at h3
  rw [z4D h3,e] at h2
  cases h2
theorem addR {A:Type} {f:FuncId} {p:Bs→Option (A×Bs)} {v:A→V} {G:Nat→Option (List D)} {L:List Sp} {E:List Se} {Q:List Sq} {g:Fun} (h:Known Tryz.prog G L E Q) (hok:q1s Tryz.prog f 1 1 g=true) (hr:RP (cx G L E Q) g p v):Known Tryz.prog G L (yR f p v :: E) (.cons (qR f p) Q):=by
  refine (h.addE (s:=yR f p v) q1A (fun _ _=>hok) (fun ⟨l,a,r⟩ ⟨h1,h2⟩=>hr.ok l a r h1 h2)).putQ ?_
  intro l ⟨h1,h2⟩
  obtain ⟨s,hs⟩:=q2K (hr.pan l h1 h2)
  exact z1C q1A h.sound hok hs
noncomputable def y77:Se where
  α:=Bs×Table×Bs
  f:=77
  ok:=fun (l,t,r)=>l.length≤8388608∧q1N l=some (t,r)
  args:=fun _=>[.ptr 0 0 0]
  blks:=fun (l,_,_)=>[LB l]
  res:=fun (_,t,r)=>(tbV 1 t,LB r :: tb0 true 1 t,[])
  inj:=by
    rintro ⟨l,a,r⟩ ⟨l',a',r'⟩ ⟨_,h1⟩ ⟨_,h2⟩ _ h
    simp only [List.cons.injEq,and_true] at h
    rw [z4D h,h2] at h1
    simp only [Option.some.injEq,Prod.mk.injEq] at h1
    simp only [h1]
theorem run77 (K:Cx) (h101:EP K 101 q0Q vI) (h102:EP K 102 q2e vStr) (h103:EP K 103 q0h vI) (h104:EP K 104 q1C vIns) (l:Bs) (hl:l.length≤8388608) (t:Table) (r:Bs) (e:q1N l=some (t,r)) :
    q0U K f77o [.ptr 0 0 0] [LB l]=some (tbV 1 t,LB r :: tb0 true 1 t,[]):=by
  have h:=j1t K h101 h102 h103 h104 l hl
  rw [e] at h
  obtain ⟨H,nx,mv,gs,blk,h1,hT,hg,hm,_⟩:=h
  have hf:=fin77 hT mv hm (.mix 2 [[.bsl 3 0 t.shapes.length,.bsl 4 0 t.globals.length]])
  have hgl:gs.length=t.globals.length:=by rw [← hg,List.length_map]
  rw [hg,hgl] at hf
  have hv:mapO (ev K ⟨[(2,.ptr 1 0 0)],put H 1 (.mix 2 [[.bsl 3 0 t.shapes.length,.bsl 4 0 t.globals.length]]),nx,mv⟩) f77o.res=some [.agg [.bsl 3 0 t.shapes.length,.bsl 4 0 t.globals.length]]:=by
    have hk:look (put H 1 (.mix 2 [[.bsl 3 0 t.shapes.length,.bsl 4 0 t.globals.length]])) 1=some (.mix 2 [[.bsl 3 0 t.shapes.length,.bsl 4 0 t.globals.length]]):=q0G _ _ _
    show mapO (ev K _) f77.res=_
    simp (disch:=first|decide|omega|(simp only [LN];first|done|omega)) only [SV,SW,f77,hk,Nat.reduceAdd]
  unfold q0U
  have hb:exec K f77o.body (startS [.ptr 0 0 0] [LB l])=_:=h1
  rw [hb]
  simp only [hv]
  exact hf
theorem add77 {G:Nat→Option (List D)} {L:List Sp} {E:List Se} {Q:List Sq} (h:Known Tryz.prog G L E Q) (h101:EP (cx G L E Q) 101 q0Q vI) (h102:EP (cx G L E Q) 102 q2e vStr) (h103:EP (cx G L E Q) 103 q0h vI) (h104:EP (cx G L E Q) 104 q1C vIns):Known Tryz.prog G L (y77 :: E) (.cons (qR 77 q1N) Q):=by
  refine (h.addE (s:=y77) q1A (fun _ _=>z8J) (fun ⟨l,t,r⟩ ⟨h1,h2⟩=>run77 _ h101 h102 h103 h104 l h1 t r h2)).putQ ?_
  intro l ⟨h1,h2⟩
  have e:=j1t (cx G L E Q) h101 h102 h103 h104 l h1
  rw [h2] at e
  obtain ⟨s,hs⟩:=q2K e
  exact z1C q1A h.sound z8J hs
noncomputable def Sp27:Sp where
  α:=Bs
  f:=27
  ok:=fun l=>l.length≤1000000000000
  args:=fun l=>[.d false (.sl 1 (l.map eU))]
  res:=fun l=>rLd (q2y l)
  inj:=by
    rintro n n' _ _ h
    simp only [List.cons.injEq,V.d.injEq,D.sl.injEq,mU,true_and,and_true] at h
    rw [h]
theorem z5x {G:Nat→Option (List D)} {L:List Sp} {E:List Se} {Q:List Sq} (h:Known Tryz.prog G L E Q) (hk:LdK (cx G L E Q)):Sp27.Holds Tryz.prog G:=by
  intro b _
  exact z5X q1A h.sound (f:=27) (g:=f27D) j0J z26 (j4h _ rfl h.sound) (j34 _ hk b) rfl
theorem j32 {G:Nat→Option (List D)} {L:List Sp} {E:List Se} {Q:List Sq} (h13:Has L z13) (h71:Has L Sp71) (h72:Has L Sp72) (h77:Only E y77) (hq:HasQ Q (qR 77 q1N)):LdK (cx G L E Q):=by
  refine ⟨fun t ht=>h13 t ht,fun s=>h71 s trivial,fun l hl=>h72 l hl,fun l t r hl e=>h77.1 (l,t,r) ⟨hl,e⟩,fun l hl e=>h77.2 _ _ ?_,fun l hl e=>hq l ⟨hl,e⟩⟩
  rintro ⟨⟨l',a,r⟩,⟨_,h2⟩,_,h3⟩
  have h3:[LB l']=[LB l]:=h3
  simp only [List.cons.injEq,and_true] at h3
  rw [z4D h3,e] at h2
  cases h2
noncomputable def CL1:List Sp:=j1j :: ZL8
theorem cp1:Known Tryz.prog GT CL1 ZE0:=zn8.add (s:=j1j) q1A (fun _ _=>j22) (fun a ⟨h1,h2⟩=>⟨_,z8S _ false a h1 h2⟩)
noncomputable def CL2:List Sp:=Sp72 :: CL1
theorem cp2:Known Tryz.prog GT CL2 ZE0:=cp1.add (s:=Sp72) q1A (fun _ _=>j4t) (fun l h=>⟨_,j23 _ l false (Nat.le_trans h (by decide))⟩)
noncomputable def CL3:List Sp:=Sp71 :: CL2
theorem cp3:Known Tryz.prog GT CL3 ZE0:=cp2.add (s:=Sp71) q1A (fun _ _=>j4u) (fun s _=>⟨_,j26 _ false s⟩)
noncomputable def CE1:List Se:=y68 :: ZE0
theorem cp4:Known Tryz.prog GT CL3 CE1:=cp3.addE (s:=y68) q1A (fun ⟨l,n⟩ _=>j4x) (fun ⟨l,n⟩ ⟨h1,h2⟩=>j24 _ false false l n h1 h2)
noncomputable def CE2:List Se:=y69 :: CE1
theorem cp5:Known Tryz.prog GT CL3 CE2:=cp4.addE (s:=y69) q1A (fun ⟨l,s⟩ _=>j4w) (fun ⟨l,s⟩ ⟨h1,h2,h3⟩=>z5N _ (j68 (q31 _ _)) false l s h1 h2 h3)
noncomputable def CE3:List Se:=y70 :: CE2
theorem cp6:Known Tryz.prog GT CL3 CE3:=cp5.addE (s:=y70) q1A (fun ⟨l,x⟩ _=>j4v) (fun ⟨l,x⟩ ⟨h1,h2,h3⟩=>z3q _ (j68 (q5b (q31 _ _) (by decide)))
  (z8g (G:=GT) (show Has CL3 z79 by repeat (first | exact q1j _ _ | refine q1r ?_ (by decide))))
  (j100 (show Has CL3 j1j by repeat (first | exact q1j _ _ | refine q1r ?_ (by decide)))) l x h1 h2 h3)
noncomputable def CL4:List Sp:=Sp24 :: CL3
theorem cp7:Known Tryz.prog GT CL4 CE3:=cp6.add (s:=Sp24) q1A (fun t _=>j2N) (fun t ⟨h1,h2⟩=>⟨_,z8V _
  (j4d (G:=GT) (show Has CL3 z13 by repeat (first | exact q1j _ _ | refine q1r ?_ (by decide))))
  (j68 (q5b (q5b (q31 _ _) (by decide)) (by decide))) (j69 (q5b (q31 _ _) (by decide))) (j70 (q31 _ _))
  (j71 (show Has CL3 Sp71 by repeat (first | exact q1j _ _ | refine q1r ?_ (by decide))))
  (j72 (show Has CL3 Sp72 by repeat (first | exact q1j _ _ | refine q1r ?_ (by decide)))) t h1 h2⟩)
theorem sd1:Known Tryz.prog GT CL4 (yR 126 z1f z5a :: CE3) [qR 126 z1f]:=addR cp7 j2Q (j3I _)
noncomputable def DE2:List Se:=yR 113 numT vU :: yR 126 z1f z5a :: CE3
noncomputable def DQ2:List Sq:=[qR 113 numT,qR 126 z1f]
theorem sd2:Known Tryz.prog GT CL4 DE2 DQ2:=addR sd1 j2T (r_num _ (q9a (q2g _ _) (q2k _ _)))
noncomputable def DE3:List Se:=yR 103 q0h vI :: DE2
noncomputable def DQ3:List Sq:=qR 103 q0h :: DQ2
theorem sd3:Known Tryz.prog GT CL4 DE3 DQ3:=addR sd2 j2Z (j0c _ (q9a (q2g _ _) (q2k _ _)))
noncomputable def DE4:List Se:=yR 101 q0Q vI :: DE3
noncomputable def DQ4:List Sq:=qR 101 q0Q :: DQ3
theorem sd4:Known Tryz.prog GT CL4 DE4 DQ4:=addR sd3 j21 (j2d _ (q9a (q2g _ _) (q2k _ _)))
noncomputable def DE5:List Se:=yR 102 q2e vStr :: DE4
noncomputable def DQ5:List Sq:=qR 102 q2e :: DQ4
theorem sd5:Known Tryz.prog GT CL4 DE5 DQ5:=addR sd4 j20 (j3J _ (q9a (q2g _ _) (q2k _ _)))
noncomputable def DE6:List Se:=yR 114 q2r vZ :: DE5
noncomputable def DQ6:List Sq:=qR 114 q2r :: DQ5
theorem o113:Only DE5 (yR 113 numT vU):=q1W (q1W (q1W (q2g _ _) (by decide)) (by decide)) (by decide)
theorem q113:HasQ DQ5 (qR 113 numT):=q1X (q1X (q1X (q2k _ _) (by decide)) (by decide)) (by decide)
theorem sd6:Known Tryz.prog GT CL4 DE6 DQ6:=addR sd5 j2S (j0b _ (q9a o113 q113))
noncomputable def DE7:List Se:=yR 104 q1C vIns :: DE6
noncomputable def DQ7:List Sq:=qR 104 q1C :: DQ6
theorem o103:Only DE6 (yR 103 q0h vI):=q1W (q1W (q1W (q2g _ _) (by decide)) (by decide)) (by decide)
theorem q103:HasQ DQ6 (qR 103 q0h):=q1X (q1X (q1X (q2k _ _) (by decide)) (by decide)) (by decide)
theorem sd7:Known Tryz.prog GT CL4 DE7 DQ7:=addR sd6 j2Y (j2c _ (@z8g GT CL4 [] (show Has CL4 z79 by repeat (first | exact q1j _ _ | refine q1r ?_ (by decide)))) (q9a o103 q103) (q9a (q2g _ _) (q2k _ _)))
noncomputable def DE8:List Se:=y77 :: DE7
noncomputable def DQ8:List Sq:=qR 77 q1N :: DQ7
theorem o101:Only DE7 (yR 101 q0Q vI):=q1W (q1W (q1W (q2g _ _) (by decide)) (by decide)) (by decide)
theorem q101:HasQ DQ7 (qR 101 q0Q):=q1X (q1X (q1X (q2k _ _) (by decide)) (by decide)) (by decide)
theorem o102:Only DE7 (yR 102 q2e vStr):=q1W (q1W (q2g _ _) (by decide)) (by decide)
theorem q102:HasQ DQ7 (qR 102 q2e):=q1X (q1X (q2k _ _) (by decide)) (by decide)
theorem sd8:Known Tryz.prog GT CL4 DE8 DQ8:=add77 sd7 (q9a o101 q101) (q9a o102 q102) (q9a (q1W o103 (by decide)) (q1X q103 (by decide))) (q9a (q2g _ _) (q2k _ _))
noncomputable def DL9:List Sp:=Sp27 :: CL4
theorem sd9:Known Tryz.prog GT DL9 DE8 DQ8:=sd8.put (z5x sd8 (j32
  (show Has CL4 z13 by repeat (first | exact q1j _ _ | refine q1r ?_ (by decide)))
  (show Has CL4 Sp71 by repeat (first | exact q1j _ _ | refine q1r ?_ (by decide)))
  (show Has CL4 Sp72 by repeat (first | exact q1j _ _ | refine q1r ?_ (by decide)))
  (q2g _ _) (q2k _ _)))
theorem laws9:LawS (cx GT DL9 DE8 DQ8):=
  ⟨j4e (G:=GT) (E:=[]) (show Has DL9 z11 by repeat (first | exact q1j _ _ | refine q1r ?_ (by decide))),
   fun t h1 h2=>(show Has DL9 Sp24 by repeat (first | exact q1j _ _ | refine q1r ?_ (by decide))) t ⟨h1,h2⟩,
   fun b hb=>(q1j Sp27 CL4) b hb⟩
theorem z5y (t:Table) (hto:TabOk t) (hs:t.shapes.length≤1048576) (at_ ct:Int) (ha:at_≤9223372036854775807) (hct:ct≤9223372036854775807) (m:UInt8) (w:Bs) (hw:w.length≤1000000000) :
    q0p Tryz.prog 9=true∧q2o Tryz.prog GT 9 [.agg (tabV t),.d false (.int .i64 at_),.d false (.int .u8 (m.toNat:Int)),.d false (.int .i64 ct),.d false (.sl 1 (w.map eU))] (.d false (.bool true)) []:=
  q4q (args:=[.agg (tabV t),.d false (.int .i64 at_),.d false (.int .u8 (m.toNat:Int)),.d false (.int .i64 ct),.d false (.sl 1 (w.map eU))]) q1A sd9.sound f9_ok (z8P _ laws9 t hto hs at_ ct ha hct m w hw)
end Go.Vm
end

section
namespace Go.Vm
open Go.RowKit Go.Deep
variable {H:Type}{enc:TypeId×Value→H}{P:Program}{w:World}{spare:Nat→Bool}{held:Bool}
def q4d(P:Program)(T:TypeId→Bool):Nat→List Field→Option Nat
 |off,[]=>some off
 |off,f :: fs=>if f.offset=off∧T f.type=true then q4d P T (off+P.cellsOf f.type) fs else none
def q4r(P:Program):Nat→TypeId→Bool
 |0,_=>false
 |n+1,t=>match P.underlying t with
  |some .bool|some (.int _)|some .string=>true
  |some (.slice e)=>decide (0<P.cellsOf e)&&q4r P n e
  |some (.struct fs)=>decide (q4d P (q4r P n) 0 fs.toList=some (P.cellsOf t))
  |_=>false
def q7O(P:Program)(T:TypeId→List D→Prop):List Field→List D→Prop
 |[],ds=>ds=[]
 |f :: fs,ds=>∃ a b,ds=a++b∧a.length=P.cellsOf f.type∧T f.type a∧q7O P T fs b
def j5b(P:Program):Nat→TypeId→List D→Prop
 |0,_,_=>False
 |n+1,t,ds=>match P.underlying t with
  |some .bool=>∃ b,ds=[.bool b]
  |some (.int k)=>∃ m,ds=[.int k m]∧(Lit.int k m).wf=true
  |some .string=>∃ s,ds=[.str s]∧s.length≤maxLen
  |some (.slice e)=>∃ rows:List (List D),ds=[.sl (P.cellsOf e) rows]∧rows.length≤maxLen∧∀ r∈rows,r.length=P.cellsOf e∧j5b P n e r
  |some (.struct fs)=>q7O P (j5b P n) fs.toList ds
  |_=>False
def z2B(w:World)(b:Nat):Prop:=b<w.heap.size
def RepL(w:World)(cs:List Value)(ds:List D):Prop:=ds.length=cs.length∧∀(j:Nat)(v:Value)(d:D),cs[j]? = some v→ds[j]? = some d→RepD w (z2B w) v d
theorem RepL.append{a b:List Value}{x y:List D}(h1:RepL w a x)(h2:RepL w b y):RepL w (a++b) (x++y):=by
 refine⟨by simp [h1.1,h2.1],fun j v d hv hd=>?_⟩
 by_cases hj:j<a.length
 ·rw[List.getElem?_append_left hj] at hv
  rw[List.getElem?_append_left (by rw[h1.1];exact hj)] at hd
  exact h1.2 j v d hv hd
 ·rw[List.getElem?_append_right (by omega)] at hv
  rw[List.getElem?_append_right (by rw[h1.1];omega),h1.1] at hd
  exact h2.2 _ v d hv hd
theorem RepL.one{v:Value}{d:D}(h:RepD w (z2B w) v d):RepL w [v] [d]:=by
 refine⟨rfl,fun j u x hu hx=>?_⟩
 cases j with
 |zero=>simp at hu hx;subst hu;subst hx;exact h
 |succ j=>simp at hu
theorem q7s{base n:Nat}{a:Addr}{cs:List Value}(h:w.cells? base a n=some cs):cs.length=n∧∀(i:Nat)(v:Value),cs[i]? = some v→w.cell? (a.add i)=some v:=by
 unfold World.cells? at h
 split at h
 case isFalse=>cases h
 have key:∀(l:List Nat) (cs:List Value),(l.mapM fun i=>w.cell? (a.add i))=some cs→cs.length=l.length∧∀(i:Nat) (v:Value),cs[i]? = some v→∃ j:Nat,l[i]? = some j∧w.cell? (a.add j)=some v:=by
  intro l
  induction l with
  |nil=>intro cs h;simp at h;subst h;exact⟨rfl,fun i v h=>by simp at h⟩
  |cons m l ih=>
   intro cs h
   rw[List.mapM_cons] at h
   cases hm:w.cell? (a.add m) with
   |none=>rw[hm] at h;cases h
   |some v=>
    rw[hm] at h
    cases hr:l.mapM (fun i=>w.cell? (a.add i)) with
    |none=>rw[hr] at h;cases h
    |some vs=>
     rw[hr] at h
     obtain rfl:v :: vs=cs:=Option.some.inj h
     obtain⟨h1,h2⟩:=ih vs hr
     refine⟨by simp [h1],fun i u hu=>?_⟩
     cases i with
     |zero=>simp at hu;subst hu;exact⟨m,rfl,hm⟩
     |succ i=>simpa using h2 i u (by simpa using hu)
 obtain⟨h1,h2⟩:=key _ _ h
 refine⟨by simpa using h1,fun i v hv=>?_⟩
 obtain⟨j,hj,hc⟩:=h2 i v hv
 have:j=i:=by
  rw[List.getElem?_range] at hj
  ·simpa using hj.symm
  ·have:=(List.getElem?_eq_some_iff.1 hv).1
   simp at h1;omega
 subst this
 exact hc
theorem q83{α:Type}{Q:Nat→α→Prop}:∀(n:Nat),(∀ i,i<n→∃ y,Q i y)→∃ l:List α,l.length=n∧∀(i:Nat)(y:α),l[i]? = some y→Q i y
 |0,_=>⟨[],rfl,fun i y h=>by simp at h⟩
 |n+1,h=>by
  obtain⟨l,h1,h2⟩:=q83 n (fun i hi=>h i (by omega))
  obtain⟨y,hy⟩:=h n (by omega)
  refine⟨l++[y],by simp [h1],fun i z hz=>?_⟩
  by_cases hi:i<l.length
  ·rw[List.getElem?_append_left hi] at hz
   exact h2 i z hz
  ·rw[List.getElem?_append_right (by omega)] at hz
   have:i - l.length=0:=by
    rcases Nat.eq_zero_or_pos (i - l.length) with h|h
    ·exact h
    ·rw[List.getElem?_eq_none (by simp;omega)] at hz;cases hz
   rw[this] at hz
   simp at hz
   subst hz
   have:i=n:=by omega
   subst this
   exact hy
end Go.Vm
end

section
namespace Go.Vm
open Go.RowKit Go.Deep
variable {H:Type}{enc:TypeId×Value→H}{P:Program}{w:World}{spare:Nat→Bool}{held:Bool}
def argV(agg:Bool)(ds:List D):V:=if agg then .agg (ds.map (.d false)) else match ds with
 |[d]=>.d false d
 |_=>.junk
theorem z3Q{v:Value}{d:D}{base:Nat}(hag:∀ cs,v≠.agg cs)(h:RepL w v.cells.toList [d]):RepV w (z2B w) base (fun _=>none) v (argV false [d]):=by
 have hc:v.cells = #[v]:=by
  cases v with
  |agg cs=>exact absurd rfl (hag cs)
  |_=>rfl
 rw[hc] at h
 exact .d _ _ _ (h.2 0 v d rfl rfl)
end Go.Vm
end

section
namespace Go.Vm
open Go.RowKit Go.Deep
variable {H:Type}{enc:TypeId×Value→H}{P:Program}{w:World}{spare:Nat→Bool}{held:Bool}
structure BulkOk(bulk:DataW H→Nat):Prop where
 str:∀ l,l.length≤bulk (.lit (.string l))
 sl:∀ elems spare,elems.length≤bulk (.slice elems spare)∧∀ e∈elems,bulk e≤bulk (.slice elems spare)
 agg:∀ parts,∀ e∈parts,bulk e≤bulk (.agg parts)
def q1q(P:Program)(B:Nat):Nat→TypeId→List D→Prop
 |0,_,_=>False
 |n+1,t,ds=>match P.underlying t with
  |some .bool=>∃ b,ds=[.bool b]
  |some (.int k)=>∃ m,ds=[.int k m]∧(Lit.int k m).wf=true
  |some .string=>∃ s,ds=[.str s]∧s.length≤B
  |some (.slice e)=>∃ rows:List (List D),ds=[.sl (P.cellsOf e) rows]∧rows.length≤B∧∀ r∈rows,r.length=P.cellsOf e∧q1q P B n e r
  |some (.struct fs)=>q7O P (q1q P B n) fs.toList ds
  |_=>False
theorem q81(T:TypeId→Bool)(Ty:TypeId→List D→Prop)(Q:DataW H→Prop)(g:TypeId→List Value→Option (DataW H×List MemPlace))
  (hT:∀ t cs x,T t=true→g t cs=some x→Q x.1→cs.length=P.cellsOf t→∃ ds,RepL w cs ds∧Ty t ds) (cs:List Value) :
  ∀(fs:List Field) (off:Nat) (xs:List (DataW H×List MemPlace)),q4d P T off fs=some cs.length→(fs.mapM fun f=>g f.type ((cs.drop f.offset).take (P.cellsOf f.type)))=some xs→(∀ x∈xs,Q x.1)→∃ ds,RepL w (cs.drop off) ds∧q7O P Ty fs ds
 |[],off,xs,hl,_,_=>by
  simp only[q4d,Option.some.injEq] at hl
  refine⟨[],⟨by simp [hl],fun j v d _ hd=>by simp at hd⟩,rfl⟩
 |f :: fs,off,xs,hl,hm,hQ=>by
  simp only[q4d] at hl
  split at hl
  case isFalse=>cases hl
  rename_i hc
  obtain⟨ho,ht⟩:=hc
  rw[List.mapM_cons] at hm
  cases hg:g f.type ((cs.drop f.offset).take (P.cellsOf f.type)) with
  |none=>rw[hg] at hm;cases hm
  |some x=>
   rw[hg] at hm
   cases hr:fs.mapM (fun f=>g f.type ((cs.drop f.offset).take (P.cellsOf f.type))) with
   |none=>rw[hr] at hm;cases hm
   |some ys=>
    rw[hr] at hm
    obtain rfl:x :: ys=xs:=Option.some.inj hm
    have hle:∀(fs:List Field) (off m:Nat),q4d P T off fs=some m→off≤m:=by
     intro fs
     induction fs with
     |nil=>intro off m h;simp only[q4d,Option.some.injEq] at h;omega
     |cons f fs ih=>
      intro off m h
      simp only[q4d] at h
      split at h
      ·have:=ih _ _ h;omega
      ·cases h
    have hb:=hle _ _ _ hl
    obtain⟨ds,h1,h2⟩:=q81 T Ty Q g hT cs fs _ ys hl hr (fun y hy=>hQ y (List.mem_cons_of_mem _ hy))
    have hlen:((cs.drop off).take (P.cellsOf f.type)).length=P.cellsOf f.type:=by
     rw[List.length_take,List.length_drop];omega
    rw[ho] at hg
    obtain⟨asq,h3,h4⟩:=hT f.type _ x ht hg (hQ x (by simp)) hlen
    refine⟨asq++ds,?_,asq,ds,rfl,by rw[h3.1];exact hlen,h4,h2⟩
    have:=h3.append h1
    rwa [←List.drop_drop,List.take_append_drop] at this
theorem q8l{bulk:DataW H→Nat}(hbk:BulkOk bulk){B:Nat}:∀(n fuel:Nat)(t:TypeId)(cs:List Value)(x:DataW H×List MemPlace),q4r P n t=true→DataW.trod enc P w 0 spare held fuel t cs=some x→bulk x.1≤B→∃ ds,RepL w cs ds∧q1q P B n t ds
 |0,_,_,_,_,h,_,_=>by simp [q4r] at h
 |_+1,0,_,_,_,_,h,_=>by simp [DataW.trod] at h
 |n+1,fuel+1,t,cs,x,hp,h,hB=>by
  simp only[q4r] at hp
  cases ht:P.underlying t with
  |none=>simp [ht] at hp
  |some d=>
   simp only[q1q,ht] at hp ⊢
   cases d with
   |bool=>
    have:∃ b,cs=[.bool b]:=by
     unfold DataW.trod at h
     simp only[ht] at h
     split at h <;> first|(exact⟨_,rfl⟩)|(simp_all;done)|(cases h;done)
    obtain⟨b,rfl⟩:=this
    exact⟨_,.one (.bool b),b,rfl⟩
   |int k=>
    have:∃ m,cs=[.int k m]∧(Lit.int k m).wf=true:=by
     unfold DataW.trod at h
     simp only[ht] at h
     split at h <;> first|(cases h;done)|skip
     all_goals(try(simp_all;done))
     all_goals(split at h <;> first|(cases h;done)|skip)
     all_goals(simp_all)
    obtain⟨m,rfl,hw⟩:=this
    exact⟨_,.one (.int k m),m,rfl,hw⟩
   |string=>
    obtain⟨s',h1,hx,hs⟩:=DataW.trod_string ht h
    subst h1
    refine⟨_,.one (.str s'),_,rfl,?_⟩
    have:=hbk.str s'.data.toList
    rw[hx] at hB
    exact Nat.le_trans this hB
   |slice e=>
    simp only[Bool.and_eq_true,decide_eq_true_eq] at hp
    rcases open_slice ht h with⟨rfl,_⟩|⟨a,len,cap,m,n',Dd,Pl,rfl,_,hlc,hcm,hm,hxx,hel⟩
    ·exact⟨_,.one (.sl0 none 0 (P.cellsOf e) (fun _=>rfl)),[],rfl,by simp,fun r hr=>by simp at hr⟩
    ·rw[hxx] at hB
     have hsl:=hbk.sl ((List.range len).map Dd) ((List.range (m - len)).map fun j=>Dd (len+j))
     have hlen':len≤B:=by
      have:=hsl.1
      rw[List.length_map,List.length_range] at this
      exact Nat.le_trans this hB
     have hpart:∀ i,i<len→bulk (Dd i)≤B:=fun i hi=>Nat.le_trans (hsl.2 _ (List.mem_map.2 ⟨i,List.mem_range.2 hi,rfl⟩)) hB
     have hml:len≤m:=by rw[hm];split <;> omega
     have q2q:∀ i,i<len→∃ ds,∃ cs',w.cells? 0 (a.add (i*P.cellsOf e)) (P.cellsOf e)=some cs'∧RepL w cs' ds∧q1q P B n e ds:=by
      intro i hi
      obtain⟨cs',h1,h2⟩:=hel i (by omega)
      obtain⟨ds,h3,h4⟩:=q8l hbk n n' e cs' _ hp.2 h2 (hpart i hi)
      exact⟨ds,cs',h1,h3,h4⟩
     obtain⟨rows,hr1,hr2⟩:=q83 len q2q
     have typed:∀ r∈rows,r.length=P.cellsOf e∧q1q P B n e r:=fun r hr=>by
      obtain⟨i,hi⟩:=List.getElem?_of_mem hr
      obtain⟨cs',h1,h3,h4⟩:=hr2 i r hi
      exact⟨by rw[h3.1,(q7s h1).1],h4⟩
     refine⟨[.sl (P.cellsOf e) rows],.one ?_,rows,rfl,by omega,typed⟩
     by_cases hz:len=0
     ·have:rows=[]:=List.eq_nil_of_length_eq_zero (by omega)
      subst this
      subst hz
      exact .sl0 (some a) cap _ (fun h=>by cases h)
     ·have h0:0<rows.length:=by omega
      obtain⟨cs0,g1,g2,_⟩:=hr2 0 rows[0] (List.getElem?_eq_getElem h0)
      obtain⟨c1,c2⟩:=q7s g1
      have hv:=c2 0 cs0[0] (List.getElem?_eq_getElem (by omega))
      simp only[Nat.zero_mul] at hv
      have hsp:a.spot=none:=by simpa [Addr.add] using World.cell?_spot hv
      have hblk:a.block<w.heap.size:=by
       unfold World.cell? at hv
       split at hv
       ·rename_i hh
        have:=(Array.getElem?_eq_some_iff.1 hh).1
        simpa [Addr.add] using this
       ·cases hv
      obtain⟨ab,ao,asq⟩:=a
      simp only at hsp hblk
      subst hsp
      have cellat:∀(i j:Nat) (r:List D) (d:D),rows[i]? = some r→r[j]? = some d→∃ v,w.cell? ⟨ab,ao+(i*P.cellsOf e+j),none⟩=some v∧RepD w (z2B w) v d:=by
       intro i j r d hi hj
       obtain⟨cs',h1,h3,_⟩:=hr2 i r hi
       have hjl:j<cs'.length:=by rw[←h3.1];exact(List.getElem?_eq_some_iff.1 hj).1
       refine⟨cs'[j],?_,h3.2 j _ d (List.getElem?_eq_getElem hjl) hj⟩
       have:=(q7s h1).2 j _ (List.getElem?_eq_getElem hjl)
       rw[add_lit,add_lit,Nat.add_assoc] at this
       exact this
      refine .sl ab ao len cap (P.cellsOf e) rows (fun i j=>(w.cell? ⟨ab,ao+(i*P.cellsOf e+j),none⟩).getD default) hr1 hlc hblk (fun r hr=>(typed r hr).1) (fun i j r d hi hj=>?_) (fun i j r d hi hj=>?_)
      ·obtain⟨v,hv,_⟩:=cellat i j r d hi hj
       rw[hv];rfl
      ·obtain⟨v,hv,hR⟩:=cellat i j r d hi hj
       rw[hv];exact hR
   |struct fs=>
    simp only[decide_eq_true_eq] at hp
    have hs:cs.length=P.cellsOf t∧∃ xs,(fs.toList.mapM fun f=>DataW.trod enc P w 0 spare held fuel f.type ((cs.drop f.offset).take (P.cellsOf f.type)))=some xs∧∀ y∈xs,bulk y.1≤B:=by
     unfold DataW.trod at h
     simp only[ht] at h
     split at h
     ·rename_i hl
      simp only[Option.map_eq_some_iff] at h
      obtain⟨xs,hx,hxe⟩:=h
      subst hxe
      exact⟨hl,xs,hx,fun y hy=>Nat.le_trans (hbk.agg _ y.1 (List.mem_map.2 ⟨y,hy,rfl⟩)) hB⟩
     ·cases h
    obtain⟨hl,xs,hx,hxb⟩:=hs
    obtain⟨ds,h1,h2⟩:=q81 (q4r P n) (q1q P B n) (fun d=>bulk d≤B) (fun t cs=>DataW.trod enc P w 0 spare held fuel t cs) (fun t cs x hp h hq _=>q8l hbk n fuel t cs x hp h hq) cs fs.toList 0 xs (by rw[hl];exact hp) hx hxb
    exact⟨ds,by simpa using h1,h2⟩
   |_=>simp at hp
theorem q6T{bulk:DataW H→Nat}(hbk:BulkOk bulk){B:Nat}{n:Nat}{t:TypeId}{v:Value}{d:DataW H}{ps:List MemPlace}{r:Reach}{b0 base:Nat}(hB:bulk d≤B)(hp:q4r P n t=true)(hv:Value.okWide P w r b0 t v)(h:DataW.Trod enc P w 0 spare held t v d ps) :
  ∃ ds,q1q P B n t ds∧RepV w (z2B w) base (fun _=>none) v (argV (z3F P t) ds):=by
 obtain⟨fuel,h⟩:=h
 obtain⟨ds,h1,h2⟩:=q8l hbk n fuel t v.cells.toList _ hp h hB
 refine⟨ds,h2,?_⟩
 cases n with
 |zero=>simp [q4r] at hp
 |succ n=>
  simp only[q4r] at hp
  cases ht:P.underlying t with
  |none=>simp [ht] at hp
  |some td=>
   simp only[ht] at hp
   have ha:z3F P t=q3s td:=by simp [z3F,ht]
   cases td with
   |struct fs=>
    simp only[Value.okWide,ht] at hv
    obtain⟨cs,rfl,_,_⟩:=hv
    rw[ha]
    simp only[q3s,argV,if_true]
    have hlen:ds.length=cs.size:=by simpa [Value.cells] using h1.1
    refine .agg _ _ (by simp [hlen]) (fun j u x hu hx=>?_) (fun u hu=>?_)
    ·simp only[List.getElem?_map,Option.map_eq_some_iff] at hx
     obtain⟨y,hy,rfl⟩:=hx
     exact .d _ _ _ (h1.2 j u y (by simpa [Value.cells] using hu) hy)
    ·obtain⟨j,hj⟩:=Array.getElem?_of_mem hu
     have hjl:j<ds.length:=by rw[hlen];exact(Array.getElem?_eq_some_iff.1 hj).1
     exact(h1.2 j u _ (by simpa [Value.cells] using hj) (List.getElem?_eq_getElem hjl)).oneCell
   |bool=>
    simp only[q1q,ht] at h2
    obtain⟨b,rfl⟩:=h2
    have hag:∀ cs,v≠.agg cs:=by rintro cs rfl;simp [Value.okWide,ht,Cell.okWide,Cell.ok] at hv
    rw[ha]
    exact z3Q hag h1
   |int k=>
    simp only[q1q,ht] at h2
    obtain⟨m,rfl,_⟩:=h2
    have hag:∀ cs,v≠.agg cs:=by rintro cs rfl;simp [Value.okWide,ht,Cell.okWide,Cell.ok] at hv
    rw[ha]
    exact z3Q hag h1
   |string=>
    simp only[q1q,ht] at h2
    obtain⟨m,rfl,_⟩:=h2
    have hag:∀ cs,v≠.agg cs:=by rintro cs rfl;simp [Value.okWide,ht,Cell.okWide,Cell.ok] at hv
    rw[ha]
    exact z3Q hag h1
   |slice e=>
    simp only[q1q,ht] at h2
    obtain⟨m,rfl,_⟩:=h2
    have hag:∀ cs,v≠.agg cs:=by rintro cs rfl;simp [Value.okWide,ht,Cell.okWide,Cell.ok] at hv
    rw[ha]
    exact z3Q hag h1
   |_=>simp at hp
end Go.Vm
end

section
namespace Go.Vm
open Go.Proofs
set_option maxRecDepth 100000
theorem q6d{α:Type}{e:α→List D}{Q:α→Prop}:∀ rows:List (List D),(∀ r∈rows,∃ x,r=e x∧Q x)→∃ l:List α,rows=l.map e∧∀ x∈l,Q x
 |[],_=>⟨[],rfl,fun x h=>by simp at h⟩
 |r :: rows,h=>by
  obtain⟨x,h1,h2⟩:=h r (by simp)
  obtain⟨l,h3,h4⟩:=q6d rows (fun r hr=>h r (List.mem_cons_of_mem _ hr))
  exact⟨x :: l,by rw[h1,h3];rfl,fun y hy=>by
   rcases List.mem_cons.1 hy with rfl|hy
   ·exact h2
   ·exact h4 y hy⟩
theorem j3d:Tryz.prog.cellsOf 62=2:=by kernel_rfl
theorem j3f:Tryz.prog.cellsOf 50=3:=by kernel_rfl
def I64(n:Int):Prop:=-9223372036854775808≤n∧n≤9223372036854775807
theorem j4g{n:Int}(h:(Lit.int .i64 n).wf=true):I64 n:=by
 simp only[Lit.wf,Bool.and_eq_true,decide_eq_true_eq] at h
 have e1:IntKind.i64.min=-9223372036854775808:=by decide
 have e2:IntKind.i64.max=9223372036854775807:=by decide
 rw[e1,e2] at h
 exact h
theorem j3e:Tryz.prog.cellsOf 53=3:=by kernel_rfl
structure InI(x:Instr):Prop where
 op:I64 x.op
 a:I64 x.a
 b:I64 x.b
structure InS(s:Shape):Prop where
 name:(s.name.length:Int)≤9223372036854775807
 fields:I64 s.fields
structure InG(g:Glob):Prop where
 name:(g.name.length:Int)≤9223372036854775807
 arity:I64 g.arity
 len:(g.code.length:Int)≤9223372036854775807
 code:∀ x∈g.code,InI x
structure InT(t:Table):Prop where
 sl:(t.shapes.length:Int)≤9223372036854775807
 gl:(t.globals.length:Int)≤9223372036854775807
 shapes:∀ s∈t.shapes,InS s
 globals:∀ g∈t.globals,InG g
theorem InT.ok{t:Table}(h:InT t):TabOk t:=
 ⟨h.sl,h.gl,fun g hg=>(h.globals g hg).len,fun s hs=>(h.shapes s hs).name,fun g hg=>(h.globals g hg).name,fun g hg x hx=>((h.globals g hg).code x hx).a.2⟩
theorem j2g:q4r Tryz.prog 6 25=true:=by kernel_rfl
theorem j1p:q4r Tryz.prog 1 3=true:=by kernel_rfl
end Go.Vm
end
