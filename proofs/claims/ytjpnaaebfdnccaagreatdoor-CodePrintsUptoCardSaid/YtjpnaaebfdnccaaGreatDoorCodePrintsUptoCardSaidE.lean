/-
  CodePrints comes to true, whatever the tables (of bulk at most 1048576); the input reads as it did.
  Conditions: the listed package-level tables read as the program's text lays them (tied by the card).
-/
import Derived.Test.YtjpnaaebfdnccaaGreatDoorCodePrintsUptoCardSaidD
import Derived.Lib.Replace
import Derived.Shelf.Strings.Replace
import Derived.Test.YtjpnaaebfdnccaaGreatDoorChecked
import Derived.Deep.Slices
import Derived.DataReads
import Derived.KernelRfl
import Derived.Test.YtjpnaaebfdnccaaGreatDoorRows
import Derived.ProofKit
import Derived.OpenShut
import Derived.Deep.DeepHandedRow
import Derived.Lib.LaidTab
import Derived.Lib.LaidIn
import Derived.ChangeMaps5
import Derived.LaidHandle
import Derived.Test.YtjpnaaebfdnccaaGreatDoorCards
import Derived.Test.YtjpnaaebfdnccaaGreatDoorTie
set_option linter.unusedVariables false
set_option linter.unusedSimpArgs false

section
namespace Go.Vm
def z1m(r:Int):Ex×S:=if r=0 then(.exit 2,⟨[],[],0,[]⟩) else(.ret,⟨[(4,.d false (.int .i64 r))],[],0,[]⟩)
theorem z1l:z1m 0=(.exit 2,⟨[],[],0,[]⟩):=rfl
theorem q12:z1m 173=(.ret,⟨[(4,.d false (.int .i64 173))],[],0,[]⟩):=rfl
theorem q5a:z1m 174=(.ret,⟨[(4,.d false (.int .i64 174))],[],0,[]⟩):=rfl
set_option maxHeartbeats 4000000 in
theorem z7E(K:Cx)(h42:K42 K)(h43:K43 K)(sh:List Shape)(gl:List Glob)(nm:List UInt8)(ar:Int)(cd:List Instr)(hl:cd.length≤8000)(hs:ShOk sh)(hn:∀ i:Nat,i<cd.length→NumOk sh.length cd.length i (nth cd i))(hw:∀ x∈cd,x.a≤9223372036854775807) :
   ∀(k i:Nat) (c:Bool) (Dp:List Int),i+k=cd.length→Dp.length=cd.length→DpOk Dp→
    lp K 0 [2,3,11,78,79,80] f37_L1 ⟨[(2,.ptr 0 0 0),(3,.ptr 1 0 0),(11,.bsl 2 0 cd.length),(78,.d false (.sl 3 (cd.map q0j))),(79,.d false (.int .i64 cd.length)),(80,.d false (.int .i64 i))],
      [(0,.mix 2 [[.d false (.sl 2 (sh.map q0c)),.d false (.sl 3 (gl.map q0l))]]),(1,.mix 3 [[.d false (.str nm),.d false (.int .i64 ar),.d false (.sl 3 (cd.map q0j))]]),(2,.dat c 1 (Dp.map eInt))],3,[]⟩ =
    some (z1m (depL sh cd k i Dp)):=by
  intro k
  induction k with
  |zero=>
    intro i c Dp hi hD hok
    rw[q0I f37_L1.eq_1]
    simp(disch:=first|decide|omega|(simp only[LN];first|done|omega)) only[SV,SW,Nat.reduceBEq,depL,z1l]
  |succ k ih=>
    intro i c Dp hi hD hok
    have hcast:((i+1:Nat):Int)=(i:Int)+1:=by omega
    have hlt:i<cd.length:=by omega
    have hx0:=hn i hlt
    have hw0:=hw (nth cd i) (q1h (by omega) (by omega))
    have hdr:=hok (nth Dp i) (q1h (by omega) (by omega))
    rw[q0I f37_L1.eq_1]
    simp only[depL]
    generalize hx:nth cd (i:Int)=x at hx0 hw0
    generalize hd:nth Dp (i:Int)=d at hdr
    by_cases g0:d=0
    · subst g0
      rw[if_pos rfl]
      (try clear hj);(try clear ht);(try clear hok1);(try clear hok2);(try clear hn);(try clear hs);(try clear hok);(try clear hx0);(try clear hst);(try clear hxe);(try clear gt);(try clear n13);(try clear n16);(try clear n17);(try clear g0);(try clear hop);(try clear hw0);(try clear gg)
      simp(disch:=first|decide|omega|(simp only[LN];first|done|omega)) only[SV,SW,Nat.reduceBEq,Nat.reduceAdd,hx,q0e,lose,hd,q0q,q5a]
    rw[if_neg g0]
    have b0:(d==0)=false:=by simpa using g0
    have hrg0:=fun h=>q4d (d:=d) hs hx0 (by omega) h
    have hc:=h42 sh gl x.op x.a x.b d (by omega) (by have h1:=hx0.cnt;have h2:=hx0.upd;omega) (fun ho=>⟨(hx0.con ho).1,(hx0.con ho).2,hs _ (q1h (hx0.con ho).1 (hx0.con ho).2)⟩)
    have hxe:(⟨x.op,x.a,x.b⟩:Instr)=x:=rfl
    rw[hxe] at hc
    generalize hst:q0t sh x d=r at hc hrg0
    obtain⟨bh,okb⟩:=r
    simp only at hc hrg0 ⊢
    cases okb with
    |false=>
      rw[if_pos rfl]
      (try clear hj);(try clear ht);(try clear hok1);(try clear hok2);(try clear hn);(try clear hs);(try clear hok);(try clear hx0);(try clear hst);(try clear hxe);(try clear gt);(try clear n13);(try clear n16);(try clear n17);(try clear g0);(try clear hop);(try clear hw0);(try clear gg)
      simp(disch:=first|decide|omega|(simp only[LN];first|done|omega)) only[SV,SW,Nat.reduceBEq,Nat.reduceAdd,hx,q0e,lose,hd,q0q,b0,q0d,hc,q12]
    |true=>
      rw[if_neg (by simp)]
      have hrg:=hrg0 rfl
      clear hrg0
      have hj:=hx0.jmp
      have ht:=hx0.tst
      have ih:=fun c Dp=>ih (i+1) c Dp (by omega)
      rw[hcast] at ih
      by_cases gg:q6M x=true
      · rw[if_pos gg]
        have⟨n13,n16,n17⟩:x.op≠13∧x.op≠16∧x.op≠17:=by
          simp [q6M] at gg;omega
        have b13:(x.op != 13)=true:=by simpa using n13
        have b16:(x.op != 16)=true:=by simpa using n16
        have b17:(x.op != 17)=true:=by simpa using n17
        have c13:(x.op==13)=false:=by simpa using n13
        by_cases gl1:(i:Int)+1=cd.length
        · rw[if_pos gl1]
          have bl1:((i:Int)+1==(cd.length:Int))=true:=by simpa using gl1
          (try clear hj);(try clear ht);(try clear hok1);(try clear hok2);(try clear hn);(try clear hs);(try clear hok);(try clear hx0);(try clear hst);(try clear hxe);(try clear gt);(try clear n13);(try clear n16);(try clear n17);(try clear g0);(try clear hop);(try clear hw0);(try clear gg)
          simp(disch:=first|decide|omega|(simp only[LN];first|done|omega)) only[SV,SW,Nat.reduceBEq,Nat.reduceAdd,hx,q0e,lose,hd,q0q,b0,q0d,hc,b13,b16,b17,bl1,q5a]
        · rw[if_neg gl1]
          have bl1:((i:Int)+1==(cd.length:Int))=false:=by simpa using gl1
          have gl2:(i:Int)+1<cd.length:=by omega
          clear gl1
          have he:=h43 false Dp (i+1) bh cd.length (by omega) hD.symm
          have hlen1:=q1W Dp (i+1) bh
          have hok1:DpOk (q0L Dp (i+1) bh):=q2F hok (by omega)
          generalize hrb:q1g Dp (i+1) bh=rb at he
          generalize q0L Dp (i+1) bh=D1 at he hlen1 hok1
          cases rb with
          |false=>
            rw[if_pos rfl]
            (try clear hj);(try clear ht);(try clear hok1);(try clear hok2);(try clear hn);(try clear hs);(try clear hok);(try clear hx0);(try clear hst);(try clear hxe);(try clear gt);(try clear n13);(try clear n16);(try clear n17);(try clear g0);(try clear hop);(try clear hw0);(try clear gg)
            simp(disch:=first|decide|omega|(simp only[LN];first|done|omega)) only[SV,SW,Nat.reduceBEq,Nat.reduceAdd,hx,q0e,lose,hd,q0q,b0,q0d,hc,b13,b16,b17,bl1,q3e,he,q3I,Nat.reduceSub,q12]
          |true=>
            rw[if_neg (by simp)]
            by_cases gt:x.op=14∨x.op=15
            · have ht:=ht gt
              have hti:q2l x=x.b:=by simp only[q2l];rw[if_neg n13,if_pos gt]
              rw[hti,if_pos (by omega)]
              have he2:=h43 false D1 x.b bh cd.length (by omega) (by omega)
              have hlen2:=q1W D1 x.b bh
              have hok2:DpOk (q0L D1 x.b bh):=q2F hok1 (by omega)
              generalize hrb2:q1g D1 x.b bh=rb2 at he2
              generalize q0L D1 x.b bh=D2 at he2 hlen2 hok2
              have hpos:0<x.b:=by omega
              have ih:=ih false D2 (by omega) hok2
              (try clear hj);(try clear ht);(try clear hok1);(try clear hok2);(try clear hn);(try clear hs);(try clear hok);(try clear hx0);(try clear hst);(try clear hxe);(try clear n13);(try clear n16);(try clear n17);(try clear g0);(try clear hop);(try clear hw0);(try clear gg)
              by_cases g14:x.op=14
              · have c14:(x.op==14)=true:=by simpa using g14
                clear g14 gt
                cases rb2 with
                |false=>
                  rw[if_pos rfl]
                  simp(disch:=first|decide|omega|(simp only[LN];first|done|omega)) only[SV,SW,Nat.reduceBEq,Nat.reduceAdd,hx,q0e,lose,hd,q0q,b0,q0d,hc,b13,b16,b17,bl1,q3e,he,q3I,Nat.reduceSub,c13,c14,he2,q12]
                |true=>
                  rw[if_neg (by simp)]
                  simp(disch:=first|decide|omega|(simp only[LN];first|done|omega)) only[SV,SW,Nat.reduceBEq,Nat.reduceAdd,hx,q0e,lose,hd,q0q,b0,q0d,hc,b13,b16,b17,bl1,q3e,he,q3I,Nat.reduceSub,c13,c14,he2,reduceCtorEq,Nat.reduceEqDiff]
                  exact ih
              · have c14:(x.op==14)=false:=by simpa using g14
                have c15:(x.op==15)=true:=by simpa using gt.resolve_left g14
                clear g14 gt
                cases rb2 with
                |false=>
                  rw[if_pos rfl]
                  simp(disch:=first|decide|omega|(simp only[LN];first|done|omega)) only[SV,SW,Nat.reduceBEq,Nat.reduceAdd,hx,q0e,lose,hd,q0q,b0,q0d,hc,b13,b16,b17,bl1,q3e,he,q3I,Nat.reduceSub,c13,c14,c15,he2,q12]
                |true=>
                  rw[if_neg (by simp)]
                  simp(disch:=first|decide|omega|(simp only[LN];first|done|omega)) only[SV,SW,Nat.reduceBEq,Nat.reduceAdd,hx,q0e,lose,hd,q0q,b0,q0d,hc,b13,b16,b17,bl1,q3e,he,q3I,Nat.reduceSub,c13,c14,c15,he2,reduceCtorEq,Nat.reduceEqDiff]
                  exact ih
            · have hti:q2l x=0:=by simp only[q2l];rw[if_neg n13,if_neg gt]
              rw[hti,if_neg (by omega)]
              have ih:=ih false D1 (by omega) hok1
              have c14:(x.op==14)=false:=by simp;omega
              have c15:(x.op==15)=false:=by simp;omega
              clear gt
              (try clear hj);(try clear ht);(try clear hok1);(try clear hok2);(try clear hn);(try clear hs);(try clear hok);(try clear hx0);(try clear hst);(try clear hxe);(try clear n13);(try clear n16);(try clear n17);(try clear g0);(try clear hop);(try clear hw0);(try clear gg)
              simp(disch:=first|decide|omega|(simp only[LN];first|done|omega)) only[SX,SW,Nat.reduceBEq,Nat.reduceAdd,hx,q0e,lose,hd,q0q,b0,q0d,hc,b13,b16,b17,bl1,q8z,he,q3I,Nat.reduceSub,c13,c14,c15,reduceCtorEq,Nat.reduceEqDiff]
              exact ih
      · rw[if_neg gg]
        have hop:x.op=13∨x.op=16∨x.op=17:=by
          simp [q6M] at gg;omega
        by_cases g13:x.op=13
        · have hj:=hj g13
          have hti:q2l x=x.a:=by simp only[q2l];rw[if_pos g13]
          rw[hti,if_pos (by omega)]
          have he2:=h43 false Dp x.a bh cd.length (by omega) (by omega)
          have hlen2:=q1W Dp x.a bh
          have hok2:DpOk (q0L Dp x.a bh):=q2F hok (by omega)
          generalize hrb2:q1g Dp x.a bh=rb2 at he2
          generalize q0L Dp x.a bh=D2 at he2 hlen2 hok2
          rw[g13] at hc
          cases rb2 with
          |false=>
            rw[if_pos rfl]
            (try clear hj);(try clear ht);(try clear hok1);(try clear hok2);(try clear hn);(try clear hs);(try clear hok);(try clear hx0);(try clear hst);(try clear hxe);(try clear gt);(try clear n13);(try clear n16);(try clear n17);(try clear g0);(try clear hop);(try clear hw0);(try clear gg)
            simp(disch:=first|decide|omega|(simp only[LN];first|done|omega)) only[SX,SW,Nat.reduceBEq,Nat.reduceAdd,hx,q0e,g13,lose,hd,q0q,b0,q0d,hc,q8z,he2,q3I,Nat.reduceSub,q12]
          |true=>
            rw[if_neg (by simp)]
            have ih:=ih false D2 (by omega) hok2
            (try clear hj);(try clear ht);(try clear hok1);(try clear hok2);(try clear hn);(try clear hs);(try clear hok);(try clear hx0);(try clear hst);(try clear hxe);(try clear gt);(try clear n13);(try clear n16);(try clear n17);(try clear g0);(try clear hop);(try clear hw0);(try clear gg)
            simp(disch:=first|decide|omega|(simp only[LN];first|done|omega)) only[SX,SW,Nat.reduceBEq,Nat.reduceAdd,hx,q0e,g13,lose,hd,q0q,b0,q0d,hc,q8z,he2,q3I,Nat.reduceSub,reduceCtorEq,Nat.reduceEqDiff]
            exact ih
        · have hti:q2l x=0:=by simp only[q2l];rw[if_neg g13,if_neg (by omega)]
          rw[hti,if_neg (by omega)]
          have ih:=ih c Dp hD hok
          by_cases g16:x.op=16
          · rw[g16] at hc
            (try clear hj);(try clear ht);(try clear hok1);(try clear hok2);(try clear hn);(try clear hs);(try clear hok);(try clear hx0);(try clear hst);(try clear hxe);(try clear gt);(try clear n13);(try clear n16);(try clear n17);(try clear g0);(try clear hop);(try clear hw0);(try clear gg)
            simp(disch:=first|decide|omega|(simp only[LN];first|done|omega)) only[SX,SW,Nat.reduceBEq,Nat.reduceAdd,hx,q0e,g16,lose,hd,q0q,b0,q0d,hc,q8z,reduceCtorEq,Nat.reduceEqDiff]
            exact ih
          · have g17:x.op=17:=by omega
            rw[g17] at hc
            (try clear hj);(try clear ht);(try clear hok1);(try clear hok2);(try clear hn);(try clear hs);(try clear hok);(try clear hx0);(try clear hst);(try clear hxe);(try clear gt);(try clear n13);(try clear n16);(try clear n17);(try clear g0);(try clear hop);(try clear hw0);(try clear gg)
            simp(disch:=first|decide|omega|(simp only[LN];first|done|omega)) only[SX,SW,Nat.reduceBEq,Nat.reduceAdd,hx,q0e,g17,lose,hd,q0q,b0,q0d,hc,q8z,reduceCtorEq,Nat.reduceEqDiff]
            exact ih
theorem z0Z{ng ns nc:Int}{cd:List Instr}:∀(k i:Nat),q1S ng ns nc cd k i=0→∀ j:Nat,i≤j→j<i+k→q5A ng ns nc j (nth cd j)=0:=by
  intro k
  induction k with
  |zero=>intro i _ j h1 h2;omega
  |succ k ih=>
    intro i h j h1 h2
    simp only[q1S] at h
    split at h
    · rename_i h0
      by_cases hj:j=i
      · subst hj;exact h0
      · exact ih (i+1) h j (by omega) (by omega)
    · rename_i h0
      exact absurd h h0
theorem z1n(sh:List Shape)(cd:List Instr):∀(k i:Nat)(Dp:List Int),depL sh cd k i Dp=0∨depL sh cd k i Dp=173∨depL sh cd k i Dp=174:=by
  intro k
  induction k with
  |zero=>intro i Dp;exact .inl rfl
  |succ k ih=>
    intro i Dp
    simp only[depL]
    repeat' split
    all_goals first|exact ih _ _|simp
theorem z4g(ng ns nc:Int)(cd:List Instr):∀(k i:Nat),q1S ng ns nc cd k i=0∨q1S ng ns nc cd k i=172∨q1S ng ns nc cd k i=174:=by
  intro k
  induction k with
  |zero=>intro i;exact .inl rfl
  |succ k ih=>
    intro i
    simp only[q1S]
    split
    · exact ih _
    · unfold q5A
      split
      · simp only
        split
        · simp
        · split <;> simp
      · simp
set_option maxHeartbeats 4000000 in
theorem q9t(K:Cx)(h40:K40 K)(h41:K41 K)(h42:K42 K)(h43:K43 K)(sh:List Shape)(gl:List Glob)(g:Glob)(hs:ShOk sh)(hl:g.code.length≤8000)(ha:0≤g.arity∧g.arity≤24)(hw:∀ x∈g.code,x.a≤9223372036854775807) :
    q0o K f37 [.agg [.d false (.sl 2 (sh.map q0c)),.d false (.sl 3 (gl.map q0l))],.agg [.d false (.str g.name),.d false (.int .i64 g.arity),.d false (.sl 3 (g.code.map q0j))]] []=some (.d false (.int .i64 (q1l gl.length sh g)),[],[]):=by
  obtain⟨nm,ar,cd⟩:=g
  simp only at hl ha hw ⊢
  have l0:=z4f K h40 h41 sh gl nm ar cd hl cd.length 0 (by omega)
  simp only[Int.natCast_zero] at l0
  unfold q1l
  simp only
  have nv:=z4g gl.length sh.length cd.length cd cd.length 0
  cases hz:decide (q1S gl.length sh.length cd.length cd cd.length 0=0) with
  |false=>
    have hz:¬ q1S gl.length sh.length cd.length cd cd.length 0=0:=by simpa using hz
    rw[if_neg hz]
    generalize q1S gl.length sh.length cd.length cd cd.length 0=r at l0 hz nv
    rcases nv with rfl|rfl|rfl
    · exact absurd rfl hz
    · rw[q3T] at l0
      simp(disch:=first|decide|omega|(simp only[LN];first|done|omega)) only[SV,SW,f37,Nat.reduceAdd,Nat.reduceBEq,reduceCtorEq,l0,q0b]
    · rw[q6m] at l0
      simp(disch:=first|decide|omega|(simp only[LN];first|done|omega)) only[SV,SW,f37,Nat.reduceAdd,Nat.reduceBEq,reduceCtorEq,l0,q0b]
  |true=>
    have hz:q1S gl.length sh.length cd.length cd cd.length 0=0:=by simpa using hz
    rw[if_pos hz]
    rw[hz,q85] at l0
    by_cases hc:cd.length=0
    · rw[if_pos hc]
      have hc0:((cd.length:Int)==0)=true:=by simpa using hc
      clear hz nv hw hc
      simp(disch:=first|decide|omega|(simp only[LN];first|done|omega)) only[SV,SW,f37,Nat.reduceAdd,Nat.reduceBEq,reduceCtorEq,l0,hc0,q0b]
    · rw[if_neg hc]
      have hok:=fun(i:Nat) (hi:i<cd.length)=>z0Y (z0Z cd.length 0 hz i (by omega) (by omega))
      have l1:=z7E K h42 h43 sh gl nm ar cd hl hs hok hw cd.length 0 true ((List.replicate cd.length 0).set 0 (ar+1)) (by omega) (by simp) (by
        intro v hv
        rcases List.mem_or_eq_of_mem_set hv with h|h
        · have:=List.eq_of_mem_replicate h;omega
        · omega)
      simp only[Int.natCast_zero] at l1
      have dv:=z1n sh cd cd.length 0 ((List.replicate cd.length 0).set 0 (ar+1))
      generalize hr:depL sh cd cd.length 0 ((List.replicate cd.length 0).set 0 (ar+1))=r at l1 dv
      have hc0:((cd.length:Int)==0)=false:=by simpa using hc
      have hpos:0<cd.length:=by omega
      clear hok hw nv hz hr hc
      rcases dv with rfl|rfl|rfl
      · rw[z1l] at l1
        simp(disch:=first|decide|omega|(simp only[LN];first|done|omega)) only[SV,SW,f37,Nat.reduceAdd,Nat.reduceBEq,reduceCtorEq,l0,hc0,q75,z2v,Int.toNat_zero,q0q,q6Q,lose,Nat.reduceEqDiff,l1,q0b]
      · rw[q12] at l1
        simp(disch:=first|decide|omega|(simp only[LN];first|done|omega)) only[SV,SW,f37,Nat.reduceAdd,Nat.reduceBEq,reduceCtorEq,l0,hc0,q75,z2v,Int.toNat_zero,q0q,q6Q,lose,Nat.reduceEqDiff,l1,q0b]
      · rw[q5a] at l1
        simp(disch:=first|decide|omega|(simp only[LN];first|done|omega)) only[SV,SW,f37,Nat.reduceAdd,Nat.reduceBEq,reduceCtorEq,l0,hc0,q75,z2v,Int.toNat_zero,q0q,q6Q,lose,Nat.reduceEqDiff,l1,q0b]
end Go.Vm
end

section
namespace Go.Vm
/- 'sloth/slothref17.numbers' -/
def f41_L0:C:= (.seq (.seq (.reg [⟨[],[(12,(.bin .lss (.sl 5) (.len false (.sl 1))))],[],none,[1,2,5],4,[],[],[]⟩]) (.cond (.sl 12) .skip (.seq (.tidy 0 [1]) (.exit 0)))) (.seq (.block 1 (.seq (.reg [⟨[],[(6,(.call 28 (.cons (.ld 2 true (.sl 2)) (.cons (.ld 3 true (.ia 3 (.sl 1) (.sl 5))) .nil))))],[],none,[1,2,5],7,[[],[],[],[2,1],[1,2,3],[3,2,1,4,0],[0,4,1,2,3,5]],[],[]⟩]) (.seq (.seq (.reg [⟨[],[(22,(.un .not (.sl 6)))],[],none,[1,2,5],2,[],[],[]⟩]) (.cond (.sl 22) (.seq (.reg [⟨[],[(4,(.int .i64 172))],[],none,[],1,[],[],[]⟩]) (.seq (.tidy 0 [4]) .ret)) .skip)) (.seq (.reg [⟨[],[(7,(.call 84 (.cons (.ld 3 true (.ia 3 (.sl 1) (.sl 5))) .nil)))],[],none,[1,2,5],6,[],[],[]⟩]) (.seq (.reg [⟨[],[(8,(.call 32 (.cons (.ld 3 true (.ia 3 (.sl 1) (.sl 5))) .nil)))],[],none,[1,2,5,7],6,[],[],[]⟩]) (.seq (.reg [⟨[],[(44,(.and (.sl 7) (.or (.bin .leq (.sl 8) (.sl 5)) (.bin .geq (.sl 8) (.len false (.sl 1))))))],[],none,[1,2,5],12,[],[],[]⟩]) (.cond (.sl 44) (.seq (.reg [⟨[],[(4,(.int .i64 174))],[],none,[],1,[],[],[]⟩]) (.seq (.tidy 0 [4]) .ret)) .skip))))))) (.reg [⟨[],[(5,(.bin .add (.sl 5) (.int .i64 1)))],[],none,[1,2],3,[],[],[]⟩])))
def f41:Fun:=⟨ (.seq (.reg [⟨[(2,.box (.sl 0))],[],[(.int .i64 0)],none,[1,2],2,[],[],[]⟩]) (.seq (.seq (.reg [⟨[],[(5,(.int .i64 0))],[],none,[1,2],1,[],[],[]⟩]) (.block 0 (.seq (.tidy 0 [1,2,5]) (.loop (.seq (.tidy 0 [1,2,5]) f41_L0))))) (.seq (.seq (.reg [⟨[],[(47,(.bin .eql (.len false (.sl 1)) (.int .i64 0)))],[],none,[],3,[],[],[]⟩]) (.cond (.sl 47) (.seq (.reg [⟨[],[(4,(.int .i64 174))],[],none,[],1,[],[],[]⟩]) (.seq (.tidy 0 [4]) .ret)) .skip)) (.seq (.reg [⟨[],[(4,(.int .i64 0))],[],none,[],1,[],[],[]⟩]) (.seq (.tidy 0 [4]) .ret))))), [(.sl 4)],false⟩
theorem j1l:q0J Go.Proofs.Tryz.prog 41 0 2 f41=true:=by kernel_rfl
/- 'sloth/slothref17.Depths' -/
def f42_L0:C:= (.seq (.seq (.reg [⟨[],[(28,(.bin .lss (.sl 7) (.len false (.ld 1 false (.fa 2 (.sl 3))))))],[],none,[2,3,6,7],5,[],[],[]⟩]) (.cond (.sl 28) .skip (.seq (.tidy 0 [6]) (.exit 0)))) (.seq (.block 1 (.seq (.reg [⟨[(8,.box (.agg (.cons (.int .i64 0) (.cons (.int .i64 0) (.cons (.int .i64 0) .nil)))))],[],[],some (none,.store 3 (.sl 8) (.ld 3 true (.ia 3 (.ld 1 false (.fa 2 (.sl 3))) (.sl 7)))),[2,3,6,7,8],7,[],[],[]⟩]) (.seq (.reg [⟨[],[(9,(.ld 1 false (.ia 1 (.sl 6) (.sl 7))))],[],none,[2,3,6,7,8],5,[],[],[]⟩]) (.seq (.seq (.reg [⟨[],[(41,(.bin .eql (.sl 9) (.int .i64 0)))],[],none,[2,3,6,7,8,9],2,[],[],[]⟩]) (.cond (.sl 41) (.seq (.reg [⟨[],[(4,(.sl 6)),(5,(.int .i64 174))],[],none,[],3,[],[],[]⟩]) (.seq (.tidy 0 [4,5]) .ret)) .skip)) (.seq (.reg [⟨[],[(10,(.call 29 (.cons (.ld 2 true (.sl 2)) (.cons (.ld 3 true (.sl 8)) (.cons (.sl 9) .nil)))))],[],none,[2,3,6,7,8,9],5,[],[],[]⟩]) (.seq (.seq (.reg [⟨[],[(48,(.un .not (.sl 10)))],[],none,[2,3,6,7,8,9],2,[],[],[]⟩]) (.cond (.sl 48) (.seq (.reg [⟨[],[(4,(.sl 6)),(5,(.int .i64 173))],[],none,[],3,[],[],[]⟩]) (.seq (.tidy 0 [4,5]) .ret)) .skip)) (.seq (.reg [⟨[],[(11,(.call 31 (.cons (.ld 2 true (.sl 2)) (.cons (.ld 3 true (.sl 8)) (.cons (.sl 9) .nil)))))],[],none,[2,3,6,7,8],5,[],[],[]⟩]) (.seq (.seq (.reg [⟨[],[(55,(.bin .gtr (.sl 11) (.int .i64 8000)))],[],none,[2,3,6,7,8,11],2,[],[],[]⟩]) (.cond (.sl 55) (.seq (.reg [⟨[],[(4,(.sl 6)),(5,(.int .i64 173))],[],none,[],3,[],[],[]⟩]) (.seq (.tidy 0 [4,5]) .ret)) .skip)) (.seq (.reg [⟨[],[(12,(.call 30 (.cons (.ld 3 true (.sl 8)) .nil)))],[],none,[2,3,6,7,8,11],3,[],[],[]⟩]) (.seq (.reg [⟨[],[(13,(.call 32 (.cons (.ld 3 true (.sl 8)) .nil)))],[],none,[2,3,6,7,8,11,12],3,[],[],[]⟩]) (.seq (.reg [⟨[],[(14,(.and (.un .not (.sl 12)) (.bin .neq (.ld 1 false (.fa 0 (.sl 8))) (.int .i64 13))))],[],none,[2,3,6,7,11,13],8,[],[],[]⟩]) (.seq (.seq (.reg [⟨[],[(76,(.and (.sl 14) (.bin .geq (.bin .add (.sl 7) (.int .i64 1)) (.len false (.ld 1 false (.fa 2 (.sl 3)))))))],[],none,[2,3,6,7,11,13,14],9,[],[],[]⟩]) (.cond (.sl 76) (.seq (.reg [⟨[],[(4,(.sl 6)),(5,(.int .i64 174))],[],none,[],3,[],[],[]⟩]) (.seq (.tidy 0 [4,5]) .ret)) .skip)) (.seq (.seq (.reg [⟨[],[(95,(.and (.and (.sl 14) (.bin .neq (.ld 1 false (.ia 1 (.sl 6) (.bin .add (.sl 7) (.int .i64 1)))) (.int .i64 0))) (.bin .neq (.ld 1 false (.ia 1 (.sl 6) (.bin .add (.sl 7) (.int .i64 1)))) (.sl 11))))],[],none,[2,3,6,7,11,13,14],18,[],[],[]⟩]) (.cond (.sl 95) (.seq (.reg [⟨[],[(4,(.sl 6)),(5,(.int .i64 173))],[],none,[],3,[],[],[]⟩]) (.seq (.tidy 0 [4,5]) .ret)) .skip)) (.seq (.seq (.reg [⟨[],[(97,(.sl 14))],[],none,[2,3,6,7,11,13],1,[],[],[]⟩]) (.cond (.sl 97) (.reg [⟨[],[],[],some (none,.store 1 (.ia 1 (.sl 6) (.bin .add (.sl 7) (.int .i64 1))) (.sl 11)),[2,3,6,7,11,13],6,[],[],[]⟩]) .skip)) (.seq (.seq (.reg [⟨[],[(119,(.and (.and (.bin .geq (.sl 13) (.int .i64 0)) (.bin .neq (.ld 1 false (.ia 1 (.sl 6) (.sl 13))) (.int .i64 0))) (.bin .neq (.ld 1 false (.ia 1 (.sl 6) (.sl 13))) (.sl 11))))],[],none,[2,3,6,7,11,13],17,[],[],[]⟩]) (.cond (.sl 119) (.seq (.reg [⟨[],[(4,(.sl 6)),(5,(.int .i64 173))],[],none,[],3,[],[],[]⟩]) (.seq (.tidy 0 [4,5]) .ret)) .skip)) (.seq (.reg [⟨[],[(122,(.bin .geq (.sl 13) (.int .i64 0)))],[],none,[2,3,6,7,11,13],2,[],[],[]⟩]) (.cond (.sl 122) (.reg [⟨[],[],[],some (none,.store 1 (.ia 1 (.sl 6) (.sl 13)) (.sl 11)),[2,3,6,7],5,[],[],[]⟩]) .skip))))))))))))))))) (.reg [⟨[],[(7,(.bin .add (.sl 7) (.int .i64 1)))],[],none,[2,3,6],3,[],[],[]⟩])))
def f42:Fun:=⟨ (.seq (.reg [⟨[(2,.box (.sl 0)),(3,.box (.sl 1))],[],[(.int .i64 0),(.nilsl 1)],none,[2,3],4,[],[],[]⟩]) (.seq (.reg [⟨[(18,.mks 1 (.cons (.int .i64 0) .nil) (.len false (.ld 1 false (.fa 2 (.sl 3)))) (.len false (.ld 1 false (.fa 2 (.sl 3)))))],[(6,(.sl 18))],[],none,[2,3],5,[],[],[]⟩]) (.seq (.reg [⟨[],[],[],some (none,.store 1 (.ia 1 (.sl 6) (.int .i64 0)) (.bin .add (.ld 1 false (.fa 1 (.sl 3))) (.int .i64 1))),[2,3,6],6,[],[],[]⟩]) (.seq (.seq (.reg [⟨[],[(7,(.int .i64 0))],[],none,[2,3,6],1,[],[],[]⟩]) (.block 0 (.seq (.tidy 0 [2,3,6,7]) (.loop (.seq (.tidy 0 [2,3,6,7]) f42_L0))))) (.seq (.reg [⟨[],[(4,(.sl 6)),(5,(.int .i64 0))],[],none,[],3,[],[],[]⟩]) (.seq (.tidy 0 [4,5]) .ret)))))), [(.sl 4),(.sl 5)],false⟩
theorem j1k:q0J Go.Proofs.Tryz.prog 42 0 2 f42=true:=by kernel_rfl
theorem z89(ng ns nc i:Int)(x:Instr):q5A ng ns nc i x=if q1D ng ns x=false then 172 else if(q6D x&&(decide (q04 x≤i)||decide (nc≤q04 x)))=true then 174 else 0:=by
  unfold q5A
  by_cases g:1≤x.op∧x.op<18
  · rw[if_pos g]
    obtain⟨op,a,b⟩:=x
    have key:∀(p:Bool),(if p=true then(0:Int) else 172)=172↔p=false:=by intro p;cases p <;> simp
    rcases z4c g with h|h|h|h|h|h|h|h|h|h|h|h|h|h|h|h|h <;>
      (simp only at h;subst h;simp [q2g,z9s,nth,q0S,q1D,q6D,q04];try grind)
  · rw[if_neg g]
    have hn:=opn g
    simp [q1D,hn]
def K46(K:Cx):Prop:=∀(sh:List Shape)(gl:List Glob)(x:Instr),K.call 28 [q2m sh gl,insA x]=some (.d false (.bool (q1D gl.length sh.length x)),[])
def K47(K:Cx):Prop:=∀ x:Instr,K.call 84 [insA x]=some (.d false (.bool (q6D x)),[])
def K48(K:Cx):Prop:=∀ x:Instr,K.call 32 [insA x]=some (.d false (.int .i64 (q04 x)),[])
def K49(K:Cx):Prop:=∀(sh:List Shape)(gl:List Glob)(x:Instr)(d:Int),(1≤d∧d≤8000)→(x.op=9→0≤x.a∧x.a<sh.length)→K.call 29 [q2m sh gl,insA x,.d false (.int .i64 d)]=some (.d false (.bool (q3L sh x d)),[])
def K50(K:Cx):Prop:=∀(sh:List Shape)(gl:List Glob)(x:Instr)(d:Int),(1≤d∧d≤8000)→(x.op=4∨x.op=5∨x.op=8→0≤x.a∧x.a≤9223372036854775807)→(x.op=9∨x.op=10→0≤x.a∧x.a<sh.length∧0≤q0R sh x.a∧q0R sh x.a≤8)→
  K.call 31 [q2m sh gl,insA x,.d false (.int .i64 d)]=some (.d false (.int .i64 (q06 sh x d)),[])
def K51(K:Cx):Prop:=∀ x:Instr,K.call 30 [insA x]=some (.d false (.bool (q5D x)),[])
def q1x(sh:List Shape)(gl:List Glob)(cd:List Instr)(r:Int):Ex×S:=if r=0 then(.exit 0,⟨[(1,.d false (.sl 3 (cd.map q0j)))],[],0,[]⟩) else(.ret,⟨[(4,.d false (.int .i64 r))],[],0,[]⟩)
theorem q86(K:Cx)(h46:K46 K)(h47:K47 K)(h48:K48 K)(sh:List Shape)(gl:List Glob)(cd:List Instr)(hl:cd.length≤8000) :
   ∀(k i:Nat),i+k=cd.length→
    lp K 0 [1,2,5] f41_L0 ⟨[(1,.d false (.sl 3 (cd.map q0j))),(2,.ptr 0 0 0),(5,.d false (.int .i64 i))],
      [(0,.mix 2 [[.d false (.sl 2 (sh.map q0c)),.d false (.sl 3 (gl.map q0l))]])],1,[]⟩ =
    some (q1x sh gl cd (q1S gl.length sh.length cd.length cd k i)):=by
  intro k
  induction k with
  |zero=>
    intro i hi
    rw[q0I f41_L0.eq_1]
    simp only[q1S]
    rw[show q1x sh gl cd 0=(.exit 0,⟨[(1,.d false (.sl 3 (cd.map q0j)))],[],0,[]⟩) from rfl]
    simp(disch:=first|decide|omega|(simp only[LN];first|done|omega)) only[SV,SW,Nat.reduceBEq]
  |succ k ih=>
    intro i hi
    have hcast:((i+1:Nat):Int)=(i:Int)+1:=by omega
    have hlt:i<cd.length:=by omega
    have ih:=ih (i+1) (by omega)
    rw[hcast] at ih
    rw[q0I f41_L0.eq_1]
    simp only[q1S]
    rw[z89]
    generalize hx:nth cd (i:Int)=x
    have c46:=h46 sh gl x
    have c47:=h47 x
    have c48:=h48 x
    generalize q1D gl.length sh.length x=b1 at c46
    generalize q6D x=b2 at c47
    generalize q04 x=t at c48
    have o1:q1x sh gl cd 172=(.ret,⟨[(4,.d false (.int .i64 172))],[],0,[]⟩):=rfl
    have o2:q1x sh gl cd 174=(.ret,⟨[(4,.d false (.int .i64 174))],[],0,[]⟩):=rfl
    unfold q2m at c46
    unfold insA at c46 c47 c48
    cases b1 with
    |false=>
      simp only[if_true,Int.reduceEq,if_false,o1]
      simp(disch:=first|decide|omega|(simp only[LN];first|done|omega)) only[SV,SW,Nat.reduceBEq,Nat.reduceAdd,hx,q0e,q0d,c46]
    |true=>
      cases b2 with
      |false=>
        simp only[Bool.true_eq_false,Bool.false_eq_true,Bool.false_and,if_true,if_false]
        simp(disch:=first|decide|omega|(simp only[LN];first|done|omega)) only[SV,SW,Nat.reduceBEq,Nat.reduceAdd,hx,q0e,q0d,c46,c47,c48]
        exact ih
      |true=>
        by_cases g1:t≤i
        · have e1:decide (t≤(i:Int))=true:=by simpa using g1
          simp only[e1,Bool.true_eq_false,Bool.true_or,Bool.and_self,if_true,if_false,Int.reduceEq,o2]
          simp(disch:=first|decide|omega|(simp only[LN];first|done|omega)) only[SV,SW,Nat.reduceBEq,Nat.reduceAdd,hx,q0e,q0d,c46,c47,c48]
        · have e1:decide (t≤(i:Int))=false:=by simpa using g1
          by_cases g2:(cd.length:Int)≤t
          · have e2:decide ((cd.length:Int)≤t)=true:=by simpa using g2
            simp only[e1,e2,Bool.true_eq_false,Bool.or_true,Bool.and_self,if_true,if_false,Int.reduceEq,o2]
            simp(disch:=first|decide|omega|(simp only[LN];first|done|omega)) only[SV,SW,Nat.reduceBEq,Nat.reduceAdd,hx,q0e,q0d,c46,c47,c48]
          · have e2:decide ((cd.length:Int)≤t)=false:=by simpa using g2
            simp only[e1,e2,Bool.true_eq_false,Bool.false_eq_true,Bool.or_self,Bool.and_false,if_true,if_false]
            simp(disch:=first|decide|omega|(simp only[LN];first|done|omega)) only[SV,SW,Nat.reduceBEq,Nat.reduceAdd,hx,q0e,q0d,c46,c47,c48]
            exact ih
def q3j(ng:Nat)(sh:List Shape)(cd:List Instr):Int:=if q1S ng sh.length cd.length cd cd.length 0=0 then(if cd.length=0 then 174 else 0) else q1S ng sh.length cd.length cd cd.length 0
theorem z0t(K:Cx)(h46:K46 K)(h47:K47 K)(h48:K48 K)(sh:List Shape)(gl:List Glob)(cd:List Instr)(hl:cd.length≤8000) :
    q0o K f41 [q2m sh gl,.d false (.sl 3 (cd.map q0j))] []=some (.d false (.int .i64 (q3j gl.length sh cd)),[],[]):=by
  have l0:=q86 K h46 h47 h48 sh gl cd hl cd.length 0 (by omega)
  simp only[Int.natCast_zero] at l0
  unfold q3j q2m
  generalize q1S gl.length sh.length cd.length cd cd.length 0=r at l0
  by_cases h:r=0
  · subst h
    rw[show q1x sh gl cd 0=(.exit 0,⟨[(1,.d false (.sl 3 (cd.map q0j)))],[],0,[]⟩) from rfl] at l0
    rw[if_pos rfl]
    by_cases hz:cd.length=0
    · rw[if_pos hz]
      have:((cd.length:Int)==0)=true:=by simp [hz]
      simp(disch:=first|decide|omega|(simp only[LN];first|done|omega)) only[SV,SW,f41,Nat.reduceAdd,Nat.reduceBEq,l0,this,q0b]
    · rw[if_neg hz]
      have:((cd.length:Int)==0)=false:=by simpa using hz
      clear hz
      simp(disch:=first|decide|omega|(simp only[LN];first|done|omega)) only[SV,SW,f41,Nat.reduceAdd,Nat.reduceBEq,l0,this,q0b]
  · rw[if_neg h]
    rw[show q1x sh gl cd r=(.ret,⟨[(4,.d false (.int .i64 r))],[],0,[]⟩) by unfold q1x;rw[if_neg h]] at l0
    clear h
    simp(disch:=first|decide|omega|(simp only[LN];first|done|omega)) only[SV,SW,f41,Nat.reduceAdd,Nat.reduceBEq,l0,q0b]
theorem q4X{Dp:List Int}{at_ d:Int}(h0:0≤at_)(h1:at_<Dp.length)(h:q1g Dp at_ d=true):q0L Dp at_ d=Dp.set at_.toNat d:=by
  unfold q0L
  split
  · rfl
  · rename_i hn
    unfold q1g at h
    rw[if_neg hn] at h
    have hd:nth Dp at_=d:=by simpa using h
    have:Dp[at_.toNat]'(by omega)=d:=by
      rw[←hd];unfold nth;rw[List.getD_eq_getElem?_getD,List.getElem?_eq_getElem (by omega)];rfl
    rw[←this,List.set_getElem_self]
def q8o(n:Nat)(c:Bool)(Dp:List Int)(r:Int):Ex×S:=if r=0 then(.exit 0,⟨[(6,.bsl 0 0 n)],[(0,.dat c 1 (Dp.map eInt))],1,[]⟩) else(.ret,⟨[(4,.bsl 0 0 n),(5,.d false (.int .i64 r))],[(0,.dat c 1 (Dp.map eInt))],1,[]⟩)
theorem q9A(n c Dp):q8o n c Dp 0=(.exit 0,⟨[(6,.bsl 0 0 n)],[(0,.dat c 1 (Dp.map eInt))],1,[]⟩):=rfl
theorem q1C(n c Dp):q8o n c Dp 173=(.ret,⟨[(4,.bsl 0 0 n),(5,.d false (.int .i64 173))],[(0,.dat c 1 (Dp.map eInt))],1,[]⟩):=rfl
theorem q31(n c Dp):q8o n c Dp 174=(.ret,⟨[(4,.bsl 0 0 n),(5,.d false (.int .i64 174))],[(0,.dat c 1 (Dp.map eInt))],1,[]⟩):=rfl
theorem q3i(Dp:List Int)(at_ d:Int):(q1g Dp at_ d=true∧(nth Dp at_ != 0&&nth Dp at_ != d)=false)∨(q1g Dp at_ d=false∧(nth Dp at_ != 0)=true∧(nth Dp at_ != d)=true):=by
  unfold q1g
  by_cases h:nth Dp at_=0
  · left;simp [h]
  · rw[if_neg h]
    by_cases g:nth Dp at_=d
    · left;simp [g]
    · right;simp [h,g]
set_option maxHeartbeats 4000000 in
theorem z5v(K:Cx)(h48:K48 K)(h49:K49 K)(h50:K50 K)(h51:K51 K)(sh:List Shape)(gl:List Glob)(nm:List UInt8)(ar:Int)(cd:List Instr)(hl:cd.length≤8000)(hs:ShOk sh)(hn:∀ i:Nat,i<cd.length→NumOk sh.length cd.length i (nth cd i))(hw:∀ x∈cd,x.a≤9223372036854775807) :
   ∀(k i:Nat) (c:Bool) (Dp:List Int),i+k=cd.length→Dp.length=cd.length→DpOk Dp→∃ c' Dp',Dp'.length=cd.length∧
    lp K 0 [2,3,6,7] f42_L0 ⟨[(2,.ptr 0 0 0),(3,.ptr 1 0 0),(6,.bsl 2 0 cd.length),(7,.d false (.int .i64 i))],
      [(0,.mix 2 [[.d false (.sl 2 (sh.map q0c)),.d false (.sl 3 (gl.map q0l))]]),(1,.mix 3 [[.d false (.str nm),.d false (.int .i64 ar),.d false (.sl 3 (cd.map q0j))]]),(2,.dat c 1 (Dp.map eInt))],3,[]⟩ =
    some (q8o cd.length c' Dp' (depL sh cd k i Dp)):=by
  intro k
  induction k with
  |zero=>
    intro i c Dp hi hD hok
    refine⟨c,Dp,hD,?_⟩
    rw[q0I f42_L0.eq_1]
    simp(disch:=first|decide|omega|(simp only[LN];first|done|omega)) only[SV,SW,Nat.reduceBEq,depL,q9A]
  |succ k ih=>
    intro i c Dp hi hD hok
    have hcast:((i+1:Nat):Int)=(i:Int)+1:=by omega
    have hlt:i<cd.length:=by omega
    have hx0:=hn i hlt
    have hw0:=hw (nth cd i) (q1h (by omega) (by omega))
    have hdr:=hok (nth Dp i) (q1h (by omega) (by omega))
    rw[q0I f42_L0.eq_1]
    simp only[depL]
    generalize hx:nth cd (i:Int)=x at hx0 hw0
    generalize hd:nth Dp (i:Int)=d at hdr
    by_cases g0:d=0
    · subst g0
      rw[if_pos rfl]
      refine⟨c,Dp,hD,?_⟩
      clear ih hn hs hok hx0 hw0 hw hdr
      simp(disch:=first|decide|omega|(simp only[LN];first|done|omega)) only[SV,SW,Nat.reduceBEq,Nat.reduceAdd,hx,q0e,lose,hd,q0q,q31]
    rw[if_neg g0]
    have b0:(d==0)=false:=by simpa using g0
    rw[q4c hx0.op (by omega)]
    have hrg0:=fun h=>q4d (d:=d) hs hx0 (by omega) h
    rw[q4c hx0.op (by omega)] at hrg0
    have c49:=h49 sh gl x d (by omega) (fun h=>hx0.con (.inl h))
    have c50:=h50 sh gl x d (by omega) (fun h=>⟨hx0.cnt (by omega),hw0⟩) (fun ho=>⟨(hx0.con ho).1,(hx0.con ho).2,hs _ (q1h (hx0.con ho).1 (hx0.con ho).2)⟩)
    have c51:=h51 x
    have c48:=h48 x
    have hj:=hx0.jmp
    have ht:=hx0.tst
    have hop:=hx0.op
    clear hx0 hw0
    generalize q3L sh x d=nb at c49 hrg0
    generalize q06 sh x d=nx at c50 hrg0
    unfold q2m at c49 c50
    unfold insA at c48 c49 c50 c51
    simp only at hrg0 ⊢
    cases nb with
    |false=>
      rw[if_pos (by simp)]
      refine⟨c,Dp,hD,?_⟩
      clear ih hn hs hok hw hdr hj ht hop hrg0 g0
      simp(disch:=first|decide|omega|(simp only[LN];first|done|omega)) only[SV,SW,Nat.reduceBEq,Nat.reduceAdd,hx,q0e,lose,hd,q0q,b0,q0d,c49,q1C]
    |true=>
      by_cases gx:8000<nx
      · have e1:decide (8000<nx)=true:=by simpa using gx
        rw[if_pos (by simp;omega)]
        refine⟨c,Dp,hD,?_⟩
        clear ih hn hs hok hw hdr hj ht hop hrg0 g0
        simp(disch:=first|decide|omega|(simp only[LN];first|done|omega)) only[SV,SW,Nat.reduceBEq,Nat.reduceAdd,hx,q0e,lose,hd,q0q,b0,q0d,c49,c50,q1C]
      · have e1:decide (8000<nx)=false:=by simpa using gx
        have e1':decide (nx≤8000)=true:=by simp;omega
        have hrg:=hrg0 (by simp;omega)
        rw[if_neg (by simp;omega)]
        clear hrg0
        have ih:=fun c Dp=>ih (i+1) c Dp (by omega)
        rw[hcast] at ih
        by_cases gg:q6M x=true
        · rw[if_pos gg]
          have⟨n13,n16,n17⟩:x.op≠13∧x.op≠16∧x.op≠17:=by
            simp [q6M] at gg;omega
          have en:q5D x=false:=by simp [q5D];omega
          rw[en] at c51
          have b13:(x.op != 13)=true:=by simpa using n13
          by_cases gl1:(i:Int)+1=cd.length
          · rw[if_pos gl1]
            have bl1:decide ((cd.length:Int)≤(i:Int)+1)=true:=by simp;omega
            refine⟨c,Dp,hD,?_⟩
            clear ih hn hs hok hw hdr hj ht hop g0 gl1 gg
            simp(disch:=first|decide|omega|(simp only[LN];first|done|omega)) only[SV,SW,Nat.reduceBEq,Nat.reduceAdd,hx,q0e,lose,hd,q0q,b0,q0d,c49,c50,c51,c48,b13,bl1,q31]
          · rw[if_neg gl1]
            have bl1:decide ((cd.length:Int)≤(i:Int)+1)=false:=by simp;omega
            have gl2:(i:Int)+1<cd.length:=by omega
            clear gl1
            have hq:=q3i Dp ((i:Int)+1) nx
            have hcast':((i:Int)+1)=((i+1:Nat):Int):=by omega
            rcases hq with⟨q1,q2⟩|⟨q1,q2,q3⟩
            · have q2':=q2
              rw[hcast'] at q2'
              rw[if_neg (by simp [q1])]
              have hset:=q4X (Dp:=Dp) (at_:=(i:Int)+1) (d:=nx) (by omega) (by omega) q1
              rw[q4R] at hset
              have hok1:DpOk (q0L Dp ((i:Int)+1) nx):=q2F hok (by omega)
              have hlen1:=q1W Dp ((i:Int)+1) nx
              generalize q0L Dp ((i:Int)+1) nx=D1 at hset hok1 hlen1
              by_cases gt:x.op=14∨x.op=15
              · have ht:=ht gt
                have hti:q2l x=x.b:=by simp only[q2l];rw[if_neg n13,if_pos gt]
                have htr:q04 x=x.b:=by simp only[q04];rw[if_neg n13,if_pos gt]
                rw[hti,if_pos (by omega)]
                rw[htr] at c48
                rcases q3i D1 x.b nx with⟨w1,w2⟩|⟨w1,w2,w3⟩
                · rw[if_neg (by simp [w1])]
                  have hset2:=q4X (Dp:=D1) (at_:=x.b) (d:=nx) (by omega) (by omega) w1
                  have hok2:DpOk (q0L D1 x.b nx):=q2F hok1 (by omega)
                  have hlen2:=q1W D1 x.b nx
                  generalize q0L D1 x.b nx=D2 at hset2 hok2 hlen2
                  obtain⟨c',Dp',hlen,ih⟩:=ih c D2 (by omega) hok2
                  refine⟨c',Dp',hlen,?_⟩
                  rw[hset2,hset] at ih ⊢
                  rw[hset] at w2
                  have z:0≤x.b:=by omega
                  clear hn hs hok hw hdr hj hop g0 gg hset hset2 hok1 hok2 q1 w1
                  simp(disch:=first|decide|omega|(simp only[LN];first|done|omega)) only[SV,SW,Nat.reduceBEq,Nat.reduceAdd,hx,q0e,lose,hd,q0q,b0,q0d,c49,c50,c51,c48,b13,q2',q6Q,w2,reduceCtorEq,Nat.reduceEqDiff]
                  exact ih
                · rw[if_pos w1]
                  rw[hset] at w2 w3
                  refine⟨c,Dp.set (i+1) nx,by simp [hD],?_⟩
                  have z:0≤x.b:=by omega
                  clear ih hn hs hok hw hdr hj hop g0 gg hset hok1 q1 w1
                  simp(disch:=first|decide|omega|(simp only[LN];first|done|omega)) only[SV,SW,Nat.reduceBEq,Nat.reduceAdd,hx,q0e,lose,hd,q0q,b0,q0d,c49,c50,c51,c48,b13,q2',q6Q,w2,w3,q1C]
              · have hti:q2l x=0:=by simp only[q2l];rw[if_neg n13,if_neg gt]
                have htr:q04 x=-1:=by simp only[q04];rw[if_neg n13,if_neg gt]
                rw[hti,if_neg (by omega)]
                rw[htr] at c48
                obtain⟨c',Dp',hlen,ih⟩:=ih c D1 (by omega) hok1
                refine⟨c',Dp',hlen,?_⟩
                rw[hset] at ih ⊢
                clear hn hs hok hw hdr hj ht hop g0 gg hset hok1 q1 gt
                simp(disch:=first|decide|omega|(simp only[LN];first|done|omega)) only[SV,SW,Nat.reduceBEq,Nat.reduceAdd,hx,q0e,lose,hd,q0q,b0,q0d,c49,c50,c51,c48,Int.reduceNeg,b13,q2',q6Q,reduceCtorEq,Nat.reduceEqDiff]
                exact ih
            · have q2':=q2
              have q3':=q3
              rw[hcast'] at q2' q3'
              rw[if_pos q1]
              refine⟨c,Dp,hD,?_⟩
              clear ih hn hs hok hw hdr hj ht hop g0 gg q1
              simp(disch:=first|decide|omega|(simp only[LN];first|done|omega)) only[SV,SW,Nat.reduceBEq,Nat.reduceAdd,hx,q0e,lose,hd,q0q,b0,q0d,c49,c50,c51,c48,b13,q2',q3',q1C]
        · rw[if_neg gg]
          have hop:x.op=13∨x.op=16∨x.op=17:=by
            simp [q6M] at gg;omega
          have on:(!q5D x&&x.op != 13)=false:=by
            rcases hop with h|h|h <;> simp [q5D,h]
          by_cases g13:x.op=13
          · have ht:=hj g13
            have hti:q2l x=x.a:=by simp only[q2l];rw[if_pos g13]
            have htr:q04 x=x.a:=by simp only[q04];rw[if_pos g13]
            have en:q5D x=false:=by simp [q5D,g13]
            have b13:(x.op != 13)=false:=by simp [g13]
            rw[hti,if_pos (by omega)]
            rw[htr] at c48
            rw[en] at c51
            rcases q3i Dp x.a nx with⟨w1,w2⟩|⟨w1,w2,w3⟩
            · rw[if_neg (by simp [w1])]
              have hset2:=q4X (Dp:=Dp) (at_:=x.a) (d:=nx) (by omega) (by omega) w1
              have hok2:DpOk (q0L Dp x.a nx):=q2F hok (by omega)
              have hlen2:=q1W Dp x.a nx
              generalize q0L Dp x.a nx=D2 at hset2 hok2 hlen2
              obtain⟨c',Dp',hlen,ih⟩:=ih c D2 (by omega) hok2
              refine⟨c',Dp',hlen,?_⟩
              rw[hset2] at ih ⊢
              have z:0≤x.a:=by omega
              clear hn hs hok hw hdr hj hop g0 gg hset2 hok2 w1 on
              simp(disch:=first|decide|omega|(simp only[LN];first|done|omega)) only[SV,SW,Nat.reduceBEq,Nat.reduceAdd,hx,q0e,lose,hd,q0q,b0,q0d,c49,c50,c51,c48,b13,w2,q6Q,reduceCtorEq,Nat.reduceEqDiff]
              exact ih
            · rw[if_pos w1]
              refine⟨c,Dp,hD,?_⟩
              have z:0≤x.a:=by omega
              clear ih hn hs hok hw hdr hj hop g0 gg w1 on
              simp(disch:=first|decide|omega|(simp only[LN];first|done|omega)) only[SV,SW,Nat.reduceBEq,Nat.reduceAdd,hx,q0e,lose,hd,q0q,b0,q0d,c49,c50,c51,c48,b13,w2,w3,q1C]
          · have hti:q2l x=0:=by simp only[q2l];rw[if_neg g13,if_neg (by omega)]
            have htr:q04 x=-1:=by simp only[q04];rw[if_neg g13,if_neg (by omega)]
            have en:q5D x=true:=by simp [q5D];omega
            rw[hti,if_neg (by omega)]
            rw[htr] at c48
            rw[en] at c51
            obtain⟨c',Dp',hlen,ih⟩:=ih c Dp hD hok
            refine⟨c',Dp',hlen,?_⟩
            clear hn hs hok hw hdr hj ht hop g0 gg on g13
            simp(disch:=first|decide|omega|(simp only[LN];first|done|omega)) only[SV,SW,Nat.reduceBEq,Nat.reduceAdd,hx,q0e,lose,hd,q0q,b0,q0d,c49,c50,c51,c48,Int.reduceNeg,reduceCtorEq,Nat.reduceEqDiff]
            exact ih
def K28(K:Cx):Prop:=∀(sh:List Shape)(gl:List Glob)(nm:List UInt8)(ar:Int)(cd:List Instr),cd.length≤8000→0<cd.length→0≤ar∧ar≤24→ShOk sh→(∀ i:Nat,i<cd.length→NumOk sh.length cd.length i (nth cd i))→(∀ x∈cd,x.a≤9223372036854775807)→
  ∃ cc U,K.call 42 [q2m sh gl,.agg [.d false (.str nm),.d false (.int .i64 ar),.d false (.sl 3 (cd.map q0j))]]=some (.tup [.d cc (.sl 1 U),.d false (.int .i64 (depL sh cd cd.length 0 ((List.replicate cd.length 0).set 0 (ar+1))))],[])
theorem z5b(K:Cx)(h48:K48 K)(h49:K49 K)(h50:K50 K)(h51:K51 K)(sh:List Shape)(gl:List Glob)(nm:List UInt8)(ar:Int)(cd:List Instr)(hl:cd.length≤8000)(h0:0<cd.length)(har:0≤ar∧ar≤24)(hs:ShOk sh)(hn:∀ i:Nat,i<cd.length→NumOk sh.length cd.length i (nth cd i))(hw:∀ x∈cd,x.a≤9223372036854775807) :
    ∃ cc U,q0o K f42 [q2m sh gl,.agg [.d false (.str nm),.d false (.int .i64 ar),.d false (.sl 3 (cd.map q0j))]] []=some (.tup [.d cc (.sl 1 U),.d false (.int .i64 (depL sh cd cd.length 0 ((List.replicate cd.length 0).set 0 (ar+1))))],[],[]):=by
  obtain⟨c',Dp',hlen,l0⟩:=z5v K h48 h49 h50 h51 sh gl nm ar cd hl hs hn hw cd.length 0 true ((List.replicate cd.length 0).set 0 (ar+1)) (by omega) (by simp) (by
    intro v hv
    rcases List.mem_or_eq_of_mem_set hv with h1|h1
    · rw[List.mem_replicate] at h1;omega
    · omega)
  simp only[Int.natCast_zero] at l0
  have dv:=z1n sh cd cd.length 0 ((List.replicate cd.length 0).set 0 (ar+1))
  generalize depL sh cd cd.length 0 ((List.replicate cd.length 0).set 0 (ar+1))=r at l0 dv
  refine⟨c',Dp'.map eInt,?_⟩
  unfold q2m
  clear hn hs hw
  rcases dv with rfl|rfl|rfl
  · rw[q9A] at l0
    simp(disch:=first|decide|omega|(simp only[LN];first|done|omega)) only[SV,SW,f42,Nat.reduceAdd,Nat.reduceBEq,q75,z2v,Int.toNat_zero,q0q,q6Q,lose,reduceCtorEq,Nat.reduceEqDiff,l0,q0b,hNew,V.forget,V.drop1,V.ref0,V.newR,q0d]
  · rw[q1C] at l0
    simp(disch:=first|decide|omega|(simp only[LN];first|done|omega)) only[SV,SW,f42,Nat.reduceAdd,Nat.reduceBEq,q75,z2v,Int.toNat_zero,q0q,q6Q,lose,reduceCtorEq,Nat.reduceEqDiff,l0,q0b,hNew,V.forget,V.drop1,V.ref0,V.newR,q0d]
  · rw[q31] at l0
    simp(disch:=first|decide|omega|(simp only[LN];first|done|omega)) only[SV,SW,f42,Nat.reduceAdd,Nat.reduceBEq,q75,z2v,Int.toNat_zero,q0q,q6Q,lose,reduceCtorEq,Nat.reduceEqDiff,l0,q0b,hNew,V.forget,V.drop1,V.ref0,V.newR,q0d]
end Go.Vm
end

section
namespace Go.Vm
structure TabOk(t:Table):Prop where
 sh:(t.shapes.length:Int)≤9223372036854775807
 gl:(t.globals.length:Int)≤9223372036854775807
 cd:∀ g∈t.globals,(g.code.length:Int)≤9223372036854775807
 sn:∀ s∈t.shapes,(s.name.length:Int)≤9223372036854775807
 gn:∀ g∈t.globals,(g.name.length:Int)≤9223372036854775807
 wd:∀ g∈t.globals,∀ x∈g.code,x.a≤9223372036854775807
def K20(K:Cx):Prop:=∀(t:Table),TabOk t→K.call 34 [.agg [.d false (.sl 2 (t.shapes.map q0c)),.d false (.sl 3 (t.globals.map q0l))]]=some (.d false (.bool (q2M t)),[])
def K22(K:Cx):Prop:=K.call 36 []=some (.bsl 0 0 7,[.dat true 2 (givenS.map q0c)])
def K23(K:Cx):Prop:=∀(sh:List Shape)(gl:List Glob)(nm:List UInt8)(ar:Int)(cd:List Instr),ShOk sh→cd.length≤8000→0≤ar∧ar≤24→(∀ x∈cd,x.a≤9223372036854775807)→
 K.call 37 [.agg [.d false (.sl 2 (sh.map q0c)),.d false (.sl 3 (gl.map q0l))],.agg [.d false (.str nm),.d false (.int .i64 ar),.d false (.sl 3 (cd.map q0j))]]=some (.d false (.int .i64 (q1l gl.length sh ⟨nm,ar,cd⟩)),[])
def q3a(r:Int):Ex×S:=if r=0 then(.exit 6,⟨[],[],0,[]⟩) else(.ret,⟨[(2,.d false (.int .i64 r))],[],0,[]⟩)
theorem z2G(K:Cx)(h23:K23 K)(t:Table)(hl:t.globals.length≤2000)(hs:ShOk t.shapes)(hg:∀ g∈t.globals,g.code.length≤8000∧(0≤g.arity∧g.arity≤24)∧∀ x∈g.code,x.a≤9223372036854775807):∀(k i:Nat),i+k=t.globals.length→
  lp K 0 [1,104,105,106] f13_L3 ⟨[(1,.ptr 0 0 0),(104,.d false (.sl 3 (t.globals.map q0l))),(105,.d false (.int .i64 t.globals.length)),(106,.d false (.int .i64 i))],[(0,.mix 2 [[.d false (.sl 2 (t.shapes.map q0c)),.d false (.sl 3 (t.globals.map q0l))]])],1,[]⟩ =
  some (q3a (q3P t.globals.length t.shapes (t.globals.drop i))):=by
 intro k
 induction k with
 |zero=>
  intro i hi
  rw[q0I f13_L3.eq_1,List.drop_of_length_le (by omega)]
  simp only[q3P]
  rw[show q3a 0=(.exit 6,⟨[],[],0,[]⟩) from rfl]
  simp(disch:=first|decide|omega|(simp only[LN];first|done|omega)) only[SV,SW,Nat.reduceBEq]
 |succ k ih=>
  intro i hi
  have hcast:((i+1:Nat):Int)=(i:Int)+1:=by omega
  have hlt:i<t.globals.length:=by omega
  rw[q0I f13_L3.eq_1,q0F hlt]
  obtain⟨g1,g2,g3⟩:=hg _ (q1h (l:=t.globals) (i:=(i:Int)) (by omega) (by omega))
  have ih:=ih (i+1) (by omega)
  rw[hcast] at ih
  simp only[q3P]
  generalize hgg:nth t.globals (i:Int)=g at g1 g2 g3
  have hc:=h23 t.shapes t.globals g.name g.arity g.code hs g1 g2 g3
  rw[show(⟨g.name,g.arity,g.code⟩:Glob)=g from rfl] at hc
  generalize q1l t.globals.length t.shapes g=r at hc
  clear g1 g2 g3 hg
  by_cases g0:r=0
  ·subst g0
   rw[if_pos rfl]
   simp(disch:=first|decide|omega|(simp only[LN];first|done|omega)) only[SV,SW,Nat.reduceBEq,Nat.reduceAdd,hgg,q0k,lose,q0d,hc]
   exact ih
  ·rw[if_neg g0]
   have d0:(r != 0)=true:=by simpa using g0
   have ho:q3a r=(.ret,⟨[(2,.d false (.int .i64 r))],[],0,[]⟩):=by unfold q3a;rw[if_neg g0]
   clear g0
   simp(disch:=first|decide|omega|(simp only[LN];first|done|omega)) only[SV,SW,Nat.reduceBEq,Nat.reduceAdd,hgg,q0k,lose,q0d,hc,d0,ho]
theorem q9W:∀ l,q02 (q17 l)=false
 |[]=>rfl
 |_ :: _=>rfl
theorem q77(H nx b l):mcB H nx b (.map (q17 l))=some (put H b (.map []),.junk,.none,nx):=z4u H nx b _ (q9W l)
theorem z7n(K:Cx)(h20:K20 K)(h21:K21 K)(h22:K22 K)(h23:K23 K)(t:Table)(ht:TabOk t) :
  q0o K f13 [.agg [.d false (.sl 2 (t.shapes.map q0c)),.d false (.sl 3 (t.globals.map q0l))]] []=some (.d false (.int .i64 (q5v t)),[],[]):=by
 have hc:=h20 t ht
 unfold q5v
 cases hgr:q2M t with
 |true=>
  rw[hgr] at hc
  rw[if_pos rfl]
  simp(disch:=first|decide|omega|(simp only[LN];first|done|omega)) only[SV,SW,f13,Nat.reduceAdd,Nat.reduceBEq,q0d,hc,q0b]
 |false=>
  rw[hgr] at hc
  rw[if_neg (by simp)]
  obtain⟨q1,q2,q3⟩:=z1a hgr
  have l0:=q92 K h21 t q1 ht.sn t.shapes.length 0 [] (by omega)
  simp only[Int.natCast_zero,List.drop_zero,q8W,List.nil_append] at l0
  cases hn1:q0B 8 (t.shapes.map fun s=>(s.name,s.fields)) [] with
  |false=>
   rw[if_pos rfl]
   rw[hn1,q1v] at l0
   clear hgr
   simp(disch:=first|decide|omega|(simp only[LN];first|done|omega)) only[SV,SW,f13,Nat.reduceAdd,Nat.reduceBEq,q0d,hc,reduceCtorEq,l0,q0b]
  |true=>
   rw[if_neg (by simp)]
   rw[hn1,q57] at l0
   have l1:=z4O K t q1 (t.shapes.map (·.name)) 7 0 rfl
   simp only[Int.natCast_zero] at l1
   unfold q6K
   cases hh:q47 t.shapes 7 0 with
   |false=>
    rw[if_pos rfl]
    rw[hh,q4v] at l1
    unfold K22 at h22
    simp(disch:=first|decide|omega|(simp only[LN];first|done|omega)) only[SV,SW,f13,Nat.reduceAdd,Nat.reduceBEq,q0d,hc,reduceCtorEq,l0,h22,V.new2,V.newR,V.shift,Nat.reduceEqDiff,l1,q0b]
   |true=>
    rw[if_neg (by simp)]
    rw[hh,q9l] at l1
    unfold K22 at h22
    have l2:=z2r K h21 t q2 ht.gn t.globals.length 0 [] (by omega)
    simp only[Int.natCast_zero,List.drop_zero,q8W] at l2
    cases hn2:q0B 24 (t.globals.map fun g=>(g.name,g.arity)) [] with
    |false=>
     rw[if_pos rfl]
     rw[hn2,q1Z] at l2
     simp(disch:=first|decide|omega|(simp only[LN];first|done|omega)) only[SV,SW,f13,Nat.reduceAdd,Nat.reduceBEq,q0d,hc,reduceCtorEq,l0,h22,V.new2,V.newR,V.shift,Nat.reduceEqDiff,l1,q77,lose,l2,q0b]
    |true=>
     rw[if_neg (by simp)]
     rw[hn2,q7E] at l2
     have m1:=q2Z _ _ _ hn1
     have m2:=q2Z _ _ _ hn2
     have l3:=z2G K h23 t q2 (fun s hs=>(m1 (s.name,s.fields) (List.mem_map.2 ⟨s,hs,rfl⟩)).2) (fun g hg=>⟨q3 g hg,(m2 (g.name,g.arity) (List.mem_map.2 ⟨g,hg,rfl⟩)).2,ht.wd g hg⟩) t.globals.length 0 (by omega)
     simp only[Int.natCast_zero,List.drop_zero] at l3
     generalize q3P t.globals.length t.shapes t.globals=r at l3
     by_cases g0:r=0
     ·subst g0
      rw[show q3a 0=(.exit 6,⟨[],[],0,[]⟩) from rfl] at l3
      clear m1 m2 q3
      simp(disch:=first|decide|omega|(simp only[LN];first|done|omega)) only[SV,SW,f13,Nat.reduceAdd,Nat.reduceBEq,q0d,hc,reduceCtorEq,l0,h22,V.new2,V.newR,V.shift,Nat.reduceEqDiff,l1,q77,lose,l2,l3,q0b]
     ·rw[show q3a r=(.ret,⟨[(2,.d false (.int .i64 r))],[],0,[]⟩) by unfold q3a;rw[if_neg g0]] at l3
      clear m1 m2 q3 g0
      simp(disch:=first|decide|omega|(simp only[LN];first|done|omega)) only[SV,SW,f13,Nat.reduceAdd,Nat.reduceBEq,q0d,hc,reduceCtorEq,l0,h22,V.new2,V.newR,V.shift,Nat.reduceEqDiff,l1,q77,lose,l2,l3,q0b]
end Go.Vm
end

section
namespace Go.Vm
/- 'sloth/slothref17.Check' -/
def f14_L0:C:= (.seq (.seq (.reg [⟨[],[(27,(.bin .lss (.sl 5) (.len false (.ld 1 false (.fa 1 (.sl 1))))))],[],none,[1,5],5,[],[],[]⟩]) (.cond (.sl 27) .skip (.seq (.tidy 0 []) (.exit 0)))) (.seq (.block 1 (.seq (.reg [⟨[],[(4,(.call 41 (.cons (.ld 2 true (.sl 1)) (.cons (.ld 1 false (.fa 2 (.ia 3 (.ld 1 false (.fa 1 (.sl 1))) (.sl 5)))) .nil))))],[],none,[1,5],9,[[],[],[1],[],[3,1,2],[2,1,3,4],[4,3,1,2,5],[5,2,1,3,4,6,0],[0,6,4,3,1,2,5,7]],[],[]⟩]) (.seq (.seq (.reg [⟨[],[(39,(.bin .neq (.sl 4) (.int .i64 0)))],[],none,[1,4,5],2,[],[],[]⟩]) (.cond (.sl 39) (.seq (.reg [⟨[],[(2,(.sl 4))],[],none,[],2,[],[],[]⟩]) (.seq (.tidy 0 [2]) .ret)) .skip)) (.seq (.reg [⟨[],[(7,(.ext 1 (.call 42 (.cons (.ld 2 true (.sl 1)) (.cons (.ld 3 true (.ia 3 (.ld 1 false (.fa 1 (.sl 1))) (.sl 5))) .nil)))))],[(.ext 0 (.call 42 (.cons (.ld 2 true (.sl 1)) (.cons (.ld 3 true (.ia 3 (.ld 1 false (.fa 1 (.sl 1))) (.sl 5))) .nil))))],none,[1,5],12,[[],[],[1],[],[3,1,2],[2,1,3,4],[4,3,1,2,5,0],[0,5,2,1,3,4,6],[6,4,3,1,2,5,0,7],[6,4,3,1,2,5,0,7],[7,0,5,2,1,3,4,6,8],[8,10,7,0,5,2,1,3,4,6,9]],[],[]⟩]) (.seq (.reg [⟨[],[(52,(.bin .neq (.sl 7) (.int .i64 0)))],[],none,[1,5,7],2,[],[],[]⟩]) (.cond (.sl 52) (.seq (.reg [⟨[],[(2,(.sl 7))],[],none,[],2,[],[],[]⟩]) (.seq (.tidy 0 [2]) .ret)) .skip)))))) (.reg [⟨[],[(5,(.bin .add (.sl 5) (.int .i64 1)))],[],none,[1],3,[],[],[]⟩])))
def f14:Fun:=⟨ (.seq (.reg [⟨[(1,.box (.sl 0))],[],[(.int .i64 0)],none,[1],2,[],[],[]⟩]) (.seq (.reg [⟨[],[(3,(.call 38 (.cons (.ld 2 true (.sl 1)) .nil)))],[],none,[1],3,[],[],[]⟩]) (.seq (.seq (.reg [⟨[],[(10,(.sl 3))],[],none,[1],1,[],[],[]⟩]) (.cond (.sl 10) (.seq (.reg [⟨[],[(2,(.int .i64 4))],[],none,[],1,[],[],[]⟩]) (.seq (.tidy 0 [2]) .ret)) .skip)) (.seq (.reg [⟨[],[(4,(.call 39 (.cons (.ld 1 false (.fa 0 (.sl 1))) .nil)))],[],none,[1],4,[],[],[]⟩]) (.seq (.seq (.reg [⟨[],[(15,(.bin .neq (.sl 4) (.int .i64 0)))],[],none,[1,4],2,[],[],[]⟩]) (.cond (.sl 15) (.seq (.reg [⟨[],[(2,(.sl 4))],[],none,[],2,[],[],[]⟩]) (.seq (.tidy 0 [2]) .ret)) .skip)) (.seq (.reg [⟨[],[(4,(.call 40 (.cons (.ld 1 false (.fa 1 (.sl 1))) .nil)))],[],none,[1],4,[],[],[]⟩]) (.seq (.seq (.reg [⟨[],[(21,(.bin .neq (.sl 4) (.int .i64 0)))],[],none,[1,4],2,[],[],[]⟩]) (.cond (.sl 21) (.seq (.reg [⟨[],[(2,(.sl 4))],[],none,[],2,[],[],[]⟩]) (.seq (.tidy 0 [2]) .ret)) .skip)) (.seq (.seq (.reg [⟨[],[(5,(.int .i64 0))],[],none,[1],1,[],[],[]⟩]) (.block 0 (.seq (.tidy 0 [1,5]) (.loop (.seq (.tidy 0 [1,5]) f14_L0))))) (.seq (.reg [⟨[],[(2,(.int .i64 0))],[],none,[],1,[],[],[]⟩]) (.seq (.tidy 0 [2]) .ret)))))))))), [(.sl 2)],false⟩
theorem j1F:q0J Go.Proofs.Tryz.prog 14 0 1 f14=true:=by kernel_rfl
def K24(K:Cx):Prop:=∀(t:Table),TabOk t→K.call 38 [q2m t.shapes t.globals]=some (.d false (.bool (q2M t)),[])
def K25(K:Cx):Prop:=∀(l:List Shape),(l.length:Int)≤9223372036854775807→(∀ s∈l,(s.name.length:Int)≤9223372036854775807)→K.call 39 [.d false (.sl 2 (l.map q0c))]=some (.d false (.int .i64 (q4g l)),[])
def K26(K:Cx):Prop:=∀(l:List Glob),(l.length:Int)≤9223372036854775807→(∀ s∈l,(s.name.length:Int)≤9223372036854775807)→K.call 40 [.d false (.sl 3 (l.map q0l))]=some (.d false (.int .i64 (q6H l)),[])
def K27(K:Cx):Prop:=∀(sh:List Shape)(gl:List Glob)(cd:List Instr),cd.length≤8000→K.call 41 [q2m sh gl,.d false (.sl 3 (cd.map q0j))]=some (.d false (.int .i64 (q3j gl.length sh cd)),[])
def q1b(r:Int):Ex×S:=if r=0 then(.exit 0,⟨[],[],0,[]⟩) else(.ret,⟨[(2,.d false (.int .i64 r))],[],0,[]⟩)
theorem z0A(K:Cx)(h27:K27 K)(h28:K28 K)(t:Table)(hl:t.globals.length≤2000)(hs:ShOk t.shapes)(hg:∀ g∈t.globals,g.code.length≤8000∧(0≤g.arity∧g.arity≤24)∧∀ x∈g.code,x.a≤9223372036854775807):∀(k i:Nat),i+k=t.globals.length→
    lp K 0 [1,5] f14_L0 ⟨[(1,.ptr 0 0 0),(5,.d false (.int .i64 i))],[(0,.mix 2 [[.d false (.sl 2 (t.shapes.map q0c)),.d false (.sl 3 (t.globals.map q0l))]])],1,[]⟩ =
    some (q1b (q3P t.globals.length t.shapes (t.globals.drop i))):=by
  intro k
  induction k with
  |zero=>
    intro i hi
    rw[q0I f14_L0.eq_1,List.drop_of_length_le (by omega)]
    simp only[q3P]
    rw[show q1b 0=(.exit 0,⟨[],[],0,[]⟩) from rfl]
    simp(disch:=first|decide|omega|(simp only[LN];first|done|omega)) only[SV,SW,Nat.reduceBEq]
  |succ k ih=>
    intro i hi
    have hcast:((i+1:Nat):Int)=(i:Int)+1:=by omega
    have hlt:i<t.globals.length:=by omega
    rw[q0I f14_L0.eq_1,q0F hlt]
    obtain⟨g1,g2,g3⟩:=hg _ (q1h (l:=t.globals) (i:=(i:Int)) (by omega) (by omega))
    have ih:=ih (i+1) (by omega)
    rw[hcast] at ih
    simp only[q3P]
    generalize hgg:nth t.globals (i:Int)=g at g1 g2 g3
    have c27:=h27 t.shapes t.globals g.code g1
    unfold q1l
    unfold q3j at c27
    unfold q2m at c27
    by_cases z:q1S t.globals.length t.shapes.length g.code.length g.code g.code.length 0=0
    · rw[if_pos z] at c27
      simp only[if_pos z]
      by_cases z2:g.code.length=0
      · rw[if_pos z2] at c27
        simp only[if_pos z2,Int.reduceEq,if_false]
        rw[show q1b 174=(.ret,⟨[(2,.d false (.int .i64 174))],[],0,[]⟩) from rfl]
        clear z z2 g1 g2 g3 hg
        simp(disch:=first|decide|omega|(simp only[LN];first|done|omega)) only[SV,SW,Nat.reduceBEq,Nat.reduceAdd,hgg,q0k,q0d,c27]
      · rw[if_neg z2] at c27
        simp only[if_neg z2]
        have hok:∀ i:Nat,i<g.code.length→NumOk t.shapes.length g.code.length i (nth g.code i):=fun i hi=>z0Y (z0Z g.code.length 0 z i (by omega) (by omega))
        obtain⟨cc,U,c28⟩:=h28 t.shapes t.globals g.name g.arity g.code g1 (by omega) g2 hs hok g3
        unfold q2m at c28
        generalize depL t.shapes g.code g.code.length 0 ((List.replicate g.code.length 0).set 0 (g.arity+1))=r at c28
        clear z z2 g1 g2 g3 hg hok
        by_cases g0:r=0
        · subst g0
          rw[if_pos rfl]
          simp(disch:=first|decide|omega|(simp only[LN];first|done|omega)) only[SV,SW,Nat.reduceBEq,Nat.reduceAdd,hgg,q0k,q0d,c27,c28]
          exact ih
        · rw[if_neg g0]
          have d0:(r != 0)=true:=by simpa using g0
          have ho:q1b r=(.ret,⟨[(2,.d false (.int .i64 r))],[],0,[]⟩):=by unfold q1b;rw[if_neg g0]
          clear g0
          simp(disch:=first|decide|omega|(simp only[LN];first|done|omega)) only[SV,SW,Nat.reduceBEq,Nat.reduceAdd,hgg,q0k,q0d,c27,c28,d0,ho]
    · rw[if_neg z] at c27
      simp only[if_neg z]
      generalize q1S t.globals.length t.shapes.length g.code.length g.code g.code.length 0=r at c27 z
      have d0:(r != 0)=true:=by simpa using z
      have ho:q1b r=(.ret,⟨[(2,.d false (.int .i64 r))],[],0,[]⟩):=by unfold q1b;rw[if_neg z]
      clear z g1 g2 g3 hg
      simp(disch:=first|decide|omega|(simp only[LN];first|done|omega)) only[SV,SW,Nat.reduceBEq,Nat.reduceAdd,hgg,q0k,q0d,c27,d0,ho]
theorem z5e(K:Cx)(h24:K24 K)(h25:K25 K)(h26:K26 K)(h27:K27 K)(h28:K28 K)(t:Table)(ht:TabOk t) :
    q0o K f14 [q2m t.shapes t.globals] []=some (.d false (.int .i64 (q5v t)),[],[]):=by
  have c24:=h24 t ht
  have c25:=h25 t.shapes ht.sh ht.sn
  have c26:=h26 t.globals ht.gl ht.gn
  unfold q2m at c24 ⊢
  unfold q4g at c25
  unfold q6H at c26
  unfold q5v
  cases hgr:q2M t with
  |true=>
    rw[hgr] at c24
    rw[if_pos rfl]
    simp(disch:=first|decide|omega|(simp only[LN];first|done|omega)) only[SV,SW,f14,Nat.reduceAdd,Nat.reduceBEq,q0d,c24,q0b]
  |false=>
    rw[hgr] at c24
    rw[if_neg (by simp)]
    obtain⟨q1,q2,q3⟩:=z1a hgr
    clear hgr
    cases hn1:q0B 8 (t.shapes.map fun s=>(s.name,s.fields)) [] with
    |false=>
      rw[if_pos rfl]
      rw[hn1,if_pos rfl] at c25
      simp(disch:=first|decide|omega|(simp only[LN];first|done|omega)) only[SV,SW,f14,Nat.reduceAdd,Nat.reduceBEq,q0d,c24,c25,q0b]
    |true=>
      rw[if_neg (by simp)]
      rw[hn1,if_neg (by simp)] at c25
      cases hh:q6K t.shapes with
      |false=>
        rw[if_pos rfl]
        rw[hh,if_pos rfl] at c25
        simp(disch:=first|decide|omega|(simp only[LN];first|done|omega)) only[SV,SW,f14,Nat.reduceAdd,Nat.reduceBEq,q0d,c24,c25,q0b]
      |true=>
        rw[if_neg (by simp)]
        rw[hh,if_neg (by simp)] at c25
        cases hn2:q0B 24 (t.globals.map fun g=>(g.name,g.arity)) [] with
        |false=>
          rw[if_pos rfl]
          rw[hn2,if_pos rfl] at c26
          simp(disch:=first|decide|omega|(simp only[LN];first|done|omega)) only[SV,SW,f14,Nat.reduceAdd,Nat.reduceBEq,q0d,c24,c25,c26,q0b]
        |true=>
          rw[if_neg (by simp)]
          rw[hn2,if_neg (by simp)] at c26
          have m1:=q2Z _ _ _ hn1
          have m2:=q2Z _ _ _ hn2
          have l3:=z0A K h27 h28 t q2 (fun s hs=>(m1 (s.name,s.fields) (List.mem_map.2 ⟨s,hs,rfl⟩)).2) (fun g hg=>⟨q3 g hg,(m2 (g.name,g.arity) (List.mem_map.2 ⟨g,hg,rfl⟩)).2,ht.wd g hg⟩) t.globals.length 0 (by omega)
          simp only[Int.natCast_zero,List.drop_zero] at l3
          generalize q3P t.globals.length t.shapes t.globals=r at l3
          by_cases g0:r=0
          · subst g0
            rw[show q1b 0=(.exit 0,⟨[],[],0,[]⟩) from rfl] at l3
            clear m1 m2 q3
            simp(disch:=first|decide|omega|(simp only[LN];first|done|omega)) only[SV,SW,f14,Nat.reduceAdd,Nat.reduceBEq,q0d,c24,c25,c26,l3,q0b]
          · rw[show q1b r=(.ret,⟨[(2,.d false (.int .i64 r))],[],0,[]⟩) by unfold q1b;rw[if_neg g0]] at l3
            clear m1 m2 q3 g0
            simp(disch:=first|decide|omega|(simp only[LN];first|done|omega)) only[SV,SW,f14,Nat.reduceAdd,Nat.reduceBEq,q0d,c24,c25,c26,l3,q0b]
end Go.Vm
end

section
namespace Go.Vm
end Go.Vm
end

section
namespace Go.Vm
/- 'sloth/slothlaw17.CodeEnds' -/
end Go.Vm
end

section
namespace Go.Vm
def K13(K:Cx):Prop:=∀ t:Table,TabOk t→K.call 13 [.agg [.d false (.sl 2 (t.shapes.map q0c)),.d false (.sl 3 (t.globals.map q0l))]]=some (.d false (.int .i64 (q5v t)),[])
theorem codesS_mem{ng:Nat}{sh:List Shape}:∀(l:List Glob),q3P ng sh l=0→∀ g∈l,q1l ng sh g=0:=by
 intro l
 induction l with
 |nil=>intro _ g hg;simp at hg
 |cons a l ih=>
  intro h g hg
  simp only[q3P] at h
  split at h
  ·rename_i c
   rcases List.mem_cons.1 hg with rfl|hg
   ·exact c
   ·exact ih h g hg
  ·rename_i c;exact absurd h c
theorem check_ok{t:Table}(h:q5v t=0):ShOk t.shapes∧t.globals.length≤2000∧∀ g∈t.globals,g.code.length≤8000∧(0≤g.arity∧g.arity≤24)∧q1l t.globals.length t.shapes g=0:=by
 unfold q5v at h
 split at h
 ·cases h
 ·split at h
  ·cases h
  ·split at h
   ·cases h
   ·split at h
    ·cases h
    ·rename_i h1 h2 h3 h4
     obtain⟨q1,q2,q3⟩:=z1a (by simpa using h1)
     have m1:=q2Z _ _ _ (by simpa using h2)
     have m2:=q2Z _ _ _ (by simpa using h4)
     exact⟨fun s hs=>(m1 (s.name,s.fields) (List.mem_map.2 ⟨s,hs,rfl⟩)).2,q2,fun g hg=>⟨q3 g hg,(m2 (g.name,g.arity) (List.mem_map.2 ⟨g,hg,rfl⟩)).2,codesS_mem _ h g hg⟩⟩
end Go.Vm
end

section
namespace Go.Vm
set_option maxRecDepth 20000
open Go.Proofs
/- 'sloth/slothlaw17.CodeChecks' -/
def f3_T0:C:= (.seq (.reg [⟨[],[(7,(.call 13 (.cons (.ld 2 true (.sl 6)) .nil)))],[],none,[2,3,5,6],3,[],[],[]⟩]) (.seq (.reg [⟨[],[(8,(.call 13 (.cons (.ld 2 true (.sl 3)) .nil)))],[],none,[2,3,5,6,7],3,[],[],[]⟩]) (.seq (.reg [⟨[],[(9,(.call 13 (.cons (.ld 2 true (.sl 6)) .nil)))],[],none,[2,3,5,6,7,8],3,[],[],[]⟩]) (.seq (.reg [⟨[],[(10,(.call 14 (.cons (.ld 2 true (.sl 2)) .nil)))],[],none,[2,3,5,6,7,8,9],3,[],[],[]⟩]) (.seq (.reg [⟨[],[(11,(.call 14 (.cons (.ld 2 true (.sl 3)) .nil)))],[],none,[2,5,6,7,8,9,10],3,[],[],[]⟩]) (.seq (.reg [⟨[],[(12,(.call 15 (.cons (.ld 2 true (.sl 6)) (.cons (.ld 2 true (.sl 2)) .nil))))],[],none,[5,6,7,8,9,10,11],4,[],[],[]⟩]) (.seq (.reg [⟨[],[],[],some (some 33,.calle 16 (.cons (.ld 2 true (.sl 6)) .nil)),[5,6,7,8,9,10,11,12],2,[],[],[]⟩,⟨[],[(13,(.sl 33))],[],none,[5,6,7,8,9,10,11,12],1,[],[],[]⟩]) (.seq (.seq (.reg [⟨[],[(58,(.or (.or (.or (.or (.or (.un .not (.sl 5)) (.bin .neq (.sl 7) (.sl 10))) (.bin .neq (.sl 8) (.sl 11))) (.bin .neq (.sl 9) (.sl 10))) (.un .not (.sl 12))) (.un .not (.sl 13))))],[],none,[6],25,[],[],[]⟩]) (.cond (.sl 58) (.seq (.reg [⟨[],[(4,(.bool false))],[],none,[],1,[],[],[]⟩]) (.seq (.keep [4]) .ret)) .skip)) (.seq (.reg [⟨[],[],[],some (some 60,.calle 17 (.cons (.ld 2 true (.sl 6)) .nil)),[6],2,[],[],[]⟩]) (.seq (.reg [⟨[],[(14,(.call 14 (.cons (.ld 2 true (.sl 6)) .nil)))],[],none,[6],3,[],[],[]⟩]) (.seq (.reg [⟨[],[(15,(.call 13 (.cons (.ld 2 true (.sl 6)) .nil)))],[],none,[14],3,[],[],[]⟩]) (.seq (.reg [⟨[],[(4,(.bin .eql (.sl 15) (.sl 14)))],[],none,[],4,[],[],[]⟩]) (.seq (.keep [4]) .ret)))))))))))))
def f3:Fun:=⟨ (.seq (.reg [⟨[(2,.box (.sl 0)),(3,.box (.sl 1))],[],[(.bool false)],none,[2,3],3,[],[],[]⟩]) (.seq (.reg [⟨[],[(5,(.call 11 .nil))],[],none,[2,3],2,[],[],[]⟩]) (.seq (.reg [⟨[(18,.callo 12 (.cons (.ld 2 true (.sl 2)) .nil)),(6,.box (.agg (.cons (.nilsl 2) (.cons (.nilsl 3) .nil))))],[],[],some (none,.store 2 (.sl 6) (.sl 18)),[2,3,5,6],4,[],[],[]⟩]) (.seq (.keep [2,3,5,6]) f3_T0)))), [(.sl 4)],false⟩
def L12(K:Cx):Prop:=∀ t,Sm t→K.call 12 [.agg (tabV t)]=some (.agg [.bsx 0 0 t.shapes.length,.bsx 1 0 t.globals.length],tblk true 2 t)
def L14(K:Cx):Prop:=∀ t:Table,TabOk t→K.call 14 [.agg [.d false (.sl 2 (t.shapes.map q0c)),.d false (.sl 3 (t.globals.map q0l))]]=some (.d false (.int .i64 (q5v t)),[])
def L15(K:Cx):Prop:=∀ a b:Table,Big a→Big b→K.call 15 [.agg (tabV a),.agg (tabV b)]=some (.d false (.bool (decide (a=b))),[])
def L16(K:Cx):Prop:=∀ t,Sm t→K.eff 16 [.agg [.bsx 0 0 t.shapes.length,.bsx 1 0 t.globals.length]] (tblk false 2 t)=some (.d false (.bool true),tblk false 2 t,[])
def L17(K:Cx):Prop:=∀ t,Sm t→K.eff 17 [.agg [.bsx 0 0 t.shapes.length,.bsx 1 0 t.globals.length]] (tblk false 2 t)=some (.tup [],q2D t,[])
theorem z3L(t:Table)(k:Nat):(tblk true 2 t).map (Blk.shift k)=tblk true (2+k) t:=by
  have hr:∀(gs:List Glob) (p:Nat),((numG p gs).map rowG).map (List.map (V.shift k))=(numG (p+k) gs).map rowG:=by
    intro gs
    induction gs with
    |nil=>intro p;rfl
    |cons g r ih=>
      intro p
      simp only[numG,List.map_cons]
      rw[ih (p+1),show p+1+k=p+k+1 by omega]
      rfl
  simp only[tblk,List.map_cons,List.map_map]
  congr 2
  unfold gB
  by_cases h:t.globals=[]
  · rw[if_pos h,if_pos h];rfl
  · rw[if_neg h,if_neg h]
    simp only[Blk.shift,List.map_append,hr]
    rfl
theorem z96(t:Table):mkOR 2 false (some (.agg [.bsx 0 0 t.shapes.length,.bsx 1 0 t.globals.length],tblk true 2 t))=some (.agg [.bsx 2 0 t.shapes.length,.bsx 3 0 t.globals.length],tblk true 4 t):=by
  rw[q9a]
  have hl:(tblk true 2 t).all Blk.lays=true:=by
    simp only[tblk,List.all_cons,List.all_map,Bool.and_eq_true,List.all_eq_true]
    refine⟨rfl,by unfold gB;split <;> rfl,fun g _=>rfl⟩
  by_cases hp:(tblk true 2 t).all Blk.plain=true
  · have hg:t.globals=[]:=by
      simp only[tblk,List.all_cons,Bool.and_eq_true] at hp
      by_cases h:t.globals=[]
      · exact h
      · have:=hp.2.1
        unfold gB at this
        rw[if_neg h] at this
        cases this
    rw[if_pos (by simp [hp])]
    have:tblk true 2 t=tblk true 4 t:=by simp only[tblk,gB,if_pos hg]
    rw[this];rfl
  · rw[if_neg (by simp [hp]),if_pos (by simp [hl]),z3L];rfl
theorem TB.add{H:List (Nat×Blk)}{p:Nat}{z:Bool}{t:Table}{more:List Blk}:TB (addBlks H p (tblk z (p+2) t++more)) p z t:=by
  have hl:=q1O z (p+2) t
  have key:∀ j,j<t.globals.length+2→look (addBlks H p (tblk z (p+2) t++more)) (p+j)=(tblk z (p+2) t)[j]?:=fun j hj=>by
    rw[q0O,if_pos (by rw[List.length_append,hl];omega),Nat.add_sub_cancel_left,List.getElem?_append_left (by omega)]
  refine⟨key 0 (by omega),key 1 (by omega),fun j hj=>?_⟩
  have:=key (j+2) (by omega)
  rw[show p+2+j=p+(j+2) by omega,this]
  simp only[tblk,List.getElem?_cons_succ,List.getElem?_map,q0U hj,Option.map_some]
end Go.Vm
end

section
namespace Go.Vm
set_option maxRecDepth 20000
open Go.Proofs
/- 'sloth/slothref17.Print' -/
def f18_L0:C:= (.seq (.seq (.reg [⟨[],[(20,(.bin .lss (.sl 6) (.len false (.ld 1 false (.fa 0 (.sl 1))))))],[],none,[1,5,6],5,[],[],[]⟩]) (.cond (.sl 20) .skip (.seq (.tidy 0 [1,5]) (.exit 0)))) (.seq (.block 1 (.reg [⟨[],[],[],some (some 42,.calle 43 (.cons (.sl 5) (.cons (.bin .add (.bin .add (.bin .add (.bin .add (.str [115,104,97,112,101,32]) (.call 44 (.cons (.ld 1 false (.fa 0 (.ia 2 (.ld 1 false (.fa 0 (.sl 1))) (.sl 6)))) .nil))) (.str [32])) (.call 45 (.cons (.ld 1 false (.fa 1 (.ia 2 (.ld 1 false (.fa 0 (.sl 1))) (.sl 6)))) .nil))) (.str [10])) .nil))),[1,6],20,[[],[],[1],[],[3,1,2],[2,1,3,4],[4,3,1,2,5],[5,2,1,3,4,6],[6,4,3,1,2,5,7],[7,5,2,1,3,4,6,8],[],[10],[],[12,10,11],[11,10,12,13],[13,12,10,11,14],[6,4,3,1,2,5,7,14,11,10,12,13,15],[15,13,12,10,11,14,16,8,6,4,3,1,2,5,7,9],[9,7,5,2,1,3,4,6,8,16,14,11,10,12,13,15,17],[17,15,13,12,10,11,14,16,8,6,4,3,1,2,5,7,9,18,0],[0,18,9,7,5,2,1,3,4,6,8,16,14,11,10,12,13,15,17,19]],[],[]⟩,⟨[],[(5,(.sl 42))],[],none,[1,6],1,[],[],[]⟩])) (.reg [⟨[],[(6,(.bin .add (.sl 6) (.int .i64 1)))],[],none,[1,5],3,[],[],[]⟩])))
def f18_L1:C:= (.seq (.seq (.reg [⟨[],[(71,(.bin .lss (.sl 9) (.len false (.ld 1 false (.fa 2 (.sl 8))))))],[],none,[1,5,7,8,9],5,[],[],[]⟩]) (.cond (.sl 71) .skip (.seq (.tidy 0 [1,5,7]) (.exit 4)))) (.seq (.block 5 (.seq (.reg [⟨[],[(10,(.call 46 (.cons (.ld 2 true (.sl 1)) (.cons (.ld 3 true (.ia 3 (.ld 1 false (.fa 2 (.sl 8))) (.sl 9))) .nil))))],[],none,[1,5,7,8,9],8,[[],[],[1],[],[3,1,2],[2,1,3,4],[4,3,1,2,5,0],[0,5,2,1,3,4,6]],[],[]⟩]) (.reg [⟨[],[],[],some (some 85,.calle 43 (.cons (.sl 5) (.cons (.bin .add (.bin .add (.str [32,32]) (.sl 10)) (.str [10])) .nil))),[1,7,8,9],5,[],[],[]⟩,⟨[],[(5,(.sl 85))],[],none,[1,7,8,9],1,[],[],[]⟩]))) (.reg [⟨[],[(9,(.bin .add (.sl 9) (.int .i64 1)))],[],none,[1,5,7,8],3,[],[],[]⟩])))
def f18_L2:C:= (.seq (.seq (.reg [⟨[],[(47,(.bin .lss (.sl 7) (.len false (.ld 1 false (.fa 1 (.sl 1))))))],[],none,[1,5,7],5,[],[],[]⟩]) (.cond (.sl 47) .skip (.seq (.tidy 0 [5]) (.exit 2)))) (.seq (.block 3 (.seq (.reg [⟨[(8,.box (.agg (.cons (.str []) (.cons (.int .i64 0) (.cons (.nilsl 3) .nil)))))],[],[],some (none,.store 3 (.sl 8) (.ld 3 true (.ia 3 (.ld 1 false (.fa 1 (.sl 1))) (.sl 7)))),[1,5,7,8],7,[],[],[]⟩]) (.seq (.reg [⟨[],[],[],some (some 66,.calle 43 (.cons (.sl 5) (.cons (.bin .add (.bin .add (.bin .add (.bin .add (.str [103,108,111,98,97,108,32]) (.call 44 (.cons (.ld 1 false (.fa 0 (.sl 8))) .nil))) (.str [32])) (.call 45 (.cons (.ld 1 false (.fa 1 (.sl 8))) .nil))) (.str [10])) .nil))),[1,7,8],12,[[],[],[1],[1,2],[2,1,3],[3,1,2,4],[],[6],[2,1,3,6,7],[7,6,8,4,2,1,3,5],[5,3,1,2,4,8,6,7,9],[9,7,6,8,4,2,1,3,5,10,0],[0,10,5,3,1,2,4,8,6,7,9,11]],[],[]⟩,⟨[],[(5,(.sl 66))],[],none,[1,7,8],1,[],[],[]⟩]) (.seq (.reg [⟨[],[(9,(.int .i64 0))],[],none,[1,5,7,8],1,[],[],[]⟩]) (.block 4 (.seq (.own 5 1) (.seq (.tidy 0 [1,5,7,8,9]) (.loop (.seq (.tidy 0 [1,5,7,8,9]) f18_L1))))))))) (.reg [⟨[],[(7,(.bin .add (.sl 7) (.int .i64 1)))],[],none,[1,5],3,[],[],[]⟩])))
def f18:Fun:=⟨ (.seq (.reg [⟨[(1,.box (.sl 0))],[],[(.int .i64 0),(.str [])],none,[1],3,[],[],[]⟩]) (.seq (.reg [⟨[],[(4,(.call 14 (.cons (.ld 2 true (.sl 1)) .nil)))],[],none,[1],3,[],[],[]⟩]) (.seq (.seq (.reg [⟨[],[(14,(.bin .neq (.sl 4) (.int .i64 0)))],[],none,[1,4],2,[],[],[]⟩]) (.cond (.sl 14) (.seq (.reg [⟨[],[(2,(.str [])),(3,(.sl 4))],[],none,[],3,[],[],[]⟩]) (.seq (.tidy 0 [2,3]) .ret)) .skip)) (.seq (.reg [⟨[],[(5,(.nilsl 1))],[],none,[1],1,[],[],[]⟩]) (.seq (.seq (.reg [⟨[],[(6,(.int .i64 0))],[],none,[1,5],1,[],[],[]⟩]) (.block 0 (.seq (.own 5 1) (.seq (.tidy 0 [1,5,6]) (.loop (.seq (.tidy 0 [1,5,6]) f18_L0)))))) (.seq (.seq (.reg [⟨[],[(7,(.int .i64 0))],[],none,[1,5],1,[],[],[]⟩]) (.block 2 (.seq (.own 5 1) (.seq (.tidy 0 [1,5,7]) (.loop (.seq (.tidy 0 [1,5,7]) f18_L2)))))) (.seq (.seq (.reg [⟨[],[(88,(.bin .gtr (.len false (.sl 5)) (.int .i64 8388608)))],[],none,[5],3,[],[],[]⟩]) (.cond (.sl 88) (.seq (.reg [⟨[],[(2,(.str [])),(3,(.int .i64 4))],[],none,[],2,[],[],[]⟩]) (.seq (.tidy 0 [2,3]) .ret)) .skip)) (.seq (.reg [⟨[],[(2,(.b2s (.sl 5))),(3,(.int .i64 0))],[],none,[],4,[],[],[]⟩]) (.seq (.tidy 0 [2,3]) .ret))))))))), [(.sl 2),(.sl 3)],false⟩
theorem f18_ok:q0J Go.Proofs.Tryz.prog 18 0 1 f18=true:=by kernel_rfl
def shT(s:Shape):Bs:=[115,104,97,112,101,32]++quoteS s.name++[32]++Lib.itoa s.fields++[10]
def glT(g:Glob):Bs:=[103,108,111,98,97,108,32]++quoteS g.name++[32]++Lib.itoa g.arity++[10]
def lnT(t:Table)(x:Instr):Bs:=[32,32]++textR t x++[10]
def goT(t:Table)(g:Glob):Bs:=glT g++g.code.flatMap (lnT t)
def allT(t:Table):Bs:=t.shapes.flatMap shT++t.globals.flatMap (goT t)
def printS(t:Table):Bs×Int:=if q5v t=0 then(if 8388608<(allT t).length then([],4) else(allT t,0)) else([],q5v t)
def M43(K:Cx):Prop:=∀(c:Bool)(l s:Bs),l.length≤1000000000000→s.length≤1000000000→s≠[]→K.eff 43 [.bsl 0 0 l.length,.d false (.str s)] [.dat c 1 (l.map eU)]=some (.bsl 0 0 (l++s).length,[.dat c 1 ((l++s).map eU)],[0])
def L46(K:Cx):Prop:=∀(t:Table)(x:Instr),Nm t→InsOk t x→K.call 46 [.agg (tabV t),.agg [.d false (.int .i64 x.op),.d false (.int .i64 x.a),.d false (.int .i64 x.b)]]=some (.d false (.str (textR t x)),[])
structure PrOk(t:Table):Prop where
  nm:Nm t
  sl:t.shapes.length≤1048576
  gl:t.globals.length≤2000
  fd:∀ s∈t.shapes,0≤s.fields∧s.fields≤8
  ar:∀ g∈t.globals,0≤g.arity∧g.arity≤24
  cd:∀ g∈t.globals,g.code.length≤8000∧∀ x∈g.code,InsOk t x
theorem shT_len{s:Shape}(h:s.name.length≤4096)(h2:0≤s.fields∧s.fields≤8):(shT s).length≤8300:=by
  have:=quote_len s.name
  have:=itoa_len s.fields (by omega) (by omega)
  simp only[shT,List.length_append,List.length_cons,List.length_nil];omega
theorem glT_len{g:Glob}(h:g.name.length≤4096)(h2:0≤g.arity∧g.arity≤24):(glT g).length≤8300:=by
  have:=quote_len g.name
  have:=itoa_len g.arity (by omega) (by omega)
  simp only[glT,List.length_append,List.length_cons,List.length_nil];omega
theorem flat_len{α:Type}{f:α→Bs}{n:Nat}:∀(l:List α),(∀ x∈l,(f x).length≤n)→(l.flatMap f).length≤l.length*n
  |[],_=>by simp
  |a :: l,h=>by
    have h1:=h a (by simp)
    have h2:=flat_len l fun x hx=>h x (by simp [hx])
    simp only[List.flatMap_cons,List.length_append,List.length_cons,Nat.add_mul,Nat.one_mul];omega
set_option maxHeartbeats 1000000 in
theorem pr_L0(K:Cx)(h43:M43 K)(h44:M44 K)(h45:M45 K)(t:Table)(ht:PrOk t):∀(k i:Nat)(l:Bs)(c:Bool),i+k=t.shapes.length→l.length≤100000*i→
    ∃ c',lp K 0 [1,5,6] f18_L0 ⟨[(1,.ptr 0 0 0),(5,.bsl 1 0 l.length),(6,.d false (.int .i64 i))],[(0,.mix 2 [tabV t]),(1,.dat c 1 (l.map eU))],2,[]⟩ =
      some (.exit 0,⟨[(1,.ptr 0 0 0),(5,.bsl 1 0 (l++(t.shapes.drop i).flatMap shT).length)],[(0,.mix 2 [tabV t]),(1,.dat c' 1 ((l++(t.shapes.drop i).flatMap shT).map eU))],2,[]⟩):=by
  have hsl:=ht.sl
  intro k
  induction k with
  |zero=>
    intro i l c hi hl
    obtain rfl:i=t.shapes.length:=by omega
    refine⟨c,?_⟩
    rw[q0I f18_L0.eq_1,List.drop_length,List.flatMap_nil,List.append_nil]
    simp only[tabV]
    simp(disch:=first|decide|omega|(simp only[LN];first|done|omega)) only[SV,SW,Nat.reduceBEq,reduceCtorEq,Nat.reduceAdd]
  |succ k ih=>
    intro i l c hi hl
    have hd:t.shapes.drop i=nth t.shapes i :: t.shapes.drop (i+1):=q0F (by omega)
    have hm:nth t.shapes (i:Int)∈t.shapes:=List.mem_of_getElem? (q0U (by omega))
    generalize hx:nth t.shapes (i:Int)=s at *
    have hn:=ht.nm.sn s hm
    have hf:=ht.fd s hm
    have c44:=h44 s.name (by omega)
    have c45:=h45 s.fields (by omega) (by omega)
    have hlen:=shT_len hn hf
    have hq:=quote_len s.name
    have hit:=itoa_len s.fields (by omega) (by omega)
    have c43:=h43 false l (shT s) (by omega) (by omega) (by simp [shT])
    obtain⟨c',ih⟩:=ih (i+1) (l++shT s) false (by omega) (by simp only[List.length_append];omega)
    refine⟨c',?_⟩
    rw[hd,List.flatMap_cons,←List.append_assoc,←ih]
    have c43':K.eff 43 [.bsl 0 0 l.length,.d false (.str ([115,104,97,112,101,32]++quoteS s.name++[32]++Lib.itoa s.fields++[10]))] [.dat false 1 (l.map eU)]=_:=c43
    clear ih hd hm ht h43 h44 h45 c43
    rw[q0I f18_L0.eq_1]
    simp only[tabV]
    simp only[List.cons_append,List.nil_append,List.append_assoc] at c43'
    generalize shT s=q at *
    simp(disch:=first|decide|omega|(simp only[LN];first|done|omega)) only[SV,SW,Nat.reduceBEq,hx,q0g,q0d,c44,Nat.reduceAdd,c45,List.append_assoc,c43',q3I,Nat.reduceSub,V.forget,V.drop1,V.ref0,lose,reduceCtorEq]
    rfl
set_option maxHeartbeats 1000000 in
theorem pr_L1(K:Cx)(h43:M43 K)(h46:L46 K)(t:Table)(ht:PrOk t)(g:Glob)(hg:g∈t.globals)(j:Nat)(B:Nat)(hB:B+20000*8000≤1000000000000):∀(k i:Nat)(l:Bs)(c:Bool),i+k=g.code.length→l.length≤B+20000*i→
    ∃ c',lp K 0 [1,5,7,8,9] f18_L1 ⟨[(1,.ptr 0 0 0),(5,.bsl 1 0 l.length),(7,.d false (.int .i64 j)),(8,.ptr 2 0 0),(9,.d false (.int .i64 i))],[(0,.mix 2 [tabV t]),(1,.dat c 1 (l.map eU)),(2,.mix 3 [[.d false (.str g.name),.d false (.int .i64 g.arity),.d false (.sl 3 (g.code.map q0j))]])],3,[]⟩ =
      some (.exit 4,⟨[(1,.ptr 0 0 0),(5,.bsl 1 0 (l++(g.code.drop i).flatMap (lnT t)).length),(7,.d false (.int .i64 j))],[(0,.mix 2 [tabV t]),(1,.dat c' 1 ((l++(g.code.drop i).flatMap (lnT t)).map eU))],2,[]⟩):=by
  obtain⟨hcl,hin⟩:=ht.cd g hg
  intro k
  induction k with
  |zero=>
    intro i l c hi hl
    obtain rfl:i=g.code.length:=by omega
    refine⟨c,?_⟩
    rw[q0I f18_L1.eq_1,List.drop_length,List.flatMap_nil,List.append_nil]
    simp only[tabV]
    simp(disch:=first|decide|omega|(simp only[LN];first|done|omega)) only[SV,SW,Nat.reduceBEq,reduceCtorEq,Nat.reduceAdd]
  |succ k ih=>
    intro i l c hi hl
    have hd:g.code.drop i=nth g.code i :: g.code.drop (i+1):=q0F (by omega)
    have hm:nth g.code (i:Int)∈g.code:=List.mem_of_getElem? (q0U (by omega))
    generalize hx:nth g.code (i:Int)=x at *
    have hok:=hin x hm
    have c46:=h46 t x ht.nm hok
    have hlen:=text_len ht.nm hok
    have hln:(lnT t x).length≤16600:=by simp only[lnT,List.length_append,List.length_cons,List.length_nil];omega
    have c43:=h43 false l (lnT t x) (by omega) (by omega) (by simp [lnT])
    obtain⟨c',ih⟩:=ih (i+1) (l++lnT t x) false (by omega) (by simp only[List.length_append];omega)
    refine⟨c',?_⟩
    rw[hd,List.flatMap_cons,←List.append_assoc,←ih]
    have c43':K.eff 43 [.bsl 0 0 l.length,.d false (.str ([32,32]++textR t x++[10]))] [.dat false 1 (l.map eU)]=_:=c43
    clear ih hd hm ht h43 h46 c43 hok
    rw[q0I f18_L1.eq_1]
    simp only[tabV] at c46 ⊢
    simp only[List.cons_append,List.nil_append,List.append_assoc] at c43'
    generalize lnT t x=q at *
    simp(disch:=first|decide|omega|(simp only[LN];first|done|omega)) only[SV,SW,Nat.reduceBEq,Nat.reduceAdd,hx,q0e,q0d,c46,c43',q3I,Nat.reduceSub,V.forget,V.drop1,V.ref0,lose,reduceCtorEq,Nat.reduceEqDiff]
    rfl
set_option maxHeartbeats 1000000 in
theorem pr_L2(K:Cx)(h43:M43 K)(h44:M44 K)(h45:M45 K)(h46:L46 K)(t:Table)(ht:PrOk t):∀(k i:Nat)(l:Bs)(c:Bool),i+k=t.globals.length→l.length≤110000000000+200000000*i→
    ∃ c',lp K 0 [1,5,7] f18_L2 ⟨[(1,.ptr 0 0 0),(5,.bsl 1 0 l.length),(7,.d false (.int .i64 i))],[(0,.mix 2 [tabV t]),(1,.dat c 1 (l.map eU))],2,[]⟩ =
      some (.exit 2,⟨[(5,.bsl 0 0 (l++(t.globals.drop i).flatMap (goT t)).length)],[(0,.dat c' 1 ((l++(t.globals.drop i).flatMap (goT t)).map eU))],1,[]⟩):=by
  have hgl:=ht.gl
  intro k
  induction k with
  |zero=>
    intro i l c hi hl
    obtain rfl:i=t.globals.length:=by omega
    refine⟨c,?_⟩
    rw[q0I f18_L2.eq_1,List.drop_length,List.flatMap_nil,List.append_nil]
    simp only[tabV]
    simp(disch:=first|decide|omega|(simp only[LN];first|done|omega)) only[SV,SW,Nat.reduceBEq]
  |succ k ih=>
    intro i l c hi hl
    have hd:t.globals.drop i=nth t.globals i :: t.globals.drop (i+1):=q0F (by omega)
    have hm:nth t.globals (i:Int)∈t.globals:=List.mem_of_getElem? (q0U (by omega))
    generalize hx:nth t.globals (i:Int)=g at *
    have hn:=ht.nm.gn g hm
    have hf:=ht.ar g hm
    have hcl:=(ht.cd g hm).1
    have c44:=h44 g.name (by omega)
    have c45:=h45 g.arity (by omega) (by omega)
    have hlen:=glT_len hn hf
    have hq:=quote_len g.name
    have hit:=itoa_len g.arity (by omega) (by omega)
    have c43:=h43 false l (glT g) (by omega) (by omega) (by simp [glT])
    obtain⟨c1,e1⟩:=pr_L1 K h43 h46 t ht g hm i (110000000000+200000000*i+10000) (by omega) g.code.length 0 (l++glT g) false (by omega) (by simp only[List.length_append];omega)
    simp only[List.drop_zero,Int.natCast_zero] at e1
    have hgo:(g.code.flatMap (lnT t)).length≤g.code.length*16600:=flat_len _ fun x hx=>by
      have:=text_len ht.nm ((ht.cd g hm).2 x hx)
      simp only[lnT,List.length_append,List.length_cons,List.length_nil];omega
    obtain⟨c',ih⟩:=ih (i+1) (l++glT g++g.code.flatMap (lnT t)) c1 (by omega) (by simp only[List.length_append];omega)
    refine⟨c',?_⟩
    rw[hd,List.flatMap_cons]
    rw[show l++(goT t g++(t.globals.drop (i+1)).flatMap (goT t))=(l++glT g++g.code.flatMap (lnT t))++(t.globals.drop (i+1)).flatMap (goT t) by simp [goT]]
    rw[←ih]
    have c43':K.eff 43 [.bsl 0 0 l.length,.d false (.str ([103,108,111,98,97,108,32]++quoteS g.name++[32]++Lib.itoa g.arity++[10]))] [.dat false 1 (l.map eU)]=_:=c43
    clear ih hd hm ht h43 h44 h45 h46 c43 hgo
    rw[q0I f18_L2.eq_1]
    simp only[tabV] at e1 ⊢
    simp only[List.cons_append,List.nil_append,List.append_assoc] at c43'
    generalize hqq:glT g=q at *
    generalize hll:l++q=m at *
    simp(disch:=first|decide|omega|(simp only[LN];first|done|omega)) only[SV,SW,Nat.reduceBEq,Nat.reduceAdd,hx,q0k,lose,q0d,c44,c45,List.append_assoc,c43',q3I,Nat.reduceSub,V.forget,V.drop1,V.ref0,reduceCtorEq,Nat.reduceEqDiff,exec_own,e1]
    rfl
theorem ins_of_nums{t:Table}{nc i:Int}{x:Instr}(h:q5A t.globals.length t.shapes.length nc i x=0)(h0:0≤i)(hw:x.a≤9223372036854775807)(hnc:nc≤8000):InsOk t x:=by
  unfold q5A at h
  by_cases g:1≤x.op∧x.op<18
  · rw[if_pos g] at h
    have key:∀ a b:Int,(if a=172∨b=172 then(172:Int) else if a≠0∨b≠0 then 174 else 0)=0→a=0∧b=0:=by
      intro a b h
      split at h
      · omega
      · split at h <;> omega
    obtain⟨ha,hb⟩:=key _ _ h
    clear h
    have:x.op=1∨x.op=2∨x.op=3∨x.op=4∨x.op=5∨x.op=6∨x.op=7∨x.op=8∨x.op=9∨x.op=10∨x.op=11∨x.op=12∨x.op=13∨x.op=14∨x.op=15∨x.op=16∨x.op=17:=by omega
    obtain⟨op,a,b⟩:=x
    simp only at this ha hb g hw
    rcases this with rfl|rfl|rfl|rfl|rfl|rfl|rfl|rfl|rfl|rfl|rfl|rfl|rfl|rfl|rfl|rfl|rfl <;>
      simp [q2g,z9s,nth,q0S] at ha hb <;> refine⟨by simp,fun hl=>?_,fun hl=>?_⟩ <;> simp [formR,PieOk,nth] at hl⊢<;> omega
  · rw[if_neg g] at h;cases h
theorem name_len{s:List UInt8}(h:q1p s=true):s.length≤4096:=by
  unfold q1p at h
  simp only[Bool.and_eq_true,decide_eq_true_eq] at h
  omega
theorem pr_ok{t:Table}(h:q5v t=0)(hs:t.shapes.length≤1048576)(hw:∀ g∈t.globals,∀ x∈g.code,x.a≤9223372036854775807):PrOk t:=by
  obtain⟨c1,c2,c3⟩:=check_ok h
  have names:(∀ s∈t.shapes,q1p s.name=true)∧∀ g∈t.globals,q1p g.name=true:=by
    unfold q5v at h
    split at h
    · cases h
    · split at h
      · cases h
      · split at h
        · cases h
        · split at h
          · cases h
          · rename_i h1 h2 h3 h4
            have m1:=q2Z _ _ _ (by simpa using h2)
            have m2:=q2Z _ _ _ (by simpa using h4)
            exact⟨fun s hs=>(m1 (s.name,s.fields) (List.mem_map.2 ⟨s,hs,rfl⟩)).1,fun g hg=>(m2 (g.name,g.arity) (List.mem_map.2 ⟨g,hg,rfl⟩)).1⟩
  refine⟨⟨fun s hs=>name_len (names.1 s hs),fun g hg=>name_len (names.2 g hg)⟩,hs,c2,fun s hs=>c1 s hs,fun g hg=>(c3 g hg).2.1,fun g hg=>⟨(c3 g hg).1,fun x hx=>?_⟩⟩
  obtain⟨a1,a2,a3⟩:=c3 g hg
  unfold q1l at a3
  split at a3
  · rename_i z
    obtain⟨i,hi⟩:=List.getElem?_of_mem hx
    have hil:i<g.code.length:=by
      rcases Nat.lt_or_ge i g.code.length with h|h
      · exact h
      · rw[List.getElem?_eq_none h] at hi;cases hi
    have hn:=z0Z g.code.length 0 z i (by omega) (by omega)
    have e:=q0U hil
    rw[hi] at e
    rw[←Option.some.inj e] at hn
    exact ins_of_nums hn (by omega) (hw g hg x hx) (by omega)
  · rename_i z;exact absurd a3 z
set_option maxHeartbeats 1000000 in
theorem ev_printR(K:Cx)(h14:L14 K)(h43:M43 K)(h44:M44 K)(h45:M45 K)(h46:L46 K)(t:Table)(hto:TabOk t)(hs:t.shapes.length≤1048576) :
    q0o K f18 [.agg (tabV t)] []=some (.tup [.d false (.str (printS t).1),.d false (.int .i64 (printS t).2)],[],[]):=by
  have c14:=h14 t hto
  unfold printS
  by_cases hc:q5v t=0
  · rw[if_pos hc]
    have ht:=pr_ok hc hs hto.wd
    rw[hc] at c14
    obtain⟨b0,e0⟩:=pr_L0 K h43 h44 h45 t ht t.shapes.length 0 [] true (by omega) (by simp)
    have hl0:(t.shapes.flatMap shT).length≤t.shapes.length*8300:=flat_len _ fun s hs'=>shT_len (ht.nm.sn s hs') (ht.fd s hs')
    obtain⟨b1,e1⟩:=pr_L2 K h43 h44 h45 h46 t ht t.globals.length 0 (t.shapes.flatMap shT) b0 (by omega) (by omega)
    simp only[List.drop_zero,List.nil_append,Int.natCast_zero,List.length_nil,List.map_nil] at e0 e1
    rw[show t.shapes.flatMap shT++t.globals.flatMap (goT t)=allT t from rfl] at e1
    clear ht h43 h44 h45 h46 h14 hto hc hl0
    simp only[tabV] at e0 e1 ⊢
    generalize t.shapes.flatMap shT=q at e0 e1
    have hb:=b2s_bslU [(0,.dat b1 1 ((allT t).map eU))] 0 (allT t).length b1 (allT t) rfl rfl
    by_cases hbig:8388608<(allT t).length
    · rw[if_pos hbig]
      have hbi:(8388608:Int)<((allT t).length:Int):=by omega
      generalize allT t=q2 at *
      simp(disch:=first|decide|omega|(simp only[LN];first|done|omega)) only[SV,SW,f18,Nat.reduceAdd,Nat.reduceBEq,q0d,c14,exec_own,reduceCtorEq,e0,e1,q0b]
      trace_state
    · rw[if_neg hbig]
      have hbi:¬(8388608:Int)<((allT t).length:Int):=by omega
      generalize allT t=q2 at *
      simp(disch:=first|decide|omega|(simp only[LN];first|done|omega)) only[SV,SW,f18,Nat.reduceAdd,Nat.reduceBEq,q0d,c14,exec_own,reduceCtorEq,e0,e1,e_b2s,hb,q0b]
      trace_state
  · rw[if_neg hc]
    have hb:(q5v t != 0)=true:=by simpa using hc
    clear h43 h44 h45 h46 h14 hto hc
    simp only[tabV]
    generalize q5v t=z at *
    simp(disch:=first|decide|omega|(simp only[LN];first|done|omega)) only[SV,SW,f18,Nat.reduceAdd,Nat.reduceBEq,q0d,c14,hb,q0b]
end Go.Vm
end

section
namespace Go.Vm
set_option maxRecDepth 20000
theorem index_one (b c:UInt8) (l:Bs):Lib.index (b :: l) [c]=if b=c then 0 else if Lib.index l [c]=-1 then -1 else Lib.index l [c]+1:=by
 simp only [Lib.index,List.isPrefixOf,Bool.and_true]
 by_cases h:b=c
 ·subst h;simp
 ·have h2:(c == b)=false:=by simpa using fun e=>h e.symm
  rw [if_neg h,h2]
  by_cases h3:Lib.index l [c]=-1
  ·simp [h3]
  ·simp [h3]
def rep1 (c:UInt8) (new:Bs) (s:Bs):Bs:=s.flatMap fun x=>if x=c then new else [x]
theorem repK_skip (c:UInt8) (new:Bs) (b:UInt8) (hb:b≠c):∀ (k:Nat) (l:Bs),Lib.replaceK [c] new k (b :: l)=b :: Lib.replaceK [c] new k l
 | 0,l=>rfl
 | k+1,l=>by
  simp only [Lib.replaceK,index_one,if_neg hb,beq_iff_eq]
  by_cases h:Lib.index l [c]=-1
  ·simp only [h,if_true]
  ·have hg:=Lib.index_ge l [c]
   rw [if_neg h,if_neg (by omega),if_neg h]
   obtain ⟨i,hi⟩:∃ i:Nat,Lib.index l [c]=i:=⟨(Lib.index l [c]).toNat,by omega⟩
   rw [hi]
   rw [show ((i:Int)+1).toNat=i+1 by omega,show (i:Int).toNat=i by omega]
   simp [List.take_succ_cons,Nat.add_right_comm]
theorem repK_hit (c:UInt8) (new:Bs) (k:Nat) (l:Bs):Lib.replaceK [c] new (k+1) (c :: l)=new++Lib.replaceK [c] new k l:=by
 simp only [Lib.replaceK,index_one,if_true]
 simp
theorem repK_nil (c:UInt8) (new:Bs):∀ k,Lib.replaceK [c] new k []=[]
 | 0=>rfl
 | k+1=>rfl
theorem repK_all (c:UInt8) (new:Bs):∀ (s:Bs) (k:Nat),s.count c≤k→Lib.replaceK [c] new k s=rep1 c new s
 | [],k,_=>by rw [repK_nil];rfl
 | b :: l,k,h=>by
  by_cases hb:b=c
  ·subst hb
   rw [List.count_cons_self] at h
   obtain ⟨m,rfl⟩:∃ m,k=m+1:=⟨k - 1,by omega⟩
   rw [repK_hit,repK_all b new l m (by omega)]
   simp [rep1]
  ·rw [List.count_cons_of_ne (fun e=>hb (by simpa using e))] at h
   rw [repK_skip c new b hb,repK_all c new l k h]
   simp [rep1,hb]
theorem cf_skip (c b:UInt8) (hb:b≠c) (k:Nat) (l:Bs):Lib.countFrom [c] (k+1) (b :: l)=Lib.countFrom [c] (k+1) l:=by
 simp only [Lib.countFrom,index_one,if_neg hb,beq_iff_eq]
 by_cases h:Lib.index l [c]=-1
 ·simp [h]
 ·have hg:=Lib.index_ge l [c]
  rw [if_neg h,if_neg (by omega),if_neg h]
  obtain ⟨i,hi⟩:∃ i:Nat,Lib.index l [c]=i:=⟨(Lib.index l [c]).toNat,by omega⟩
  rw [hi,show ((i:Int)+1).toNat=i+1 by omega,show (i:Int).toNat=i by omega]
  simp [Nat.add_right_comm]
theorem cf_hit (c:UInt8) (k:Nat) (l:Bs):Lib.countFrom [c] (k+1) (c :: l)=1+Lib.countFrom [c] k l:=by
 simp only [Lib.countFrom,index_one,if_true]
 simp
theorem countFrom_one (c:UInt8):∀ (s:Bs) (k:Nat),s.length < k→Lib.countFrom [c] k s=s.count c
 | [],0,h=>by simp at h
 | [],k+1,_=>rfl
 | b :: l,0,h=>by simp at h
 | b :: l,k+1,h=>by
  simp only [List.length_cons] at h
  by_cases hb:b=c
  ·subst hb
   rw [cf_hit,List.count_cons_self,countFrom_one b l k (by omega)];omega
  ·rw [cf_skip c b hb,List.count_cons_of_ne (fun e=>hb (by simpa using e)),countFrom_one c l (k+1) (by omega)]
theorem count_one (s:Bs) (c:UInt8):Lib.count s [c]=s.count c:=countFrom_one c s _ (by omega)
theorem replaceAll_one (c:UInt8) (new s:Bs) (h:new≠[c]):Lib.replaceAll s [c] new=rep1 c new s:=by
 unfold Lib.replaceAll Lib.replace Lib.replaceNum
 have hb:([c] == new)=false:=by simpa using fun e=>h e.symm
 rw [hb,if_neg (by simp),if_pos (Or.inl (by omega)),count_one]
 exact repK_all c new s _ (Nat.le_refl _)
theorem quote_law (s:Bs):rep1 34 [92,34] (rep1 92 [92,92] s)=s.flatMap escQ:=by
 induction s with
 | nil=>rfl
 | cons x l ih=>
  have h1:rep1 92 [92,92] (x :: l)=(if x=92 then [92,92] else [x])++rep1 92 [92,92] l:=by simp [rep1]
  have h2:∀ a b:Bs,rep1 34 [92,34] (a++b)=rep1 34 [92,34] a++rep1 34 [92,34] b:=fun a b=>by simp [rep1]
  rw [h1,h2,ih,List.flatMap_cons]
  congr 1
  unfold escQ
  by_cases e1:x=92
  ·subst e1;rfl
  ·by_cases e2:x=34
   ·subst e2;rfl
   ·rw [if_neg e1,if_neg (by rintro (h | h);exact e2 h;exact e1 h)]
    simp [rep1,e2]
theorem rep1_len (c:UInt8) (new s:Bs) (h:new.length≤2):(rep1 c new s).length≤2 * s.length:=by
 have:=flat_len (f:=fun x=>if x=c then new else [x]) (n:=2) s fun x _=>by split;exact h;simp
 simp only [rep1];omega
end Go.Vm
end

section
namespace Go.Vm
set_option maxRecDepth 20000
open Go.Proofs
def N88(K:Cx):Prop:=∀(s old new:Bs),s.length≤100000→old.length=1→new.length≤2→K.call 88 [.d false (.str s),.d false (.str old),.d false (.str new)]=some (.d false (.str (Lib.replaceAll s old new)),[])
def N49(K:Cx):Prop:=∀ n:Int,-9223372036854775808≤n→n≤9223372036854775807→K.call 49 [.d false (.int .i64 n)]=some (.d false (.str (Lib.itoa n)),[])
theorem ev_quote(K:Cx)(h:N88 K)(s:Bs)(hs:s.length≤4096):q0o K f48 [.d false (.str s)] []=some (.d false (.str (quoteS s)),[],[]):=by
  have c1:=h s [92] [92,92] (by omega) rfl (by simp)
  rw[replaceAll_one 92 [92,92] s (by decide)] at c1
  have l1:=rep1_len 92 [92,92] s (by simp)
  have c2:=h (rep1 92 [92,92] s) [34] [92,34] (by omega) rfl (by simp)
  rw[replaceAll_one 34 [92,34] _ (by decide),quote_law] at c2
  have l2:=escQ_len s
  have hq:quoteS s=34 :: (s.flatMap escQ++[34]):=rfl
  rw[hq]
  generalize rep1 92 [92,92] s=q at *
  generalize s.flatMap escQ=q2 at *
  clear h
  simp(disch:=first|decide|omega|(simp only[LN];first|done|omega)) only[SV,SW,f48,q0d,c1,c2,q0b]
theorem ev_opsC(K:Cx):q0o K f108 [] []=some (.d true (.sl 1 (opsL.map eStr)),[],[]):=by
  simp(disch:=first|decide|omega|(simp only[LN];first|done|omega)) only[SV,SW,f108,Nat.reduceAdd,q0b,hNew,V.forget,V.drop1,V.ref0,V.newR,q0d,opsL,eStr_eq]
def N48(K:Cx):Prop:=∀ s:Bs,s.length≤4096→K.call 48 [.d false (.str s)]=some (.d false (.str (quoteS s)),[])
def N108(K:Cx):Prop:=K.call 108 []=some (.d true (.sl 1 (opsL.map eStr)),[])
def pieceC(t:Table)(k n:Int):Bs:=if k=4 then quoteS (nth t.globals n).name else if k=5 then quoteS (nth t.shapes n).name else if k=6 then nth opsL n else Lib.itoa n
def PiC(t:Table)(k n:Int):Prop:=(k=4∧0≤n∧n<t.globals.length)∨(k=5∧0≤n∧n<t.shapes.length)∨(k=6∧1≤n∧n≤11)∨(k≠4∧k≠5∧k≠6∧-9223372036854775807≤n∧n≤9223372036854775807)
set_option maxHeartbeats 1000000 in
theorem ev_pieceC(K:Cx)(h48:N48 K)(h49:N49 K)(h108:N108 K)(t:Table)(ht:Nm t)(k n:Int)(hp:PiC t k n):q0o K f90 [.agg (tabV t),.d false (.int .i64 k),.d false (.int .i64 n)] []=some (.d false (.str (pieceC t k n)),[],[]):=by
  have hop:opsL.length=12:=rfl
  unfold pieceC
  simp only[tabV]
  rcases hp with⟨rfl,b0,b1⟩|⟨rfl,b0,b1⟩|⟨rfl,b0,b1⟩|⟨k4,k5,k6,b0,b1⟩
  · rw[if_pos rfl]
    have c:=h48 (nth t.globals n).name (ht.gn _ (nth_in b0 b1))
    simp(disch:=first|decide|omega|(simp only[LN];first|done|omega)) only[SV,SW,f90,Nat.reduceAdd,Nat.reduceBEq,q0k,q0d,c,q0b]
  · rw[if_neg (by decide),if_pos rfl]
    have c:=h48 (nth t.shapes n).name (ht.sn _ (nth_in b0 b1))
    simp(disch:=first|decide|omega|(simp only[LN];first|done|omega)) only[SV,SW,f90,Nat.reduceAdd,Nat.reduceBEq,q0g,q0d,c,q0b]
  · rw[if_neg (by decide),if_neg (by decide),if_pos rfl]
    have c:K.call 108 []=some (.d true (.sl 1 (opsL.map eStr)),[]):=h108
    simp(disch:=first|decide|omega|(simp only[LN];first|done|omega)) only[SV,SW,f90,Nat.reduceAdd,Nat.reduceBEq,c,eStr_eq,q0b]
  · rw[if_neg k4,if_neg k5,if_neg k6]
    have c:=h49 n (by omega) (by omega)
    have e4:(k==4)=false:=by simpa using k4
    have e5:(k==5)=false:=by simpa using k5
    have e6:(k==6)=false:=by simpa using k6
    clear k4 k5 k6
    simp(disch:=first|decide|omega|(simp only[LN];first|done|omega)) only[SV,SW,f90,Nat.reduceAdd,Nat.reduceBEq,e4,e5,e6,q0d,c,q0b]
def N90(K:Cx):Prop:=∀(t:Table)(k n:Int),Nm t→PiC t k n→K.call 90 [.agg (tabV t),.d false (.int .i64 k),.d false (.int .i64 n)]=some (.d false (.str (pieceC t k n)),[])
def lineC(t:Table)(x:Instr):Bs:=[32,32]++(q2g x.op).1++((if(q2g x.op).2.1≠0 then 32 :: pieceC t (q2g x.op).2.1 x.a else [])++((if(q2g x.op).2.2≠0 then 32 :: Lib.itoa x.b else [])++[10]))
theorem pieceC_len{t:Table}(ht:Nm t){k n:Int}(hp:PiC t k n):(pieceC t k n).length≤8200:=by
  unfold pieceC
  rcases hp with⟨rfl,b0,b1⟩|⟨rfl,b0,b1⟩|⟨rfl,b0,b1⟩|⟨k4,k5,k6,b0,b1⟩
  · rw[if_pos rfl];have:=quote_len (nth t.globals n).name;have:=ht.gn _ (nth_in b0 b1);omega
  · rw[if_neg (by decide),if_pos rfl];have:=quote_len (nth t.shapes n).name;have:=ht.sn _ (nth_in b0 b1);omega
  · rw[if_neg (by decide),if_neg (by decide),if_pos rfl];have:=ops_len n b0 b1;omega
  · rw[if_neg k4,if_neg k5,if_neg k6];have:=itoa_len n b0 b1;omega
structure LiOk(t:Table)(x:Instr):Prop where
  op:1≤x.op∧x.op<18
  a:(q2g x.op).2.1≠0→PiC t (q2g x.op).2.1 x.a
  b:(q2g x.op).2.2≠0→-9223372036854775807≤x.b∧x.b≤9223372036854775807
theorem formS_ok{op:Int}(h:1≤op∧op<18):(q2g op).1.length≤10∧((q2g op).2.2≠0→(q2g op).2.1≠0):=by
  unfold q2g
  rw[if_pos h]
  have:op=1∨op=2∨op=3∨op=4∨op=5∨op=6∨op=7∨op=8∨op=9∨op=10∨op=11∨op=12∨op=13∨op=14∨op=15∨op=16∨op=17:=by omega
  clear h
  rcases this with rfl|rfl|rfl|rfl|rfl|rfl|rfl|rfl|rfl|rfl|rfl|rfl|rfl|rfl|rfl|rfl|rfl <;> decide
theorem line_law{t:Table}{x:Instr}(hx:InsOk t x):lineC t x=lnT t x∧LiOk t x:=by
  obtain⟨op,a,b⟩:=x
  obtain⟨h1,h2,h3⟩:=hx
  simp only at h1 h2 h3
  have:op=1∨op=2∨op=3∨op=4∨op=5∨op=6∨op=7∨op=8∨op=9∨op=10∨op=11∨op=12∨op=13∨op=14∨op=15∨op=16∨op=17:=by omega
  rcases this with rfl|rfl|rfl|rfl|rfl|rfl|rfl|rfl|rfl|rfl|rfl|rfl|rfl|rfl|rfl|rfl|rfl <;>
    (simp [formR,PieOk,nth] at h2 h3
     refine⟨by simp [lineC,lnT,textR,q2g,z9s,formR,nth,pieceC,pieceR,wordsL],⟨h1,fun h=>?_,fun h=>?_⟩⟩ <;> simp [q2g,z9s,nth,PiC] at h⊢<;> omega)
end Go.Vm
end

section
namespace Go.Proofs
open Go.Shelf
def Tryz.lays155_ren:Go.Shelf.Ren:=⟨fun|155=>88|154=>106|138=>115|165=>116|143=>117|166=>47|197=>118|169=>52|195=>127|218=>128|240=>87|241=>129|219=>130|260=>131|276=>105|277=>143|217=>137|225=>144|224=>145|267=>146|266=>149|314=>153|n=>n,fun|9=>9|3=>3|4=>4|72=>78|0=>0|76=>81|105=>154|21=>21|5=>5|70=>76|20=>20|37=>40|75=>80|127=>131|164=>145|46=>109|119=>178|139=>181|138=>180|146=>188|51=>107|80=>84|n=>n,fun|1=>1|3=>2|4=>3|n=>n⟩
theorem Tryz.lays155:Go.Proofs.Lays.n155 Tryz.prog Tryz.lays155_ren:={
  mixed:=by kernel_rfl
  f138:=Tryz.func115.trans (congrArg some (by kernel_rfl))
  f143:=Tryz.func117.trans (congrArg some (by kernel_rfl))
  f154:=Tryz.func106.trans (congrArg some (by kernel_rfl))
  f155:=Tryz.func88.trans (congrArg some (by kernel_rfl))
  f165:=Tryz.func116.trans (congrArg some (by kernel_rfl))
  f166:=Tryz.func47.trans (congrArg some (by kernel_rfl))
  f169:=Tryz.func52.trans (congrArg some (by kernel_rfl))
  f195:=Tryz.func127.trans (congrArg some (by kernel_rfl))
  f197:=Tryz.func118.trans (congrArg some (by kernel_rfl))
  f217:=Tryz.func137.trans (congrArg some (by kernel_rfl))
  f218:=Tryz.func128.trans (congrArg some (by kernel_rfl))
  f219:=Tryz.func130.trans (congrArg some (by kernel_rfl))
  f224:=Tryz.func145.trans (congrArg some (by kernel_rfl))
  f225:=Tryz.func144.trans (congrArg some (by kernel_rfl))
  f240:=Tryz.func87.trans (congrArg some (by kernel_rfl))
  f241:=Tryz.func129.trans (congrArg some (by kernel_rfl))
  f260:=Tryz.func131.trans (congrArg some (by kernel_rfl))
  f266:=Tryz.func149.trans (congrArg some (by kernel_rfl))
  f267:=Tryz.func146.trans (congrArg some (by kernel_rfl))
  f276:=Tryz.func105.trans (congrArg some (by kernel_rfl))
  f277:=Tryz.func143.trans (congrArg some (by kernel_rfl))
  f314:=Tryz.func153.trans (congrArg some (by kernel_rfl))
  t0:=Tryz.underlying0
  a0:=Tryz.isAgg0
  z0:=Tryz.sizeOf0
  v0:=Tryz.zeroValue0
  t3:=Tryz.underlying3
  a3:=Tryz.isAgg3
  z3:=Tryz.sizeOf3
  v3:=Tryz.zeroValue3
  t4:=Tryz.underlying4
  a4:=Tryz.isAgg4
  z4:=Tryz.sizeOf4
  v4:=Tryz.zeroValue4
  t5:=Tryz.underlying5
  a5:=Tryz.isAgg5
  z5:=Tryz.sizeOf5
  v5:=Tryz.zeroValue5
  t9:=Tryz.underlying9
  a9:=Tryz.isAgg9
  z9:=Tryz.sizeOf9
  v9:=Tryz.zeroValue9
  t20:=Tryz.underlying20
  a20:=Tryz.isAgg20
  z20:=Tryz.sizeOf20
  v20:=Tryz.zeroValue20
  t21:=Tryz.underlying21
  a21:=Tryz.isAgg21
  z21:=Tryz.sizeOf21
  v21:=Tryz.zeroValue21
  t37:=Tryz.underlying40
  a37:=Tryz.isAgg40
  z37:=Tryz.sizeOf40
  v37:=Tryz.zeroValue40
  t46:=Tryz.underlying109
  a46:=Tryz.isAgg109
  z46:=Tryz.sizeOf109
  v46:=Tryz.zeroValue109
  t51:=Tryz.underlying107
  a51:=Tryz.isAgg107
  z51:=Tryz.sizeOf107
  v51:=Tryz.zeroValue107
  t70:=Tryz.underlying76
  a70:=Tryz.isAgg76
  z70:=Tryz.sizeOf76
  v70:=Tryz.zeroValue76
  t72:=Tryz.underlying78
  a72:=Tryz.isAgg78
  z72:=Tryz.sizeOf78
  v72:=Tryz.zeroValue78
  t75:=Tryz.underlying80
  a75:=Tryz.isAgg80
  z75:=Tryz.sizeOf80
  v75:=Tryz.zeroValue80
  t76:=Tryz.underlying81
  a76:=Tryz.isAgg81
  z76:=Tryz.sizeOf81
  v76:=Tryz.zeroValue81
  t105:=Tryz.underlying154
  a105:=Tryz.isAgg154
  z105:=Tryz.sizeOf154
  v105:=Tryz.zeroValue154
  t119:=Tryz.underlying178
  a119:=Tryz.isAgg178
  z119:=Tryz.sizeOf178
  t127:=Tryz.underlying131
  a127:=Tryz.isAgg131
  z127:=Tryz.sizeOf131
  v127:=Tryz.zeroValue131
  t138:=Tryz.underlying180
  a138:=Tryz.isAgg180
  z138:=Tryz.sizeOf180
  v138:=Tryz.zeroValue180
  t139:=Tryz.underlying181
  a139:=Tryz.isAgg181
  z139:=Tryz.sizeOf181
  v139:=Tryz.zeroValue181
  t146:=Tryz.underlying188
  a146:=Tryz.isAgg188
  z146:=Tryz.sizeOf188
  v146:=Tryz.zeroValue188
  t164:=Tryz.underlying145
  a164:=Tryz.isAgg145
  z164:=Tryz.sizeOf145
  v164:=Tryz.zeroValue145
  g1:=by kernel_rfl
  g3:=by kernel_rfl
  g4:=by kernel_rfl }
theorem Tryz.Builder_Extra_155:Builder.Extra Tryz.prog Tryz.lays155_ren:={
  sizeBuilder:=by kernel_rfl
  liesBuilder:=by kernel_rfl
  t5:=Tryz.underlying5
  a5:=Tryz.isAgg5
  z5:=Tryz.sizeOf5
  v5:=Tryz.zeroValue5
  infoByte:=by kernel_rfl
  cellsByte:=by kernel_rfl
  sizeByte:=by kernel_rfl
  neB5:=by decide }
end Go.Proofs
namespace Go.Vm
open Go.RowKit Go.Shelf Go.Proofs
def GTm(m:Int):Nat→Option (List D):=fun g=>if g=1 then some [.int .i64 m] else GT g
theorem gt_1:GT 1=none:=by kernel_rfl
theorem glob_less{m:Int}{w:World}{F:Nat→Prop}(h:GlobRel w F (GTm m)):GlobRel w F GT:=by
  intro g cs hg
  refine h g cs ?_
  unfold GTm
  by_cases e:g=1
  · subst e;rw[gt_1] at hg;cases hg
  · rw[if_neg e];exact hg
theorem Known.more{m:Int}{L:List Sp}{E:List Se}(h:Known Tryz.prog GT L E):Known Tryz.prog (GTm m) L E:=
  ⟨fun s hs a ha=>⟨(h.one s hs a ha).1,fun w F vals hF hG hR=>(h.one s hs a ha).2 w F vals hF (glob_less hG) hR⟩,
   fun s hs a ha=>⟨(h.eff s hs a ha).1,fun w F σ vals hG hH hR=>(h.eff s hs a ha).2 w F σ vals (glob_less hG) hH hR⟩⟩
end Go.Vm
end

section
namespace Go.Vm
set_option maxRecDepth 20000
open Go.Proofs
set_option maxHeartbeats 2000000 in
theorem ev_line(K:Cx)(h40:K40 K)(h49:N49 K)(h90:N90 K)(t:Table)(ht:Nm t)(x:Instr)(hx:LiOk t x) :
  q0o K f50 [.agg (tabV t),.agg [.d false (.int .i64 x.op),.d false (.int .i64 x.a),.d false (.int .i64 x.b)]] []=some (.d false (.str (lineC t x)),[],[]):=by
 have c40:=h40 x.op
 rw[decide_eq_true hx.op] at c40
 obtain⟨w1,w2⟩:=formS_ok hx.op
 have ha:=hx.a
 have hb:=hx.b
 unfold lineC
 unfold z6o at c40
 generalize q2g x.op=f at *
 obtain⟨w,ka,kb⟩:=f
 simp only at *
 by_cases b0:kb=0
 ·subst b0
  rw[if_neg (show ¬((0:Int)≠0) by simp)]
  by_cases a0:ka=0
  ·subst a0
   rw[if_neg (show ¬((0:Int)≠0) by simp)]
   clear ha hb w2 h49 h90 h40 hx
   simp only[tabV]
   simp(disch:=first|decide|omega|(simp only[LN];first|done|omega)) only[SV,SW,f50,Nat.reduceAdd,Nat.reduceBEq,q0d,c40,lose,Nat.reduceEqDiff,q0b]
  ·have c90:=h90 t ka x.a ht (ha a0)
   have l90:=pieceC_len ht (ha a0)
   rw[if_pos a0]
   have a1:(ka != 0)=true:=by simpa using a0
   clear ha hb w2 h49 h90 h40 hx a0
   simp only[tabV] at c90 ⊢
   generalize pieceC t ka x.a=q at *
   simp(disch:=first|decide|omega|(simp only[LN];first|done|omega)) only[SV,SW,f50,Nat.reduceAdd,Nat.reduceBEq,q0d,c40,lose,a1,reduceCtorEq,Nat.reduceEqDiff,c90,q0b]
   trace_state
 ·have a0:=w2 b0
  have c90:=h90 t ka x.a ht (ha a0)
  have l90:=pieceC_len ht (ha a0)
  obtain⟨g1,g2⟩:=hb b0
  have c49:=h49 x.b (by omega) g2
  have l49:=itoa_len x.b g1 g2
  rw[if_pos a0,if_pos b0]
  have b1:(kb != 0)=true:=by simpa using b0
  clear ha hb w2 h49 h90 h40 hx a0 b0
  simp only[tabV] at c90 ⊢
  generalize pieceC t ka x.a=q at *
  generalize Lib.itoa x.b=q2 at *
  simp(disch:=first|decide|omega|(simp only[LN];first|done|omega)) only[SV,SW,f50,Nat.reduceAdd,Nat.reduceBEq,q0d,c40,lose,b1,reduceCtorEq,Nat.reduceEqDiff,c49,c90,q0b]
  trace_state
end Go.Vm
end

section
namespace Go.Vm
set_option maxRecDepth 20000
open Go.Proofs
def E47(K:Cx):Prop:=∀(b s:Bs),b.length≤1000000000000→s.length≤1000000000→K.eff 47 [.ptr 0 0 0,.d false (.str s)] [.map [(.nils 78,.bsl 1 0 b.length)],.map [(.emps 5,.d false .nilp),(.str b,.d false .nilp)]]=some (.tup [.d false (.int .i64 s.length),.d false .nilif],[.map [(.nils 78,.bsl 1 0 (b++s).length)],.map [(.emps 5,.d false .nilp),(.str (b++s),.d false .nilp)]],[1])
def E51(K:Cx):Prop:=∀ b:Bs,K.eff 51 [.ptr 0 0 0] [.map [(.nils 78,.bsl 1 0 b.length)],.map [(.emps 5,.d false .nilp),(.str b,.d false .nilp)]]=some (.d false (.int .i64 b.length),[.map [(.nils 78,.bsl 1 0 b.length)],.map [(.emps 5,.d false .nilp),(.str b,.d false .nilp)]],[])
def E52(K:Cx):Prop:=∀ b:Bs,K.eff 52 [.ptr 0 0 0] [.map [(.nils 78,.bsl 1 0 b.length)],.map [(.emps 5,.d false .nilp),(.str b,.d false .nilp)]]=some (.d false (.str b),[.map [(.nils 78,.bsl 1 0 b.length)],.map [(.emps 5,.d false .nilp),(.str b,.d false .nilp)]],[1])
def N50(K:Cx):Prop:=∀(t:Table)(x:Instr),Nm t→InsOk t x→K.call 50 [.agg (tabV t),.agg [.d false (.int .i64 x.op),.d false (.int .i64 x.a),.d false (.int .i64 x.b)]]=some (.d false (.str (lnT t x)),[])
def bH(t:Table)(b:Bs):List (Nat×Blk):=[(0,.mix 2 [tabV t]),(1,.map [(.nils 78,.bsl 2 0 b.length)]),(2,.map [(.emps 5,.d false .nilp),(.str b,.d false .nilp)])]
set_option maxHeartbeats 1000000 in
theorem pc_L0(K:Cx)(h47:E47 K)(h48:N48 K)(h49:N49 K)(t:Table)(ht:PrOk t):∀(k i:Nat)(b:Bs),i+k=t.shapes.length→b.length≤100000*i→
  lp K 0 [1,5,18,19,20] j1D ⟨[(1,.ptr 0 0 0),(5,.ptr 1 0 0),(18,.d false (.sl 2 (t.shapes.map q0c))),(19,.d false (.int .i64 t.shapes.length)),(20,.d false (.int .i64 i))],bH t b,3,[]⟩ =
   some (.exit 0,⟨[(1,.ptr 0 0 0),(5,.ptr 1 0 0)],bH t (b++(t.shapes.drop i).flatMap shT),3,[]⟩):=by
 have hsl:=ht.sl
 intro k
 induction k with
 |zero=>
  intro i b hi hl
  obtain rfl:i=t.shapes.length:=by omega
  rw[q0I j1D.eq_1,List.drop_length,List.flatMap_nil,List.append_nil]
  simp only[bH,tabV]
  simp(disch:=first|decide|omega|(simp only[LN];first|done|omega)) only[SV,SW,Nat.reduceBEq,reduceCtorEq,Nat.reduceEqDiff,Nat.reduceAdd]
 |succ k ih=>
  intro i b hi hl
  have hd:t.shapes.drop i=nth t.shapes i :: t.shapes.drop (i+1):=q0F (by omega)
  have hm:nth t.shapes (i:Int)∈t.shapes:=List.mem_of_getElem? (q0U (by omega))
  generalize hx:nth t.shapes (i:Int)=s at *
  have hn:=ht.nm.sn s hm
  have hf:=ht.fd s hm
  have c48:=h48 s.name hn
  have c49:=h49 s.fields (by omega) (by omega)
  have hlen:=shT_len hn hf
  have hq:=quote_len s.name
  have hit:=itoa_len s.fields (by omega) (by omega)
  have c47:=h47 b (shT s) (by omega) (by omega)
  have ih:=ih (i+1) (b++shT s) (by omega) (by simp only[List.length_append];omega)
  rw[hd,List.flatMap_cons,←List.append_assoc,←ih]
  have c47':K.eff 47 [.ptr 0 0 0,.d false (.str ([115,104,97,112,101,32]++quoteS s.name++[32]++Lib.itoa s.fields++[10]))] [.map [(.nils 78,.bsl 1 0 b.length)],.map [(.emps 5,.d false .nilp),(.str b,.d false .nilp)]]=_:=c47
  clear ih hd hm ht h47 h48 h49 c47
  rw[q0I j1D.eq_1]
  simp only[bH,tabV]
  simp only[List.cons_append,List.nil_append,List.append_assoc] at c47'
  generalize shT s=q at *
  simp(disch:=first|decide|omega|(simp only[LN];first|done|omega)) only[SV,SW,Nat.reduceBEq,Nat.reduceAdd,hx,q0g,lose,q0d,c48,c49,List.append_assoc,Nat.reduceEqDiff,c47',q3I,Nat.reduceSub,V.forget,V.drop1,V.ref0,reduceCtorEq]
  rfl
set_option maxHeartbeats 1000000 in
theorem pc_L1(K:Cx)(h47:E47 K)(h50:N50 K)(t:Table)(ht:PrOk t)(g:Glob)(hg:g∈t.globals)(j n:Int)(B:Nat)(hB:B+20000*8000≤1000000000000):∀(k i:Nat)(b:Bs),i+k=g.code.length→b.length≤B+20000*i→
  lp K 0 [1,5,37,38,39,55,56,57] j1C ⟨[(1,.ptr 0 0 0),(5,.ptr 1 0 0),(37,.d false (.sl 3 (t.globals.map q0l))),(38,.d false (.int .i64 n)),(39,.d false (.int .i64 j)),(55,.d false (.sl 3 (g.code.map q0j))),(56,.d false (.int .i64 g.code.length)),(57,.d false (.int .i64 i))],bH t b,3,[]⟩ =
   some (.exit 4,⟨[(1,.ptr 0 0 0),(5,.ptr 1 0 0),(37,.d false (.sl 3 (t.globals.map q0l))),(38,.d false (.int .i64 n)),(39,.d false (.int .i64 j))],bH t (b++(g.code.drop i).flatMap (lnT t)),3,[]⟩):=by
 obtain⟨hcl,hin⟩:=ht.cd g hg
 intro k
 induction k with
 |zero=>
  intro i b hi hl
  obtain rfl:i=g.code.length:=by omega
  rw[q0I j1C.eq_1,List.drop_length,List.flatMap_nil,List.append_nil]
  simp only[bH,tabV]
  simp(disch:=first|decide|omega|(simp only[LN];first|done|omega)) only[SV,SW,Nat.reduceBEq,reduceCtorEq,Nat.reduceEqDiff,Nat.reduceAdd]
 |succ k ih=>
  intro i b hi hl
  have hd:g.code.drop i=nth g.code i :: g.code.drop (i+1):=q0F (by omega)
  have hm:nth g.code (i:Int)∈g.code:=List.mem_of_getElem? (q0U (by omega))
  generalize hx:nth g.code (i:Int)=x at *
  have hok:=hin x hm
  have c50:=h50 t x ht.nm hok
  have hlen:=text_len ht.nm hok
  have hln:(lnT t x).length≤16600:=by simp only[lnT,List.length_append,List.length_cons,List.length_nil];omega
  have c47:=h47 b (lnT t x) (by omega) (by omega)
  have ih:=ih (i+1) (b++lnT t x) (by omega) (by simp only[List.length_append];omega)
  rw[hd,List.flatMap_cons,←List.append_assoc,←ih]
  clear ih hd hm ht h47 h50 hok
  rw[q0I j1C.eq_1]
  simp only[tabV] at c50
  simp only[bH,tabV]
  generalize lnT t x=q at *
  simp(disch:=first|decide|omega|(simp only[LN];first|done|omega)) only[SV,SW,Nat.reduceBEq,Nat.reduceAdd,hx,q0e,lose,q0d,c50,Nat.reduceEqDiff,c47,q3I,Nat.reduceSub,V.forget,V.drop1,V.ref0,reduceCtorEq]
  rfl
def pgL(t:Table)(b:Bs):List Glob→Option Bs
 |[]=>some b
 |g :: r=>if 8388608<(b++goT t g).length then none else pgL t (b++goT t g) r
def pgOut(t:Table):Option Bs→Ex×S
 |some b=>(.exit 2,⟨[(5,.ptr 0 0 0)],[(0,.map [(.nils 78,.bsl 1 0 b.length)]),(1,.map [(.emps 5,.d false .nilp),(.str b,.d false .nilp)])],2,[]⟩)
 |none=>(.ret,⟨[(2,.d false (.str [])),(3,.d false (.int .i64 4))],[],0,[]⟩)
theorem goT_len{t:Table}(ht:PrOk t){g:Glob}(hg:g∈t.globals):(goT t g).length≤140000000:=by
 have h1:=glT_len (ht.nm.gn g hg) (ht.ar g hg)
 have h2:(g.code.flatMap (lnT t)).length≤g.code.length*16600:=flat_len _ fun x hx=>by
  have:=text_len ht.nm ((ht.cd g hg).2 x hx)
  simp only[lnT,List.length_append,List.length_cons,List.length_nil];omega
 have h3:=(ht.cd g hg).1
 simp only[goT,List.length_append];omega
set_option maxHeartbeats 1000000 in
theorem pc_L2(K:Cx)(h47:E47 K)(h48:N48 K)(h49:N49 K)(h50:N50 K)(h51:E51 K)(t:Table)(ht:PrOk t):∀(k i:Nat)(b:Bs),i+k=t.globals.length→b.length≤200000000000→
  lp K 0 [1,5,37,38,39] j1B ⟨[(1,.ptr 0 0 0),(5,.ptr 1 0 0),(37,.d false (.sl 3 (t.globals.map q0l))),(38,.d false (.int .i64 t.globals.length)),(39,.d false (.int .i64 i))],bH t b,3,[]⟩ =
   some (pgOut t (pgL t b (t.globals.drop i))):=by
 have hgl:=ht.gl
 intro k
 induction k with
 |zero=>
  intro i b hi hl
  obtain rfl:i=t.globals.length:=by omega
  rw[q0I j1B.eq_1,List.drop_length]
  simp only[pgL,pgOut,bH,tabV]
  simp(disch:=first|decide|omega|(simp only[LN];first|done|omega)) only[SV,SW,Nat.reduceBEq,Nat.reduceEqDiff,Nat.reduceAdd]
 |succ k ih=>
  intro i b hi hl
  have hd:t.globals.drop i=nth t.globals i :: t.globals.drop (i+1):=q0F (by omega)
  have hm:nth t.globals (i:Int)∈t.globals:=List.mem_of_getElem? (q0U (by omega))
  generalize hx:nth t.globals (i:Int)=g at *
  have hn:=ht.nm.gn g hm
  have hf:=ht.ar g hm
  have hcl:=(ht.cd g hm).1
  have c48:=h48 g.name hn
  have c49:=h49 g.arity (by omega) (by omega)
  have hlen:=glT_len hn hf
  have hq:=quote_len g.name
  have hit:=itoa_len g.arity (by omega) (by omega)
  have c47:=h47 b (glT g) (by omega) (by omega)
  have e1:=pc_L1 K h47 h50 t ht g hm i t.globals.length (200000000000+10000) (by omega) g.code.length 0 (b++glT g) (by omega) (by simp only[List.length_append];omega)
  simp only[List.drop_zero,Int.natCast_zero] at e1
  rw[show b++glT g++g.code.flatMap (lnT t)=b++goT t g by simp [goT]] at e1
  have c51:=h51 (b++goT t g)
  have hgo:=goT_len ht hm
  have ih:¬ 8388608<(b++goT t g).length→_:=fun hs=>ih (i+1) (b++goT t g) (by omega) (by omega)
  have c47':K.eff 47 [.ptr 0 0 0,.d false (.str ([103,108,111,98,97,108,32]++quoteS g.name++[32]++Lib.itoa g.arity++[10]))] [.map [(.nils 78,.bsl 1 0 b.length)],.map [(.emps 5,.d false .nilp),(.str b,.d false .nilp)]]=_:=c47
  rw[hd]
  simp only[pgL]
  clear hd hm ht h47 h48 h49 h50 h51 c47
  simp only[List.cons_append,List.nil_append,List.append_assoc] at c47'
  simp only[bH,tabV] at e1 ih ⊢
  generalize hbb:b++glT g=b1 at *
  by_cases hbig:8388608<(b++goT t g).length
  ·rw[if_pos hbig]
   have hbi:(8388608:Int)<((b++goT t g).length:Int):=by omega
   clear ih
   generalize b++goT t g=b2 at *
   simp only[pgOut]
   rw[q0I j1B.eq_1]
   simp(disch:=first|decide|omega|(simp only[LN];first|done|omega)) only[SV,SW,Nat.reduceBEq,Nat.reduceAdd,hx,q0k,lose,q0d,c48,c49,List.append_assoc,Nat.reduceEqDiff,c47',q3I,Nat.reduceSub,V.forget,V.drop1,V.ref0,reduceCtorEq,e1,c51]
  ·rw[if_neg hbig]
   have hbi:¬(8388608:Int)<((b++goT t g).length:Int):=by omega
   have ih:=ih hbig
   rw[←ih]
   clear ih
   generalize b++goT t g=b2 at *
   rw[q0I j1B.eq_1]
   simp(disch:=first|decide|omega|(simp only[LN];first|done|omega)) only[SV,SW,Nat.reduceBEq,Nat.reduceAdd,hx,q0k,lose,q0d,c48,c49,List.append_assoc,Nat.reduceEqDiff,c47',q3I,Nat.reduceSub,V.forget,V.drop1,V.ref0,reduceCtorEq,e1,c51]
   rfl
theorem pgL_law(t:Table):∀(gs:List Glob)(b:Bs),(match pgL t b gs with
  |some b'=>if 8388608<b'.length then(([],4):Bs×Int) else(b',0)
  |none=>([],4))=if 8388608<(b++gs.flatMap (goT t)).length then([],4) else(b++gs.flatMap (goT t),0)
 |[],b=>by simp [pgL]
 |g :: r,b=>by
  have ih:=pgL_law t r (b++goT t g)
  simp only[pgL]
  by_cases h:8388608<(b++goT t g).length
  ·rw[if_pos h,if_pos (by simp only[List.flatMap_cons,List.length_append] at h⊢;omega)]
  ·rw[if_neg h,ih,List.flatMap_cons,List.append_assoc]
set_option maxHeartbeats 2000000 in
theorem ev_printC(K:Cx)(h13:K13 K)(h47:E47 K)(h48:N48 K)(h49:N49 K)(h50:N50 K)(h51:E51 K)(h52:E52 K)(t:Table)(hto:TabOk t)(hs:t.shapes.length≤1048576) :
  q0o K f19 [.agg (tabV t)] []=some (.tup [.d false (.str (printS t).1),.d false (.int .i64 (printS t).2)],[],[]):=by
 have c13:=h13 t hto
 unfold printS
 by_cases hc:q5v t=0
 ·rw[if_pos hc]
  have ht:=pr_ok hc hs hto.wd
  rw[hc] at c13
  have e0:=pc_L0 K h47 h48 h49 t ht t.shapes.length 0 [] (by omega) (by simp)
  have hl0:(t.shapes.flatMap shT).length≤t.shapes.length*8300:=flat_len _ fun s hs'=>shT_len (ht.nm.sn s hs') (ht.fd s hs')
  have e1:=pc_L2 K h47 h48 h49 h50 h51 t ht t.globals.length 0 (t.shapes.flatMap shT) (by omega) (by omega)
  have hlaw:=pgL_law t t.globals (t.shapes.flatMap shT)
  simp only[List.drop_zero,List.nil_append,Int.natCast_zero,List.length_nil] at e0 e1
  rw[show t.shapes.flatMap shT++t.globals.flatMap (goT t)=allT t from rfl] at hlaw
  rw[←hlaw]
  clear hlaw
  have hgl:=ht.gl
  have hsl:=ht.sl
  clear ht h47 h48 h49 h50 hto hc hl0 h13
  simp only[bH,tabV,List.length_nil] at e0 e1 ⊢
  generalize t.shapes.flatMap shT=q at e0 e1 ⊢
  generalize pgL t q t.globals=r at *
  cases r with
  |none=>
   simp only[pgOut] at e1
   clear h51 h52
   simp(disch:=first|decide|omega|(simp only[LN];first|done|omega)) only[SV,SW,f19,Nat.reduceAdd,Nat.reduceBEq,q0d,c13,evMk_bld,reduceCtorEq,Nat.reduceEqDiff,e0,e1,q0b]
  |some b=>
   simp only[pgOut] at e1
   have c51:=h51 b
   have c52:=h52 b
   clear h51 h52
   by_cases hbig:8388608<b.length
   ·simp only[if_pos hbig]
    have hbi:(8388608:Int)<(b.length:Int):=by omega
    simp(disch:=first|decide|omega|(simp only[LN];first|done|omega)) only[SV,SW,f19,Nat.reduceAdd,Nat.reduceBEq,q0d,c13,evMk_bld,reduceCtorEq,Nat.reduceEqDiff,e0,e1,c51,q3I,Nat.reduceSub,lose,q0b]
   ·simp only[if_neg hbig]
    have hbi:¬(8388608:Int)<(b.length:Int):=by omega
    simp(disch:=first|decide|omega|(simp only[LN];first|done|omega)) only[SV,SW,f19,Nat.reduceAdd,Nat.reduceBEq,q0d,c13,evMk_bld,reduceCtorEq,Nat.reduceEqDiff,e0,e1,c51,q3I,Nat.reduceSub,lose,c52,V.forget,V.drop1,V.ref0,q0b]
 ·rw[if_neg hc]
  have hb:(q5v t != 0)=true:=by simpa using hc
  clear h47 h48 h49 h50 h51 h52 h13 hto hc
  simp only[tabV]
  generalize q5v t=z at *
  simp(disch:=first|decide|omega|(simp only[LN];first|done|omega)) only[SV,SW,f19,Nat.reduceAdd,Nat.reduceBEq,q0d,c13,hb,q0b]
end Go.Vm
end

section
namespace Go.Vm
set_option maxRecDepth 20000
open Go.Proofs
/- 'sloth/slothlaw17.CodePrints' -/
def f4_T0:C:= (.seq (.reg [⟨[],[(7,(.ext 0 (.call 18 (.cons (.ld 2 true (.sl 2)) .nil)))),(8,(.ext 1 (.call 18 (.cons (.ld 2 true (.sl 2)) .nil))))],[],none,[2,3,5,6],7,[],[],[]⟩]) (.seq (.reg [⟨[],[(9,(.ext 0 (.call 18 (.cons (.ld 2 true (.sl 3)) .nil)))),(10,(.ext 1 (.call 18 (.cons (.ld 2 true (.sl 3)) .nil))))],[],none,[2,3,5,6,7,8],7,[],[],[]⟩]) (.seq (.reg [⟨[],[(11,(.ext 0 (.call 19 (.cons (.ld 2 true (.sl 6)) .nil)))),(12,(.ext 1 (.call 19 (.cons (.ld 2 true (.sl 6)) .nil))))],[],none,[2,3,5,6,7,8,9,10],7,[],[],[]⟩]) (.seq (.reg [⟨[],[(13,(.ext 0 (.call 19 (.cons (.ld 2 true (.sl 3)) .nil)))),(14,(.ext 1 (.call 19 (.cons (.ld 2 true (.sl 3)) .nil))))],[],none,[2,5,6,7,8,9,10,11,12],7,[],[],[]⟩]) (.seq (.reg [⟨[],[(15,(.ext 0 (.call 19 (.cons (.ld 2 true (.sl 6)) .nil)))),(16,(.ext 1 (.call 19 (.cons (.ld 2 true (.sl 6)) .nil))))],[],none,[2,5,6,7,8,9,10,11,12,13,14],7,[],[],[]⟩]) (.seq (.reg [⟨[],[(17,(.call 15 (.cons (.ld 2 true (.sl 6)) (.cons (.ld 2 true (.sl 2)) .nil))))],[],none,[5,6,7,8,9,10,11,12,13,14,15,16],4,[],[],[]⟩]) (.seq (.reg [⟨[],[],[],some (some 55,.calle 16 (.cons (.ld 2 true (.sl 6)) .nil)),[5,6,7,8,9,10,11,12,13,14,15,16,17],2,[],[],[]⟩,⟨[],[(18,(.sl 55))],[],none,[5,6,7,8,9,10,11,12,13,14,15,16,17],1,[],[],[]⟩]) (.seq (.seq (.reg [⟨[],[(95,(.or (.or (.or (.or (.or (.or (.or (.or (.un .not (.sl 5)) (.bin .neq (.sl 11) (.sl 7))) (.bin .neq (.sl 12) (.sl 8))) (.bin .neq (.sl 13) (.sl 9))) (.bin .neq (.sl 14) (.sl 10))) (.bin .neq (.sl 15) (.sl 7))) (.bin .neq (.sl 16) (.sl 8))) (.un .not (.sl 17))) (.un .not (.sl 18))))],[],none,[6],40,[],[],[]⟩]) (.cond (.sl 95) (.seq (.reg [⟨[],[(4,(.bool false))],[],none,[],1,[],[],[]⟩]) (.seq (.keep [4]) .ret)) .skip)) (.seq (.reg [⟨[],[],[],some (some 97,.calle 17 (.cons (.ld 2 true (.sl 6)) .nil)),[6],2,[],[],[]⟩]) (.seq (.reg [⟨[],[(19,(.ext 0 (.call 18 (.cons (.ld 2 true (.sl 6)) .nil)))),(20,(.ext 1 (.call 18 (.cons (.ld 2 true (.sl 6)) .nil))))],[],none,[6],7,[],[],[]⟩]) (.seq (.reg [⟨[],[(21,(.ext 0 (.call 19 (.cons (.ld 2 true (.sl 6)) .nil)))),(22,(.ext 1 (.call 19 (.cons (.ld 2 true (.sl 6)) .nil))))],[],none,[19,20],7,[],[],[]⟩]) (.seq (.reg [⟨[],[(4,(.and (.bin .eql (.sl 21) (.sl 19)) (.bin .eql (.sl 22) (.sl 20))))],[],none,[],9,[],[],[]⟩]) (.seq (.keep [4]) .ret)))))))))))))
def f4:Fun:=⟨ (.seq (.reg [⟨[(2,.box (.sl 0)),(3,.box (.sl 1))],[],[(.bool false)],none,[2,3],3,[],[],[]⟩]) (.seq (.reg [⟨[],[(5,(.call 11 .nil))],[],none,[2,3],2,[],[],[]⟩]) (.seq (.reg [⟨[(25,.callo 12 (.cons (.ld 2 true (.sl 2)) .nil)),(6,.box (.agg (.cons (.nilsl 2) (.cons (.nilsl 3) .nil))))],[],[],some (none,.store 2 (.sl 6) (.sl 25)),[2,3,5,6],4,[],[],[]⟩]) (.seq (.keep [2,3,5,6]) f4_T0)))), [(.sl 4)],false⟩
theorem f4_ok:q0J Go.Proofs.Tryz.prog 4 0 2 f4=true:=by kernel_rfl
def P18(K:Cx):Prop:=∀ t:Table,TabOk t→t.shapes.length≤1048576→K.call 18 [.agg [.d false (.sl 2 (t.shapes.map q0c)),.d false (.sl 3 (t.globals.map q0l))]]=some (.tup [.d false (.str (printS t).1),.d false (.int .i64 (printS t).2)],[])
def P19(K:Cx):Prop:=∀ t:Table,TabOk t→t.shapes.length≤1048576→K.call 19 [.agg [.d false (.sl 2 (t.shapes.map q0c)),.d false (.sl 3 (t.globals.map q0l))]]=some (.tup [.d false (.str (printS t).1),.d false (.int .i64 (printS t).2)],[])
set_option maxHeartbeats 2000000 in
theorem prints_T0(K:Cx)(h18:P18 K)(h19:P19 K)(h15:L15 K)(h16:L16 K)(h17:L17 K)(t o:Table)(ht:Sm t)(hto:TabOk t)(hoo:TabOk o)(hos:o.shapes.length≤1048576)(htt:TabOk (q5y t))(H:List (Nat×Blk))(nx q:Nat)(hq:look H q=some (.mix 2 [[.bsx 2 0 t.shapes.length,.bsx 3 0 t.globals.length]]))
    (h0:look H 0=some (.mix 2 [tabV t])) (h1:look H 1=some (.mix 2 [tabV o])) (hT:TB H 2 true t) (hq2:t.globals.length+4≤q) :
    ∃ H' mv,exec K f4_T0 ⟨[(2,.ptr 0 0 0),(3,.ptr 1 0 0),(5,.d false (.bool true)),(6,.ptr q 0 0)],H,nx,[]⟩=some (.ret,⟨[(4,.d false (.bool true))],H',nx,mv⟩):=by
  have hr:=hT.reach
  obtain⟨v1,v2⟩:=hT.view
  have e16:=z5p (C:=K) (nx:=nx) hT (h16 t ht) (q1O _ _ _)
  have hT2:=hT.back (nx:=nx)
  obtain⟨_,hout⟩:=z6H (H:=H) (p:=2) (nx:=nx) (l:=tblk false 2 t)
  rw[q1O] at hout
  have hq':look (putAll H (q0E (List.range' 2 (t.globals.length+2)) nx) 0 (tblk false 2 t)) q=some (.mix 2 [[.bsx 2 0 t.shapes.length,.bsx 3 0 t.globals.length]]):=by rw[hout q (by omega)];exact hq
  generalize hH2:putAll H (q0E (List.range' 2 (t.globals.length+2)) nx) 0 (tblk false 2 t)=H2 at hT2 hq' e16 hout
  have hr2:=hT2.reach
  have e17:=z5p (C:=K) (nx:=nx) hT2 (h17 t ht) (by simp [q2D])
  obtain⟨w1,w2⟩:=z3H (H:=H2) (p:=2) (nx:=nx) (t:=t)
  obtain⟨_,hout2⟩:=z6H (H:=H2) (p:=2) (nx:=nx) (l:=q2D t)
  rw[show(q2D t).length=t.globals.length+2 by simp [q2D]] at hout2
  have hq'':look (putAll H2 (q0E (List.range' 2 (t.globals.length+2)) nx) 0 (q2D t)) q=some (.mix 2 [[.bsx 2 0 t.shapes.length,.bsx 3 0 t.globals.length]]):=by rw[hout2 q (by omega)];exact hq'
  generalize hH3:putAll H2 (q0E (List.range' 2 (t.globals.length+2)) nx) 0 (q2D t)=H3 at hq'' e17 w1 w2
  have c1:=h18 t hto ht.sh
  have c2:=h18 o hoo hos
  have c3:=h19 t hto ht.sh
  have c4:=h19 o hoo hos
  have c5:=h15 t t ⟨hto.sh,hto.gl,hto.cd⟩ ⟨hto.sh,hto.gl,hto.cd⟩
  have c6:=h18 (q5y t) htt ht.sh
  have c7:=h19 (q5y t) htt ht.sh
  rw[decide_eq_true rfl] at c5
  simp only[q5y] at c6 c7 w2
  generalize printS t=p1 at *
  generalize printS o=p2 at *
  generalize printS _=p3 at c6 c7
  simp only[tabV] at h0 h1 c5
  clear hT hT2 hout hout2 ht hto hoo htt h18 h19 h15 h16 h17
  refine⟨H3,[],?_⟩
  rw[f4_T0.eq_1]
  simp(disch:=first|decide|omega|(simp only[LN];first|done|omega)) only[q1U,q25,q00,q27,q2j,q2X,q3R,q2P,q2k,q1j,e_ext,z1j,z1i,e_ld,e_sl,q2e,beq_self_eq_true,q1y,q29,h0,q6A,q2v,List.getElem?_cons_zero,q6z,List.drop_zero,q4m,List.length_cons,List.length_nil,Nat.zero_add,Nat.reduceAdd,Nat.le_refl,q5E,if_true,z5r,q3S,q4F,q4J,q4B,List.any_cons,V.own,V.own1,List.any_nil,Bool.or_self,q4l,List.all_cons,V.new,V.new1,D.flat,List.all_nil,Bool.and_true,Bool.and_self,V.flatV,V.flat1,Bool.not_false,Bool.false_and,q3k,view,viewDepth,q52,q20,q6v,Option.map_some,List.map_cons,List.map_nil,q5S,c1,q3H,Bool.or_true,Bool.not_true,Bool.false_eq_true,if_false,evExt,List.getElem?_cons_succ,q1B,q3X,q16,q0Q,q19,Nat.reduceBEq,q1i,q0X,List.cons_append,List.nil_append,addBlks,q2U,q2q,q2S,h1,c2,hq,Bool.or_false,v1,v2,c3,Bool.and_false,c4,c5,q59,q7I,q5Z,refsL,V.refs,List.append_nil,hr,e16,V.ren,q6a,lose,loseH,Lost.ids,q8U,e_or,e_un,evUn,z7z,evBin,strBin,decide_true,q7Y,intBin,bne_self_eq_false,q6T,q65,q6S]
  simp(disch:=first|decide|omega|(simp only[LN];first|done|omega)) only[hq',q2X,q6A,q2v,List.getElem?_cons_zero,q6z,List.drop_zero,q4m,List.length_cons,List.length_nil,Nat.zero_add,Nat.reduceAdd,Nat.le_refl,q5E,if_true,q3S,q4F,q5Z,refsL,V.refs,List.append_nil,List.cons_append,List.nil_append,hr2,e17,V.ren,renL,q6a,lose,loseH,Lost.ids,q2U,q2q,q2S,q1U,q25,q00,q27,q2j,q3R,q2P,q2k,q1j,e_ext,z1j,z1i,e_ld,e_sl,q2e,Nat.reduceBEq,q1i,beq_self_eq_true,q1y,q29,hq'',z5r,q4J,q4B,List.any_cons,V.own,V.own1,List.any_nil,Bool.or_false,Bool.or_self,q4l,List.all_cons,V.new,V.new1,List.all_nil,Bool.and_true,Bool.and_self,V.flatV,V.flat1,Bool.not_false,Bool.false_and,q3k,view,viewDepth,w1,w2,q20,q6v,Option.map_some,List.map_cons,List.map_nil,q5S,c6,q3H,D.flat,Bool.or_true,Bool.not_true,Bool.and_false,Bool.false_eq_true,if_false,evExt,List.getElem?_cons_succ,q1B,q3X,q16,q0Q,q19,q0X,addBlks,c7,e_and,z7z,evBin,strBin,decide_true,intBin,z5I,q0v,q0y,q1X,Nat.reduceEqDiff,q2I,q8g]
set_option maxHeartbeats 2000000 in
theorem ev_prints(K:Cx)(h11:K.call 11 []=some (.d false (.bool true),[]))(h12:L12 K)(h18:P18 K)(h19:P19 K)(h15:L15 K)(h16:L16 K)(h17:L17 K)(t o:Table)(ht:Sm t)(hto:TabOk t)(hoo:TabOk o)(hos:o.shapes.length≤1048576)(htt:TabOk (q5y t)) :
    q0o K f4 [.agg (tabV t),.agg (tabV o)] []=some (.d false (.bool true),[],[]):=by
  have c12:=h12 t ht
  have hor:=z96 t
  have hlen:=q1O true 4 t
  have hlk:look (addBlks [(1,.mix 2 [tabV o]),(0,.mix 2 [tabV t])] 2 (tblk true 4 t++[.mix 2 [[.fs true 2 [],.fs true 3 []]]])) (2+(t.globals.length+2))=some (.mix 2 [[.fs true 2 [],.fs true 3 []]]):=by
    rw[q0O,if_pos (by simp [hlen]),Nat.add_sub_cancel_left,List.getElem?_append_right (by omega),hlen,Nat.sub_self];rfl
  have hTB:TB (addBlks [(1,.mix 2 [tabV o]),(0,.mix 2 [tabV t])] 2 (tblk true 4 t++[.mix 2 [[.fs true 2 [],.fs true 3 []]]])) 2 true t:=TB.add
  have hlo:∀ b,b<2→look (addBlks [(1,.mix 2 [tabV o]),(0,.mix 2 [tabV t])] 2 (tblk true 4 t++[.mix 2 [[.fs true 2 [],.fs true 3 []]]])) b=look [(1,.mix 2 [tabV o]),(0,.mix 2 [tabV t])] b:=fun b hb=>by
    rw[q0O,if_neg (by omega)]
  generalize hHB:addBlks [(1,.mix 2 [tabV o]),(0,.mix 2 [tabV t])] 2 (tblk true 4 t++[.mix 2 [[.fs true 2 [],.fs true 3 []]]])=HB at hlk hTB hlo
  obtain⟨H',mv,e⟩:=prints_T0 K h18 h19 h15 h16 h17 t o ht hto hoo hos htt (put HB (2+(t.globals.length+2)) (.mix 2 [[.bsx 2 0 t.shapes.length,.bsx 3 0 t.globals.length]])) (2+(t.globals.length+2)+1) (2+(t.globals.length+2)) (q0u _ _ _)
    (by rw[q0a _ _ (by omega),hlo 0 (by omega)];rfl) (by rw[q0a _ _ (by omega),hlo 1 (by omega)];rfl) (hTB.mono fun b _ hb=>q0a _ _ (by omega)) (by omega)
  clear hTB hlo ht hto hoo htt h12 h18 h19 h15 h16 h17
  simp only[tabV] at c12 hHB
  simp only[tabV]
  simp(disch:=first|decide|omega|(simp only[LN];first|done|omega)) only[f4,q4h,List.length_nil,startS,List.zipIdx_cons,Nat.zero_add,Nat.reduceAdd,List.zipIdx_nil,List.map_cons,List.map_nil,indexed,q1U,q25,q00,q27,q2N,q4A,e_sl,q2e,beq_self_eq_true,q1y,q2X,mkBox,V.laid,V.cells,List.length_cons,if_true,q6r,q4k,Nat.reduceBEq,q2G,q6e,q1i,q2j,q6q,List.append_nil,List.cons_append,List.nil_append,q3R,q2P,q49,z5s,Option.isSome_some,q2k,Bool.and_self,q1B,q16,q0Q,q19,q0X,addBlks,q2U,q2q,q2S,q1j,z1j,z5r,q4J,q4B,List.any_nil,q4l,List.all_nil,Bool.not_true,Bool.and_false,Bool.false_and,q20,q5S,h11,q3H,V.new,V.new1,D.flat,Bool.or_true,Bool.false_eq_true,if_false,q3S,q3X,q7L,z1i,e_ld,q29,q6A,q2v,List.getElem?_cons_zero,q6z,List.drop_zero,q4m,Nat.le_refl,q5E,q4F,z4r,List.any_cons,V.own,V.own1,Bool.or_self,q3k,view,viewDepth,q52,q6v,Option.map_some,z4s,c12,hor,hlen,j1R,z5q,z1t,q59,hHB,q7H,q5Y,hlk,z7V,z0Q,splice,List.take_zero,List.drop_succ_cons,z0O,q8V,lose,loseH,Lost.ids,q0v,q0y,q1X,Nat.reduceEqDiff,q2I,e,q5O,q0b,finish,z7Z,V.refs,q4Y,List.nodup_nil,decide_true,finV,finA,finC,List.filter_nil]
end Go.Vm
end

section
namespace Go.Vm
set_option maxRecDepth 100000
open Go.RowKit Go.Shelf Go.Proofs
def T8:List Row:=[⟨13,0,1,f13⟩,⟨15,0,2,f15⟩,⟨19,0,1,f19⟩,⟨24,0,1,f24⟩,⟨33,0,0,f33⟩,⟨34,0,1,f34⟩,⟨35,0,1,f35⟩,⟨36,0,0,f36⟩,⟨37,0,2,f37⟩,⟨48,0,1,f48⟩,⟨50,0,2,f50⟩,⟨60,1,1,f60⟩,⟨60,2,1,f60⟩,⟨60,3,1,f60⟩,⟨60,4,1,f60⟩,⟨60,5,1,f60⟩,⟨61,1,1,f61⟩,⟨61,2,1,f61⟩,⟨61,3,1,f61⟩,⟨61,4,1,f61⟩,⟨61,5,1,f61⟩,⟨68,1,2,f68⟩,⟨69,1,2,f69⟩,⟨70,1,2,f70⟩,⟨71,0,1,f71⟩,⟨72,0,1,f72⟩,⟨77,1,1,f77⟩,⟨78,0,0,f78⟩,⟨79,0,1,f79⟩,⟨80,0,5,f80⟩,⟨81,0,3,f81⟩,⟨82,1,3,f82⟩,⟨88,0,3,f88⟩,⟨90,0,3,f90⟩,⟨96,1,1,f96⟩,⟨96,2,1,f96⟩,⟨96,3,1,f96⟩,⟨96,4,1,f96⟩,⟨96,5,1,f96⟩,⟨97,1,1,f97⟩,⟨97,2,1,f97⟩,⟨97,3,1,f97⟩,⟨97,4,1,f97⟩,⟨97,5,1,f97⟩,⟨98,1,1,f98⟩,⟨98,2,1,f98⟩,⟨98,3,1,f98⟩,⟨98,4,1,f98⟩,⟨98,5,1,f98⟩,⟨99,1,4,f99⟩,⟨99,2,4,f99⟩,⟨99,3,4,f99⟩,⟨99,4,4,f99⟩,⟨99,5,4,f99⟩,⟨100,0,1,f100⟩,⟨101,1,1,f101⟩,⟨102,1,1,f102⟩,⟨103,1,1,f103⟩,⟨104,1,1,f104⟩,⟨106,0,4,f106⟩,⟨108,0,0,f108⟩,⟨109,1,1,f109⟩,⟨109,2,1,f109⟩,⟨109,3,1,f109⟩,⟨109,4,1,f109⟩,⟨109,5,1,f109⟩,⟨112,1,4,f112⟩,⟨112,2,4,f112⟩,⟨112,3,4,f112⟩,⟨112,4,4,f112⟩,⟨112,5,4,f112⟩,⟨113,1,1,f113⟩,⟨114,1,1,f114⟩,⟨126,1,1,f126⟩]
def K8 (n:Nat):Cx:=cxM KS8 400 T8 n
theorem T8_ok:∀ r∈T8,q0J Tryz.prog r.f r.m r.n r.g=true:=by
 have h:T8.all (fun r=>q0J Tryz.prog r.f r.m r.n r.g)=true:=by kernel_rfl
 simpa [List.all_eq_true] using h
theorem q4O (n:Nat):(K8 n).Sound Tryz.prog:=z5x q0C z5L T8_ok (fun r _ h=>by cases h) rfl n
theorem z5N (n:Nat):(K8 n).dfr=[]:=z0z rfl 400 T8 n
def q4G:List (List D):=[[.int .u8 83],[.int .u8 76],[.int .u8 84],[.int .u8 72],[.int .u8 7],[.int .u8 5],[.int .u8 70],[.int .u8 97],[.int .u8 108],[.int .u8 115],[.int .u8 101],[.int .u8 0],[.int .u8 4],[.int .u8 84],[.int .u8 114],[.int .u8 117],[.int .u8 101],[.int .u8 0],[.int .u8 4],[.int .u8 85],[.int .u8 110],[.int .u8 105],[.int .u8 116],[.int .u8 0],[.int .u8 3],[.int .u8 78],[.int .u8 105],[.int .u8 108],[.int .u8 0],[.int .u8 4],[.int .u8 67],[.int .u8 111],[.int .u8 110],[.int .u8 115],[.int .u8 2],[.int .u8 4],[.int .u8 80],[.int .u8 97],[.int .u8 105],[.int .u8 114],[.int .u8 2],[.int .u8 6],[.int .u8 84],[.int .u8 114],[.int .u8 105],[.int .u8 112],[.int .u8 108],[.int .u8 101],[.int .u8 3],[.int .u8 1],[.int .u8 2],[.int .u8 105],[.int .u8 100],[.int .u8 1],[.int .u8 4],[.int .u8 1],[.int .u8 0],[.int .u8 7],[.int .u8 2],[.int .u8 4],[.int .u8 1],[.int .u8 17],[.int .u8 204],[.int .u8 185],[.int .u8 3],[.int .u8 45]]
def z8J:List UInt8:=[115,104,97,112,101,32,34,70,97,108,115,101,34,32,48,10,115,104,97,112,101,32,34,84,114,117,101,34,32,48,10,115,104,97,112,101,32,34,85,110,105,116,34,32,48,10,115,104,97,112,101,32,34,78,105,108,34,32,48,10,115,104,97,112,101,32,34,67,111,110,115,34,32,50,10,115,104,97,112,101,32,34,80,97,105,114,34,32,50,10,115,104,97,112,101,32,34,84,114,105,112,108,101,34,32,51,10,103,108,111,98,97,108,32,34,105,100,34,32,49,10,32,32,112,117,115,104,32,48,10,32,32,117,112,100,97,116,101,32,50,10,32,32,112,111,112,32,49,10,32,32,117,110,119,105,110,100,10]
def cL:C→C
 | .seq a _=>a
 | c=>c
def cR:C→C
 | .seq _ b=>b
 | c=>c
def f21D:DfrF:=⟨cL f21.body,cL (cR f21.body),cR (cR (cR f21.body)),f21.res,9,59,[2,3]⟩
def f27D:DfrF:=⟨cL f27.body,cL (cR f27.body),cR (cR (cR f27.body)),f27.res,10,76,[2,3]⟩
theorem z9y:z7D Tryz.prog 21 1 f21D=true:=by kernel_rfl
theorem z43:z7D Tryz.prog 27 1 f27D=true:=by kernel_rfl
def st (x:Option (Ex×S)):S:=match x with
 | some (_,s)=>s
 | none=>⟨[],[],0,[]⟩
def s0R:S:=st (execC 400 (K8 30) f21D.c0 (startS [.d false (.str z8J)] []))
def s1R:S:=st (execC 400 (K8 30) f21D.ca s0R)
def idT:V:=.tup [.agg [.d false (.sl 2 [[.str [70,97,108,115,101],.int .i64 0],[.str [84,114,117,101],.int .i64 0],[.str [85,110,105,116],.int .i64 0],[.str [78,105,108],.int .i64 0],[.str [67,111,110,115],.int .i64 2],[.str [80,97,105,114],.int .i64 2],[.str [84,114,105,112,108,101],.int .i64 3]]),
 .d false (.sl 3 [[.str [105,100],.int .i64 1,.sl 3 [[.int .i64 1,.int .i64 0,.int .i64 0],[.int .i64 7,.int .i64 2,.int .i64 0],[.int .i64 4,.int .i64 1,.int .i64 0],[.int .i64 17,.int .i64 0,.int .i64 0]]]])],.d false (.int .i64 0)]
theorem run21:DfrRun (K8 30) f21D [.d false (.str z8J)] idT []:=z5u (N:=400) (s0:=s0R) (s1:=s1R) (by kernel_rfl) (by kernel_rfl) (by kernel_rfl) (fun ds=>by kernel_rfl)
end Go.Vm
end

section
namespace Go.Vm
set_option maxRecDepth 100000
open Go.RowKit Go.Shelf Go.Proofs
def s0L (c:Bool):S:=st (execC 400 (K8 30) f27D.c0 (startS [.d c (.sl 1 q4G)] []))
def s1L (c:Bool):S:=st (execC 400 (K8 30) f27D.ca (s0L c))
theorem z99:DfrRun (K8 30) f27D [.d false (.sl 1 q4G)] idT []:=z5u (N:=400) (s0:=s0L false) (s1:=s1L false) (by kernel_rfl) (by kernel_rfl) (by kernel_rfl) (fun ds=>by kernel_rfl)
theorem z98:DfrRun (K8 30) f27D [.d true (.sl 1 q4G)] idT []:=z5u (N:=400) (s0:=s0L true) (s1:=s1L true) (by kernel_rfl) (by kernel_rfl) (by kernel_rfl) (fun ds=>by kernel_rfl)
def z8i:FuncId→List V→Option (V×List Blk)
 | 21,[.d false (.str l)]=>if l=z8J then some (idT,[]) else none
 | 27,[.d c (.sl 1 rows)]=>if q9B rows q4G then some (idT,[]) else none
 | f,vs=>(K8 30).call f vs
def KA8:Cx:=⟨z8i,(K8 30).eff,GT,fun _=>false,[]⟩
theorem q7a (n:Nat):(K8 n).glob=GT:=q5Q KS8 400 T8 n
theorem z5M:KA8.Sound Tryz.prog:=by
 refine ⟨fun f args r news h=>?_,fun f args r news h=>(by cases h),fun f args blks r blks' mv h=>?_⟩
 ·simp only [KA8] at h ⊢
  unfold z8i at h
  split at h
  ·split at h
   ·rename_i l hl
    subst hl
    simp only [Option.some.injEq,Prod.mk.injEq] at h
    obtain ⟨rfl,rfl⟩:=h
    have:=q6Z q0C (q4O 30) z9y z8V run21 (z5N 30)
    rw [q7a] at this
    exact this
   ·cases h
  ·split at h
   ·rename_i c rows hl
    obtain rfl:=q5P hl
    simp only [Option.some.injEq,Prod.mk.injEq] at h
    obtain ⟨rfl,rfl⟩:=h
    cases c with
    | false=>
     have:=q6Z q0C (q4O 30) z43 z3V z99 (z5N 30)
     rw [q7a] at this
     exact this
    | true=>
     have:=q6Z q0C (q4O 30) z43 z3V z98 (z5N 30)
     rw [q7a] at this
     exact this
   ·cases h
  ·have:=(q4O 30).pure _ _ _ _ h
   rw [q7a] at this
   exact this
 ·have:=(q4O 30).eff f args blks r blks' mv h
  rw [q7a] at this
  exact this
theorem z5F:q6c 400 KA8 f11 [] []=some (.bool true,[],[]):=by kernel_rfl
theorem j1Y:q0p Tryz.prog 11=true∧q1f Tryz.prog GT 11 [] (.bool true) []:=q3B q0C z5M j1I (q4V z5F)
end Go.Vm
end

section
namespace Go.Vm
theorem z48(K:Cx)(t:Table)(g:Glob)(at_ n kind:Int)(hk:0≤kind∧kind≤8) :
  q0o K f80 [.agg [.d false (.sl 2 (t.shapes.map q0c)),.d false (.sl 3 (t.globals.map q0l))],.agg [.d false (.str g.name),.d false (.int .i64 g.arity),.d false (.sl 3 (g.code.map q0j))],.d false (.int .i64 at_),.d false (.int .i64 n),.d false (.int .i64 kind)] []
  = some (.d false (.int .i64 (q0S t.globals.length t.shapes.length g.code.length at_ n kind)),[],[]):=by
 have:kind=0∨kind=1∨kind=2∨kind=3∨kind=4∨kind=5∨kind=6∨kind=7∨kind=8:=by omega
 unfold q0S
 rcases this with rfl|rfl|rfl|rfl|rfl|rfl|rfl|rfl|rfl
 ·by_cases h:n=0
  ·simp(disch:=first|decide|omega|(simp only[LN];first|done|omega)) only[SV,SW,f80,Int.reduceNeg,h,Nat.reduceAdd,Nat.reduceBEq,q0b,Int.reduceEq,true_and]
  ·simp(disch:=first|decide|omega|(simp only[LN];first|done|omega)) only[SV,SW,f80,Int.reduceNeg,Nat.reduceAdd,Nat.reduceBEq,q0b,Int.reduceEq,h]
 ·by_cases h:0≤n
  ·simp(disch:=first|decide|omega|(simp only[LN];first|done|omega)) only[SV,SW,f80,Int.reduceNeg,Nat.reduceAdd,Nat.reduceBEq,q0b,Int.reduceEq,true_and]
  ·simp(disch:=first|decide|omega|(simp only[LN];first|done|omega)) only[SV,SW,f80,Int.reduceNeg,Nat.reduceAdd,Nat.reduceBEq,q0b,Int.reduceEq]
 ·by_cases h:1≤n
  ·simp(disch:=first|decide|omega|(simp only[LN];first|done|omega)) only[SV,SW,f80,Int.reduceNeg,Nat.reduceAdd,Nat.reduceBEq,q0b,Int.reduceEq,true_and]
  ·simp(disch:=first|decide|omega|(simp only[LN];first|done|omega)) only[SV,SW,f80,Int.reduceNeg,Nat.reduceAdd,Nat.reduceBEq,q0b,Int.reduceEq]
 ·by_cases h : -4611686018427387904≤n
  ·by_cases h2:n≤4611686018427387903
   ·simp(disch:=first|decide|omega|(simp only[LN];first|done|omega)) only[SV,SW,f80,Int.reduceNeg,Nat.reduceAdd,Nat.reduceBEq,q0b,Int.reduceEq]
   ·simp(disch:=first|decide|omega|(simp only[LN];first|done|omega)) only[SV,SW,f80,Int.reduceNeg,Nat.reduceAdd,Nat.reduceBEq,q0b,Int.reduceEq,and_false,true_and]
  ·simp(disch:=first|decide|omega|(simp only[LN];first|done|omega)) only[SV,SW,f80,Int.reduceNeg,Nat.reduceAdd,Nat.reduceBEq,q0b,Int.reduceEq]
 ·by_cases h:0≤n
  ·by_cases h2:n<t.globals.length
   ·simp(disch:=first|decide|omega|(simp only[LN];first|done|omega)) only[SV,SW,f80,Int.reduceNeg,Nat.reduceAdd,Nat.reduceBEq,q0b,Int.reduceEq,true_and]
   ·simp(disch:=first|decide|omega|(simp only[LN];first|done|omega)) only[SV,SW,f80,Int.reduceNeg,Nat.reduceAdd,Nat.reduceBEq,q0b,Int.reduceEq,true_and,and_false]
  ·simp(disch:=first|decide|omega|(simp only[LN];first|done|omega)) only[SV,SW,f80,Int.reduceNeg,Nat.reduceAdd,Nat.reduceBEq,q0b,Int.reduceEq]
 ·by_cases h:0≤n
  ·by_cases h2:n<t.shapes.length
   ·simp(disch:=first|decide|omega|(simp only[LN];first|done|omega)) only[SV,SW,f80,Int.reduceNeg,Nat.reduceAdd,Nat.reduceBEq,q0b,Int.reduceEq,true_and]
   ·simp(disch:=first|decide|omega|(simp only[LN];first|done|omega)) only[SV,SW,f80,Int.reduceNeg,Nat.reduceAdd,Nat.reduceBEq,q0b,Int.reduceEq,true_and,and_false]
  ·simp(disch:=first|decide|omega|(simp only[LN];first|done|omega)) only[SV,SW,f80,Int.reduceNeg,Nat.reduceAdd,Nat.reduceBEq,q0b,Int.reduceEq]
 ·by_cases h:1≤n
  ·by_cases h2:n≤11
   ·simp(disch:=first|decide|omega|(simp only[LN];first|done|omega)) only[SV,SW,f80,Int.reduceNeg,Nat.reduceAdd,Nat.reduceBEq,q0b,Int.reduceEq,true_and]
   ·simp(disch:=first|decide|omega|(simp only[LN];first|done|omega)) only[SV,SW,f80,Int.reduceNeg,Nat.reduceAdd,Nat.reduceBEq,q0b,Int.reduceEq,true_and,and_false]
  ·simp(disch:=first|decide|omega|(simp only[LN];first|done|omega)) only[SV,SW,f80,Int.reduceNeg,Nat.reduceAdd,Nat.reduceBEq,q0b,Int.reduceEq]
 ·by_cases h:1≤n
  ·by_cases h2:n≤4
   ·simp(disch:=first|decide|omega|(simp only[LN];first|done|omega)) only[SV,SW,f80,Int.reduceNeg,Nat.reduceAdd,Nat.reduceBEq,q0b,Int.reduceEq,true_and]
   ·simp(disch:=first|decide|omega|(simp only[LN];first|done|omega)) only[SV,SW,f80,Int.reduceNeg,Nat.reduceAdd,Nat.reduceBEq,q0b,Int.reduceEq,true_and,and_false]
  ·simp(disch:=first|decide|omega|(simp only[LN];first|done|omega)) only[SV,SW,f80,Int.reduceNeg,Nat.reduceAdd,Nat.reduceBEq,q0b,Int.reduceEq]
 ·by_cases h:n≤at_
  ·simp(disch:=first|decide|omega|(simp only[LN];first|done|omega)) only[SV,SW,f80,Int.reduceNeg,Nat.reduceAdd,Nat.reduceBEq,q0b,Int.reduceEq]
  ·by_cases h2:(g.code.length:Int)≤n
   ·simp(disch:=first|decide|omega|(simp only[LN];first|done|omega)) only[SV,SW,f80,Int.reduceNeg,Nat.reduceAdd,Nat.reduceBEq,q0b,Int.reduceEq,true_and]
   ·simp(disch:=first|decide|omega|(simp only[LN];first|done|omega)) only[SV,SW,f80,Int.reduceNeg,Nat.reduceAdd,Nat.reduceBEq,q0b,Int.reduceEq]
theorem z7g(K:Cx)(c:Bool)(Dp:List Int)(at_ d:Int)(h:0≤at_∧at_<Dp.length)(n:Nat)(hn:n=Dp.length) :
  q0o K f82 [.bsl 0 0 n,.d false (.int .i64 at_),.d false (.int .i64 d)] [.dat c 1 (Dp.map eInt)]=some (.d false (.bool (q1g Dp at_ d)),[.dat c 1 ((q0L Dp at_ d).map eInt)],[]):=by
 subst hn
 obtain⟨h0,h1⟩:=h
 unfold q1g q0L
 have hs:=q89 Dp at_ d h0 h1
 by_cases g:nth Dp at_=0
 ·rw[if_pos g,if_pos g]
  simp(disch:=first|decide|omega|(simp only[LN];first|done|omega)) only[SV,SW,f82,Nat.reduceAdd,Nat.reduceBEq,g,q0q,q6Q,lose,hs,z7Y,q0b]
 ·rw[if_neg g,if_neg g]
  simp(disch:=first|decide|omega|(simp only[LN];first|done|omega)) only[SV,SW,f82,Nat.reduceAdd,Nat.reduceBEq,q0q,z7Y,q0b]
set_option maxHeartbeats 8000000 in
theorem z2w(K:Cx)(t:Table)(x:Instr)(d:Int)(hd:1≤d∧d≤8000)(ha:0≤x.a∧x.a≤9223372036854775807∨(x.op≠1∧x.op≠4∧x.op≠5∧x.op≠7∧x.op≠8))(hs:x.op=9∨x.op=10→0≤x.a∧x.a<t.shapes.length∧0≤(nth t.shapes x.a).fields∧(nth t.shapes x.a).fields≤8) :
  q0o K f81 [.agg [.d false (.sl 2 (t.shapes.map q0c)),.d false (.sl 3 (t.globals.map q0l))],.agg [.d false (.int .i64 x.op),.d false (.int .i64 x.a),.d false (.int .i64 x.b)],.d false (.int .i64 d)] []
  = some (.tup [.d false (.int .i64 (q0t t.shapes x d).1),.d false (.bool (q0t t.shapes x d).2)],[],[]):=by
 obtain⟨op,a,b⟩:=x
 simp only at ha hs ⊢
 obtain⟨d1,d2⟩:=hd
 unfold q0t
 simp only
 by_cases g1:op=1
 ·subst g1
  have⟨a1,a2⟩:0≤a∧a≤9223372036854775807:=by omega
  clear hs ha
  by_cases k:a<d
  ·simp(disch:=first|decide|omega|(simp only[LN];first|done|omega)) only[SV,SW,f81,Nat.reduceAdd,Nat.reduceBEq,q0b,Int.reduceEq]
  ·simp(disch:=first|decide|omega|(simp only[LN];first|done|omega)) only[SV,SW,f81,Nat.reduceAdd,Nat.reduceBEq,q0b,Int.reduceEq]
 by_cases g2:op=2
 ·subst g2
  simp(disch:=first|decide|omega|(simp only[LN];first|done|omega)) only[SV,SW,f81,Nat.reduceAdd,Nat.reduceBEq,q0b,Int.reduceEq]
 by_cases g3:op=3
 ·subst g3
  simp(disch:=first|decide|omega|(simp only[LN];first|done|omega)) only[SV,SW,f81,Nat.reduceAdd,Nat.reduceBEq,q0b,Int.reduceEq]
 by_cases g4:op=4
 ·subst g4
  have⟨a1,a2⟩:0≤a∧a≤9223372036854775807:=by omega
  clear hs ha
  by_cases k:a<d
  ·simp(disch:=first|decide|omega|(simp only[LN];first|done|omega)) only[SV,SW,f81,Nat.reduceAdd,Nat.reduceBEq,q0b,Int.reduceEq]
  ·simp(disch:=first|decide|omega|(simp only[LN];first|done|omega)) only[SV,SW,f81,Nat.reduceAdd,Nat.reduceBEq,q0b,Int.reduceEq]
 by_cases g5:op=5
 ·subst g5
  have⟨a1,a2⟩:0≤a∧a≤9223372036854775807:=by omega
  clear hs ha
  by_cases k:a<d - 1
  ·simp(disch:=first|decide|omega|(simp only[LN];first|done|omega)) only[SV,SW,f81,Nat.reduceAdd,Nat.reduceBEq,q0b,Int.reduceEq]
  ·simp(disch:=first|decide|omega|(simp only[LN];first|done|omega)) only[SV,SW,f81,Nat.reduceAdd,Nat.reduceBEq,q0b,Int.reduceEq]
 by_cases g6:op=6
 ·subst g6
  by_cases k:2<d
  ·simp(disch:=first|decide|omega|(simp only[LN];first|done|omega)) only[SV,SW,f81,Nat.reduceAdd,Nat.reduceBEq,q0b,Int.reduceEq]
  ·simp(disch:=first|decide|omega|(simp only[LN];first|done|omega)) only[SV,SW,f81,Nat.reduceAdd,Nat.reduceBEq,q0b,Int.reduceEq]
 by_cases g12:op=12
 ·subst g12
  by_cases k:2<d
  ·simp(disch:=first|decide|omega|(simp only[LN];first|done|omega)) only[SV,SW,f81,Nat.reduceAdd,Nat.reduceBEq,q0b,Int.reduceEq]
  ·simp(disch:=first|decide|omega|(simp only[LN];first|done|omega)) only[SV,SW,f81,Nat.reduceAdd,Nat.reduceBEq,q0b,Int.reduceEq]
 by_cases g7:op=7
 ·subst g7
  have⟨a1,a2⟩:0≤a∧a≤9223372036854775807:=by omega
  clear hs ha
  by_cases k:a<d
  ·simp(disch:=first|decide|omega|(simp only[LN];first|done|omega)) only[SV,SW,f81,Nat.reduceAdd,Nat.reduceBEq,q0b,Int.reduceEq]
  ·simp(disch:=first|decide|omega|(simp only[LN];first|done|omega)) only[SV,SW,f81,Nat.reduceAdd,Nat.reduceBEq,q0b,Int.reduceEq]
 by_cases g8:op=8
 ·subst g8
  have⟨a1,a2⟩:0≤a∧a≤9223372036854775807:=by omega
  clear hs ha
  by_cases k:8000<a
  ·simp(disch:=first|decide|omega|(simp only[LN];first|done|omega)) only[SV,SW,f81,Nat.reduceAdd,Nat.reduceBEq,q0b,Int.reduceEq]
  ·by_cases k2:d+a≤8000
   ·simp(disch:=first|decide|omega|(simp only[LN];first|done|omega)) only[SV,SW,f81,Nat.reduceAdd,Nat.reduceBEq,q0b,Int.reduceEq]
   ·simp(disch:=first|decide|omega|(simp only[LN];first|done|omega)) only[SV,SW,f81,Nat.reduceAdd,Nat.reduceBEq,q0b,Int.reduceEq]
 by_cases g9:op=9
 ·subst g9
  obtain⟨a1,a2,a3,a4⟩:=hs (.inl rfl)
  clear ha
  unfold q0R
  generalize hf:(nth t.shapes a).fields=fl at a3 a4
  by_cases k:fl<d
  ·simp(disch:=first|decide|omega|(simp only[LN];first|done|omega)) only[SV,SW,f81,Nat.reduceAdd,Nat.reduceBEq,q0g,hf,q0b,Int.reduceEq]
  ·simp(disch:=first|decide|omega|(simp only[LN];first|done|omega)) only[SV,SW,f81,Nat.reduceAdd,Nat.reduceBEq,q0g,hf,q0b,Int.reduceEq]
 by_cases g10:op=10
 ·subst g10
  obtain⟨a1,a2,a3,a4⟩:=hs (.inr rfl)
  clear ha
  unfold q0R
  generalize hf:(nth t.shapes a).fields=fl at a3 a4
  by_cases k:1<d
  ·by_cases k2:d - 1+fl≤8000
   ·simp(disch:=first|decide|omega|(simp only[LN];first|done|omega)) only[SV,SW,f81,Nat.reduceAdd,Nat.reduceBEq,q0g,hf,q0b,Int.reduceEq]
   ·simp(disch:=first|decide|omega|(simp only[LN];first|done|omega)) only[SV,SW,f81,Nat.reduceAdd,Nat.reduceBEq,q0g,hf,q0b,Int.reduceEq]
  ·simp(disch:=first|decide|omega|(simp only[LN];first|done|omega)) only[SV,SW,f81,Nat.reduceAdd,Nat.reduceBEq,q0g,hf,q0b,Int.reduceEq]
 by_cases g11:op=11
 ·subst g11
  by_cases k:1<d
  ·simp(disch:=first|decide|omega|(simp only[LN];first|done|omega)) only[SV,SW,f81,Nat.reduceAdd,Nat.reduceBEq,q0b,Int.reduceEq]
  ·simp(disch:=first|decide|omega|(simp only[LN];first|done|omega)) only[SV,SW,f81,Nat.reduceAdd,Nat.reduceBEq,q0b,Int.reduceEq]
 by_cases g14:op=14
 ·subst g14
  by_cases k:1<d
  ·simp(disch:=first|decide|omega|(simp only[LN];first|done|omega)) only[SV,SW,f81,Nat.reduceAdd,Nat.reduceBEq,q0b,Int.reduceEq]
  ·simp(disch:=first|decide|omega|(simp only[LN];first|done|omega)) only[SV,SW,f81,Nat.reduceAdd,Nat.reduceBEq,q0b,Int.reduceEq]
 by_cases g15:op=15
 ·subst g15
  by_cases k:1<d
  ·simp(disch:=first|decide|omega|(simp only[LN];first|done|omega)) only[SV,SW,f81,Nat.reduceAdd,Nat.reduceBEq,q0b,Int.reduceEq]
  ·simp(disch:=first|decide|omega|(simp only[LN];first|done|omega)) only[SV,SW,f81,Nat.reduceAdd,Nat.reduceBEq,q0b,Int.reduceEq]
 by_cases g17:op=17
 ·subst g17
  by_cases k:d=1
  ·simp(disch:=first|decide|omega|(simp only[LN];first|done|omega)) only[SV,SW,f81,k,Nat.reduceAdd,Nat.reduceBEq,q0b,Int.reduceEq,Int.reduceAdd,Int.reduceSub]
  ·simp(disch:=first|decide|omega|(simp only[LN];first|done|omega)) only[SV,SW,f81,Nat.reduceAdd,Nat.reduceBEq,q0b,Int.reduceEq,k]
 ·simp(disch:=first|decide|omega|(simp only[LN];first|done|omega)) only[SV,SW,f81,Nat.reduceAdd,Nat.reduceBEq,q0b,g1,g2,g3,g4,g5,g6,g12,g7,g8,g9,g10,g11,g14,g15,g17]
end Go.Vm
end

section
namespace Go.Vm
open Go.RowKit Go.Shelf Go.Proofs
theorem z2D(a b:Instr)(h:q0j a=q0j b):a=b:=by
 cases a;cases b
 simp only[q0j,List.cons.injEq,D.int.injEq,true_and,and_true] at h
 simp only[Instr.mk.injEq]
 exact h
theorem z2C(a b:Shape)(h:q0c a=q0c b):a=b:=by
 cases a;cases b
 simp only[q0c,List.cons.injEq,D.int.injEq,D.str.injEq,true_and,and_true] at h
 simp only[Shape.mk.injEq]
 exact h
theorem q6s{α β:Type}{f:α→β}(hf:∀ a b,f a=f b→a=b):∀ l l':List α,l.map f=l'.map f→l=l'
 |[],[],_=>rfl
 |[],_ :: _,h=>by simp at h
 |_ :: _,[],h=>by simp at h
 |a :: l,b :: l',h=>by
  simp only[List.map_cons,List.cons.injEq] at h
  rw[hf a b h.1,q6s hf l l' h.2]
theorem mI(l l':List Instr):l.map q0j=l'.map q0j↔l=l':=⟨q6s z2D l l',fun h=>by rw[h]⟩
theorem mS(l l':List Shape):l.map q0c=l'.map q0c↔l=l':=⟨q6s z2C l l',fun h=>by rw[h]⟩
theorem z5t(a b:Glob)(h:q0l a=q0l b):a=b:=by
 cases a;cases b
 simp only[q0l,List.cons.injEq,D.int.injEq,D.str.injEq,D.sl.injEq,mI,true_and,and_true] at h
 simp only[Glob.mk.injEq]
 exact h
theorem mG(l l':List Glob):l.map q0l=l'.map q0l↔l=l':=⟨q6s z5t l l',fun h=>by rw[h]⟩
theorem z7A(a b:Int)(h:eInt a=eInt b):a=b:=by simpa [eInt] using h
theorem mN(l l':List Int):l.map eInt=l'.map eInt↔l=l':=⟨q6s z7A l l',fun h=>by rw[h]⟩
theorem q3f(t u:Table)(h:t.shapes=u.shapes∧t.globals=u.globals):t=u:=by
 cases t;cases u
 simp only[Table.mk.injEq]
 exact h
noncomputable def z35:Sp where
 α:=List UInt8
 f:=35
 ok:=fun s=>((s.length:Int)≤9223372036854775807)
 args:=fun s=>[.d false (.str s)]
 res:=fun s=>(.d false (.bool (q1p s)),[])
 inj:=by
  rintro s s' _ _ h
  simp only[List.cons.injEq,V.agg.injEq,V.d.injEq,D.sl.injEq,D.int.injEq,D.str.injEq,D.ptr.injEq,Int.natCast_inj,mI,mS,mG,mN,true_and,and_true] at h
  rw[h]
noncomputable def z36:Sp where
 α:=Unit
 f:=36
 ok:=fun u=>True
 args:=fun u=>[]
 res:=fun u=>(.bsl 0 0 7,[.dat true 2 (givenS.map q0c)])
 inj:=by
  rintro u u' _ _ h
  rfl
noncomputable def z34:Sp where
 α:=Table
 f:=34
 ok:=fun t=>(TabOk t)
 args:=fun t=>[.agg [.d false (.sl 2 (t.shapes.map q0c)),.d false (.sl 3 (t.globals.map q0l))]]
 res:=fun t=>(.d false (.bool (q2M t)),[])
 inj:=by
  rintro t t' _ _ h
  simp only[List.cons.injEq,V.agg.injEq,V.d.injEq,D.sl.injEq,mS,mG,true_and,and_true] at h
  rw[q3f _ _ h]
noncomputable def z79:Sp where
 α:=Int
 f:=79
 ok:=fun op=>True
 args:=fun op=>[.d false (.int .i64 op)]
 res:=fun op=>(z6o (q2g op) (decide (1≤op∧op<18)),[])
 inj:=by
  rintro op op' _ _ h
  simp only[List.cons.injEq,V.agg.injEq,V.d.injEq,D.sl.injEq,D.int.injEq,D.str.injEq,D.ptr.injEq,Int.natCast_inj,mI,mS,mG,mN,true_and,and_true] at h
  rw[h]
noncomputable def z80:Sp where
 α:=List Shape×List Glob×List UInt8×Int×List Instr×Int×Int×Int
 f:=80
 ok:=fun(sh,gl,nm,ar,cd,at_,n,kind)=>(0≤kind∧kind≤8)
 args:=fun(sh,gl,nm,ar,cd,at_,n,kind)=>[.agg [.d false (.sl 2 (sh.map q0c)),.d false (.sl 3 (gl.map q0l))],.agg [.d false (.str nm),.d false (.int .i64 ar),.d false (.sl 3 (cd.map q0j))],.d false (.int .i64 at_),.d false (.int .i64 n),.d false (.int .i64 kind)]
 res:=fun(sh,gl,nm,ar,cd,at_,n,kind)=>(.d false (.int .i64 (q0S gl.length sh.length cd.length at_ n kind)),[])
 inj:=by
  rintro⟨sh,gl,nm,ar,cd,at_,n,kind⟩ ⟨sh',gl',nm',ar',cd',at_',n',kind'⟩ _ _ h
  simp only[List.cons.injEq,V.agg.injEq,V.d.injEq,D.sl.injEq,D.int.injEq,D.str.injEq,D.ptr.injEq,Int.natCast_inj,mI,mS,mG,mN,true_and,and_true] at h
  simp only[h]
noncomputable def z81:Sp where
 α:=List Shape×List Glob×Int×Int×Int×Int
 f:=81
 ok:=fun(sh,gl,op,a,b,d)=>(1≤d∧d≤8000)∧(0≤a∧a≤9223372036854775807∨(op≠1∧op≠4∧op≠5∧op≠7∧op≠8))∧(op=9∨op=10→0≤a∧a<sh.length∧0≤(nth sh a).fields∧(nth sh a).fields≤8)
 args:=fun(sh,gl,op,a,b,d)=>[.agg [.d false (.sl 2 (sh.map q0c)),.d false (.sl 3 (gl.map q0l))],.agg [.d false (.int .i64 op),.d false (.int .i64 a),.d false (.int .i64 b)],.d false (.int .i64 d)]
 res:=fun(sh,gl,op,a,b,d)=>(.tup [.d false (.int .i64 (q0t sh ⟨op,a,b⟩ d).1),.d false (.bool (q0t sh ⟨op,a,b⟩ d).2)],[])
 inj:=by
  rintro⟨sh,gl,op,a,b,d⟩ ⟨sh',gl',op',a',b',d'⟩ _ _ h
  simp only[List.cons.injEq,V.agg.injEq,V.d.injEq,D.sl.injEq,D.int.injEq,D.str.injEq,D.ptr.injEq,Int.natCast_inj,mI,mS,mG,mN,true_and,and_true] at h
  simp only[h]
noncomputable def z37:Sp where
 α:=List Shape×List Glob×List UInt8×Int×List Instr
 f:=37
 ok:=fun(sh,gl,nm,ar,cd)=>(ShOk sh)∧(cd.length≤8000)∧(0≤ar∧ar≤24)∧(∀ x∈cd,x.a≤9223372036854775807)
 args:=fun(sh,gl,nm,ar,cd)=>[.agg [.d false (.sl 2 (sh.map q0c)),.d false (.sl 3 (gl.map q0l))],.agg [.d false (.str nm),.d false (.int .i64 ar),.d false (.sl 3 (cd.map q0j))]]
 res:=fun(sh,gl,nm,ar,cd)=>(.d false (.int .i64 (q1l gl.length sh ⟨nm,ar,cd⟩)),[])
 inj:=by
  rintro⟨sh,gl,nm,ar,cd⟩ ⟨sh',gl',nm',ar',cd'⟩ _ _ h
  simp only[List.cons.injEq,V.agg.injEq,V.d.injEq,D.sl.injEq,D.int.injEq,D.str.injEq,D.ptr.injEq,Int.natCast_inj,mI,mS,mG,mN,true_and,and_true] at h
  simp only[h]
noncomputable def z13:Sp where
 α:=Table
 f:=13
 ok:=fun t=>(TabOk t)
 args:=fun t=>[.agg [.d false (.sl 2 (t.shapes.map q0c)),.d false (.sl 3 (t.globals.map q0l))]]
 res:=fun t=>(.d false (.int .i64 (q5v t)),[])
 inj:=by
  rintro t t' _ _ h
  simp only[List.cons.injEq,V.agg.injEq,V.d.injEq,D.sl.injEq,mS,mG,true_and,and_true] at h
  rw[q3f _ _ h]
noncomputable def z28:Sp where
 α:=List Shape×List Glob×Int×Int×Int
 f:=28
 ok:=fun(sh,gl,op,a,b)=>True
 args:=fun(sh,gl,op,a,b)=>[.agg [.d false (.sl 2 (sh.map q0c)),.d false (.sl 3 (gl.map q0l))],.agg [.d false (.int .i64 op),.d false (.int .i64 a),.d false (.int .i64 b)]]
 res:=fun(sh,gl,op,a,b)=>(.d false (.bool (q1D gl.length sh.length ⟨op,a,b⟩)),[])
 inj:=by
  rintro⟨sh,gl,op,a,b⟩ ⟨sh',gl',op',a',b'⟩ _ _ h
  simp only[List.cons.injEq,V.agg.injEq,V.d.injEq,D.sl.injEq,D.int.injEq,D.str.injEq,D.ptr.injEq,Int.natCast_inj,mI,mS,mG,mN,true_and,and_true] at h
  simp only[h]
noncomputable def z32:Sp where
 α:=Int×Int×Int
 f:=32
 ok:=fun(op,a,b)=>True
 args:=fun(op,a,b)=>[.agg [.d false (.int .i64 op),.d false (.int .i64 a),.d false (.int .i64 b)]]
 res:=fun(op,a,b)=>(.d false (.int .i64 (q04 ⟨op,a,b⟩)),[])
 inj:=by
  rintro⟨op,a,b⟩ ⟨op',a',b'⟩ _ _ h
  simp only[List.cons.injEq,V.agg.injEq,V.d.injEq,D.sl.injEq,D.int.injEq,D.str.injEq,D.ptr.injEq,Int.natCast_inj,mI,mS,mG,mN,true_and,and_true] at h
  simp only[h]
noncomputable def z30:Sp where
 α:=Int×Int×Int
 f:=30
 ok:=fun(op,a,b)=>True
 args:=fun(op,a,b)=>[.agg [.d false (.int .i64 op),.d false (.int .i64 a),.d false (.int .i64 b)]]
 res:=fun(op,a,b)=>(.d false (.bool (q5D ⟨op,a,b⟩)),[])
 inj:=by
  rintro⟨op,a,b⟩ ⟨op',a',b'⟩ _ _ h
  simp only[List.cons.injEq,V.agg.injEq,V.d.injEq,D.sl.injEq,D.int.injEq,D.str.injEq,D.ptr.injEq,Int.natCast_inj,mI,mS,mG,mN,true_and,and_true] at h
  simp only[h]
noncomputable def z29:Sp where
 α:=List Shape×List Glob×Int×Int×Int×Int
 f:=29
 ok:=fun(sh,gl,op,a,b,d)=>(1≤d∧d≤8000)∧(op=9→0≤a∧a<sh.length)
 args:=fun(sh,gl,op,a,b,d)=>[.agg [.d false (.sl 2 (sh.map q0c)),.d false (.sl 3 (gl.map q0l))],.agg [.d false (.int .i64 op),.d false (.int .i64 a),.d false (.int .i64 b)],.d false (.int .i64 d)]
 res:=fun(sh,gl,op,a,b,d)=>(.d false (.bool (q3L sh ⟨op,a,b⟩ d)),[])
 inj:=by
  rintro⟨sh,gl,op,a,b,d⟩ ⟨sh',gl',op',a',b',d'⟩ _ _ h
  simp only[List.cons.injEq,V.agg.injEq,V.d.injEq,D.sl.injEq,D.int.injEq,D.str.injEq,D.ptr.injEq,Int.natCast_inj,mI,mS,mG,mN,true_and,and_true] at h
  simp only[h]
noncomputable def z31:Sp where
 α:=List Shape×List Glob×Int×Int×Int×Int
 f:=31
 ok:=fun(sh,gl,op,a,b,d)=>(1≤d∧d≤8000)∧(op=4∨op=5∨op=8→0≤a∧a≤9223372036854775807)∧(op=9∨op=10→0≤a∧a<sh.length∧0≤q0R sh a∧q0R sh a≤8)
 args:=fun(sh,gl,op,a,b,d)=>[.agg [.d false (.sl 2 (sh.map q0c)),.d false (.sl 3 (gl.map q0l))],.agg [.d false (.int .i64 op),.d false (.int .i64 a),.d false (.int .i64 b)],.d false (.int .i64 d)]
 res:=fun(sh,gl,op,a,b,d)=>(.d false (.int .i64 (q06 sh ⟨op,a,b⟩ d)),[])
 inj:=by
  rintro⟨sh,gl,op,a,b,d⟩ ⟨sh',gl',op',a',b',d'⟩ _ _ h
  simp only[List.cons.injEq,V.agg.injEq,V.d.injEq,D.sl.injEq,D.int.injEq,D.str.injEq,D.ptr.injEq,Int.natCast_inj,mI,mS,mG,mN,true_and,and_true] at h
  simp only[h]
noncomputable def z11:Sp where
 α:=Unit
 f:=11
 ok:=fun _=>True
 args:=fun _=>[]
 res:=fun _=>(.d false (.bool true),[])
 inj:=by
  rintro u u' _ _ h
  rfl
noncomputable def y82:Se where
 α:=Bool×List Int×Int×Int
 f:=82
 ok:=fun(_,Dp,at_,_)=>0≤at_∧at_<Dp.length
 args:=fun(_,Dp,at_,d)=>[.bsl 0 0 Dp.length,.d false (.int .i64 at_),.d false (.int .i64 d)]
 blks:=fun(c,Dp,_,_)=>[.dat c 1 (Dp.map eInt)]
 res:=fun(c,Dp,at_,d)=>(.d false (.bool (q1g Dp at_ d)),[.dat c 1 ((q0L Dp at_ d).map eInt)],[])
 inj:=by
  rintro⟨c,Dp,at_,d⟩ ⟨c',Dp',at_',d'⟩ _ _ h h2
  simp only[List.cons.injEq,V.bsl.injEq,V.d.injEq,D.int.injEq,true_and,and_true] at h
  simp only[List.cons.injEq,Blk.dat.injEq,mN,true_and,and_true] at h2
  simp only[h,h2]
theorem j0I{G:Nat→Option (List D)}{L:List Sp}{E:List Se}(h:Has L z35):K21 (cx G L E):=fun s h1=>h s h1
theorem j0H{G:Nat→Option (List D)}{L:List Sp}{E:List Se}(h:Has L z36):K22 (cx G L E):=h () trivial
theorem j0J{G:Nat→Option (List D)}{L:List Sp}{E:List Se}(h:Has L z34):K20 (cx G L E):=fun t h1=>h t h1
theorem j0z{G:Nat→Option (List D)}{L:List Sp}{E:List Se}(h:Has L z79):K40 (cx G L E):=fun op=>h op trivial
theorem j0y{G:Nat→Option (List D)}{L:List Sp}{E:List Se}(h:Has L z80):K41 (cx G L E):=fun sh gl nm ar cd at_ n kind h1=>h (sh,gl,nm,ar,cd,at_,n,kind) h1
theorem j0x{G:Nat→Option (List D)}{L:List Sp}{E:List Se}(h:Has L z81):K42 (cx G L E):=fun sh gl op a b d h1 h2 h3=>h (sh,gl,op,a,b,d) ⟨h1,h2,h3⟩
theorem j0G{G:Nat→Option (List D)}{L:List Sp}{E:List Se}(h:Has L z37):K23 (cx G L E):=fun sh gl nm ar cd h1 h2 h3 h4=>h (sh,gl,nm,ar,cd) ⟨h1,h2,h3,h4⟩
theorem j0Q{G:Nat→Option (List D)}{L:List Sp}{E:List Se}(h:Has L z13):K13 (cx G L E):=fun t h1=>h t h1
theorem j0N{G:Nat→Option (List D)}{L:List Sp}{E:List Se}(h:Has L z28):K46 (cx G L E):=fun sh gl ⟨op,a,b⟩=>h (sh,gl,op,a,b) trivial
theorem z77{G:Nat→Option (List D)}{L:List Sp}{E:List Se}(h:Has L z32):K48 (cx G L E):=fun⟨op,a,b⟩=>h (op,a,b) trivial
theorem j0L{G:Nat→Option (List D)}{L:List Sp}{E:List Se}(h:Has L z30):K51 (cx G L E):=fun⟨op,a,b⟩=>h (op,a,b) trivial
theorem j0M{G:Nat→Option (List D)}{L:List Sp}{E:List Se}(h:Has L z29):K49 (cx G L E):=fun sh gl ⟨op,a,b⟩ d h1 h2=>h (sh,gl,op,a,b,d) ⟨h1,h2⟩
theorem j0K{G:Nat→Option (List D)}{L:List Sp}{E:List Se}(h:Has L z31):K50 (cx G L E):=fun sh gl ⟨op,a,b⟩ d h1 h2 h3=>h (sh,gl,op,a,b,d) ⟨h1,h2,h3⟩
theorem j0w{G:Nat→Option (List D)}{L:List Sp}{E:List Se}(h:HasE E y82):K43 (cx G L E):=fun c Dp at_ d n h1 h2=>by subst h2;exact h (c,Dp,at_,d) h1
theorem j0S{G:Nat→Option (List D)}{L:List Sp}{E:List Se}(h:Has L z11):(cx G L E).call 11 []=some (.d false (.bool true),[]):=h () trivial
noncomputable def ZL0:List Sp:=[z11]
noncomputable def ZE0:List Se:=[y82]
theorem zn0:Known Tryz.prog GT ZL0 ZE0:=(Known.nil.put (s:=z11) (fun _ _=>j1Y)).addE q0C (fun⟨c,Dp,at_,d⟩ _=>j03) (fun⟨c,Dp,at_,d⟩ h=>z7g _ c Dp at_ d h _ rfl)
noncomputable def ZL1:List Sp:=z35 :: ZL0
theorem zn1:Known Tryz.prog GT ZL1 ZE0:=by
 exact zn0.add q0C (fun s _=>j1r) (fun s h1=>⟨_,z49 _ s h1⟩)
noncomputable def ZL2:List Sp:=z36 :: ZL1
theorem zn2:Known Tryz.prog GT ZL2 ZE0:=by
 exact zn1.add q0C (fun u _=>j1q) (fun u _=>⟨_,z7l _⟩)
noncomputable def ZL3:List Sp:=z34 :: ZL2
theorem zn3:Known Tryz.prog GT ZL3 ZE0:=by
 exact zn2.add q0C (fun t _=>j1s) (fun t h1=>⟨_,z7k _ t h1.gl h1.sh h1.cd⟩)
noncomputable def ZL4:List Sp:=z79 :: ZL3
theorem zn4:Known Tryz.prog GT ZL4 ZE0:=by
 exact zn3.add q0C (fun op _=>j06) (fun op _=>⟨_,z7m _ op⟩)
noncomputable def ZL5:List Sp:=z80 :: ZL4
theorem zn5:Known Tryz.prog GT ZL5 ZE0:=by
 exact zn4.add q0C (fun⟨sh,gl,nm,ar,cd,at_,n,kind⟩ _=>j05) (fun⟨sh,gl,nm,ar,cd,at_,n,kind⟩ h1=>⟨_,z48 _ ⟨sh,gl⟩ ⟨nm,ar,cd⟩ at_ n kind h1⟩)
noncomputable def ZL6:List Sp:=z81 :: ZL5
theorem zn6:Known Tryz.prog GT ZL6 ZE0:=by
 exact zn5.add q0C (fun⟨sh,gl,op,a,b,d⟩ _=>j04) (fun⟨sh,gl,op,a,b,d⟩ ⟨h1,h2,h3⟩=>⟨_,z2w _ ⟨sh,gl⟩ ⟨op,a,b⟩ d h1 h2 h3⟩)
noncomputable def ZL7:List Sp:=z37 :: ZL6
theorem zn7:Known Tryz.prog GT ZL7 ZE0:=by
 have k79:=j0z (G:=GT) (E:=ZE0) (show Has ZL6 z79 by repeat(first|exact q0n _ _|refine q0m ?_ (by decide)))
 have k80:=j0y (G:=GT) (E:=ZE0) (show Has ZL6 z80 by repeat(first|exact q0n _ _|refine q0m ?_ (by decide)))
 have k81:=j0x (G:=GT) (E:=ZE0) (show Has ZL6 z81 by repeat(first|exact q0n _ _|refine q0m ?_ (by decide)))
 have k82:K43 (cx GT ZL6 ZE0):=j0w (q6L _ _)
 exact zn6.add q0C (fun⟨sh,gl,nm,ar,cd⟩ _=>j1p) (fun⟨sh,gl,nm,ar,cd⟩ ⟨h1,h2,h3,h4⟩=>⟨_,q9t _ k79 k80 k81 k82 sh gl ⟨nm,ar,cd⟩ h1 h2 h3 h4⟩)
noncomputable def ZL8:List Sp:=z13 :: ZL7
theorem zn8:Known Tryz.prog GT ZL8 ZE0:=by
 have k34:=j0J (G:=GT) (E:=ZE0) (show Has ZL7 z34 by repeat(first|exact q0n _ _|refine q0m ?_ (by decide)))
 have k35:=j0I (G:=GT) (E:=ZE0) (show Has ZL7 z35 by repeat(first|exact q0n _ _|refine q0m ?_ (by decide)))
 have k36:=j0H (G:=GT) (E:=ZE0) (show Has ZL7 z36 by repeat(first|exact q0n _ _|refine q0m ?_ (by decide)))
 have k37:=j0G (G:=GT) (E:=ZE0) (show Has ZL7 z37 by repeat(first|exact q0n _ _|refine q0m ?_ (by decide)))
 exact zn7.add q0C (fun t _=>j1G) (fun t h1=>⟨_,z7n _ k34 k35 k36 k37 t h1⟩)
noncomputable def ZL9:List Sp:=z28 :: ZL8
theorem zn9:Known Tryz.prog GT ZL9 ZE0:=by
 exact zn8.add q0C (fun⟨sh,gl,op,a,b⟩ _=>j1x) (fun⟨sh,gl,op,a,b⟩ _=>⟨_,z2y _ sh gl ⟨op,a,b⟩⟩)
noncomputable def ZL10:List Sp:=z32 :: ZL9
theorem zn10:Known Tryz.prog GT ZL10 ZE0:=by
 exact zn9.add q0C (fun⟨op,a,b⟩ _=>j1t) (fun⟨op,a,b⟩ _=>⟨_,z5h _ ⟨op,a,b⟩⟩)
noncomputable def ZL11:List Sp:=z30 :: ZL10
theorem zn11:Known Tryz.prog GT ZL11 ZE0:=by
 exact zn10.add q0C (fun⟨op,a,b⟩ _=>j1v) (fun⟨op,a,b⟩ _=>⟨_,z9J _ ⟨op,a,b⟩⟩)
noncomputable def ZL12:List Sp:=z29 :: ZL11
theorem zn12:Known Tryz.prog GT ZL12 ZE0:=by
 exact zn11.add q0C (fun⟨sh,gl,op,a,b,d⟩ _=>j1w) (fun⟨sh,gl,op,a,b,d⟩ ⟨h1,h2⟩=>⟨_,z7o _ sh gl ⟨op,a,b⟩ d h1 h2⟩)
noncomputable def ZL13:List Sp:=z31 :: ZL12
theorem zn13:Known Tryz.prog GT ZL13 ZE0:=by
 exact zn12.add q0C (fun⟨sh,gl,op,a,b,d⟩ _=>j1u) (fun⟨sh,gl,op,a,b,d⟩ ⟨h1,h2,h3⟩=>⟨_,z5i _ sh gl ⟨op,a,b⟩ d h1 h2 h3⟩)
end Go.Vm
end

section
namespace Go.Vm
open Go.RowKit Go.Shelf Go.Proofs
set_option maxRecDepth 20000
theorem z5G{α:Type}{a b c:List α}(h:a++c=b++c):a=b:=List.append_cancel_right h
theorem z7d{a b:List Instr}(h:finI a=finI b):a=b:=z5G h
theorem z0K{z:Bool}{t u:Table}(h:tblk z 2 t=tblk z 2 u):t=u:=by
 simp only[tblk,List.cons.injEq,Blk.dat.injEq,mS,true_and] at h
 obtain⟨h1,h2,h3⟩:=h
 have hs:t.shapes=u.shapes:=z5G h1
 have hl:t.globals.length=u.globals.length:=by have:=congrArg List.length h3;simpa using this
 have key:∀ i,i<t.globals.length→nth t.globals (i:Int)=nth u.globals i:=by
  intro i hi
  have r1:=q5r (z:=z) (p:=2) hi
  have r2:=q5r (z:=z) (p:=2) (gs:=u.globals) (i:=i) (by omega)
  rw[h2,r2] at r1
  have c1:=congrArg (·[i]?) h3
  simp only[List.getElem?_map,q0U hi,q0U (show i<u.globals.length by omega),Option.map_some,Option.some.injEq,cB,Blk.dat.injEq,mI,true_and] at c1
  have c2:=z7d c1
  have r3:=Option.some.inj r1
  simp only[rowG,List.cons.injEq,V.d.injEq,D.str.injEq,D.int.injEq,true_and] at r3
  generalize nth t.globals (i:Int)=x at *
  generalize nth u.globals (i:Int)=y at *
  cases x;cases y
  simp only at c2 r3
  simp only[Glob.mk.injEq]
  exact⟨r3.1.symm,r3.2.1.symm,c2⟩
 refine q3f _ _ ⟨hs,List.ext_getElem hl fun i a b=>?_⟩
 have:=key i a
 have e1:=q0U a
 have e2:=q0U b
 rw[List.getElem?_eq_getElem a] at e1
 rw[List.getElem?_eq_getElem b] at e2
 rw[Option.some.inj e1,Option.some.inj e2,this]
noncomputable def z84:Sp where
 α:=Int×Int×Int
 f:=84
 ok:=fun(op,a,b)=>True
 args:=fun(op,a,b)=>[.agg [.d false (.int .i64 op),.d false (.int .i64 a),.d false (.int .i64 b)]]
 res:=fun(op,a,b)=>(.d false (.bool (q6D ⟨op,a,b⟩)),[])
 inj:=by
  rintro⟨op,a,b⟩ ⟨op',a',b'⟩ _ _ h
  simp only[List.cons.injEq,V.agg.injEq,V.d.injEq,D.sl.injEq,D.int.injEq,D.str.injEq,D.ptr.injEq,Int.natCast_inj,mI,mS,mG,mN,true_and,and_true] at h
  simp only[h]
theorem j0v{G:Nat→Option (List D)}{L:List Sp}{E:List Se}(h:Has L z84):K47 (cx G L E):=fun⟨op,a,b⟩=>h (op,a,b) trivial
noncomputable def ZL14:List Sp:=z84 :: ZL13
theorem zn14:Known Tryz.prog GT ZL14 ZE0:=by
 exact zn13.add q0C (fun⟨op,a,b⟩ _=>j01) (fun⟨op,a,b⟩ _=>⟨_,z7j _ ⟨op,a,b⟩⟩)
noncomputable def z83:Sp where
 α:=List UInt8
 f:=83
 ok:=fun s=>((s.length:Int)≤9223372036854775807)
 args:=fun s=>[.d false (.str s)]
 res:=fun s=>(.d false (.bool (q1p s)),[])
 inj:=by
  rintro s s' _ _ h
  simp only[List.cons.injEq,V.agg.injEq,V.d.injEq,D.sl.injEq,D.int.injEq,D.str.injEq,D.ptr.injEq,Int.natCast_inj,mI,mS,mG,mN,true_and,and_true] at h
  rw[h]
theorem z74{G:Nat→Option (List D)}{L:List Sp}{E:List Se}(h:Has L z83):K44 (cx G L E):=fun s h1=>h s h1
noncomputable def ZL15:List Sp:=z83 :: ZL14
theorem zn15:Known Tryz.prog GT ZL15 ZE0:=by
 exact zn14.add q0C (fun s _=>j02) (fun s h1=>⟨_,z7h _ s h1⟩)
noncomputable def z78:Sp where
 α:=Unit
 f:=78
 ok:=fun u=>True
 args:=fun u=>[]
 res:=fun u=>(.bsl 0 0 7,[.dat true 2 (givenS.map q0c)])
 inj:=by
  rintro u u' _ _ h
  rfl
theorem j0A{G:Nat→Option (List D)}{L:List Sp}{E:List Se}(h:Has L z78):K45 (cx G L E):=h () trivial
noncomputable def ZL16:List Sp:=z78 :: ZL15
theorem zn16:Known Tryz.prog GT ZL16 ZE0:=by
 exact zn15.add q0C (fun u _=>j07) (fun u _=>⟨_,z2x _⟩)
noncomputable def z38:Sp where
 α:=Table
 f:=38
 ok:=fun t=>(TabOk t)
 args:=fun t=>[.agg [.d false (.sl 2 (t.shapes.map q0c)),.d false (.sl 3 (t.globals.map q0l))]]
 res:=fun t=>(.d false (.bool (q2M t)),[])
 inj:=by
  rintro t t' _ _ h
  simp only[tabV,List.cons.injEq,V.agg.injEq,V.d.injEq,D.sl.injEq,mS,mG,true_and,and_true] at h
  rw[q3f _ _ h]
theorem j0F{G:Nat→Option (List D)}{L:List Sp}{E:List Se}(h:Has L z38):K24 (cx G L E):=fun t h1=>h t h1
noncomputable def ZL17:List Sp:=z38 :: ZL16
theorem zn17:Known Tryz.prog GT ZL17 ZE0:=by
 exact zn16.add q0C (fun t _=>j1o) (fun t h1=>⟨_,z9I _ t h1.gl h1.sh h1.cd⟩)
noncomputable def z39:Sp where
 α:=List Shape
 f:=39
 ok:=fun l=>((l.length:Int)≤9223372036854775807)∧(∀ s∈l,(s.name.length:Int)≤9223372036854775807)
 args:=fun l=>[.d false (.sl 2 (l.map q0c))]
 res:=fun l=>(.d false (.int .i64 (q4g l)),[])
 inj:=by
  rintro l l' _ _ h
  simp only[List.cons.injEq,V.agg.injEq,V.d.injEq,D.sl.injEq,D.int.injEq,D.str.injEq,D.ptr.injEq,Int.natCast_inj,mI,mS,mG,mN,true_and,and_true] at h
  rw[h]
theorem j0E{G:Nat→Option (List D)}{L:List Sp}{E:List Se}(h:Has L z39):K25 (cx G L E):=fun l h1 h2=>h l ⟨h1,h2⟩
noncomputable def ZL18:List Sp:=z39 :: ZL17
theorem zn18:Known Tryz.prog GT ZL18 ZE0:=by
 have k83:=z74 (G:=GT) (E:=ZE0) (show Has ZL17 z83 by repeat(first|exact q0n _ _|refine q0m ?_ (by decide)))
 have k78:=j0A (G:=GT) (E:=ZE0) (show Has ZL17 z78 by repeat(first|exact q0n _ _|refine q0m ?_ (by decide)))
 exact zn17.add q0C (fun l _=>j1n) (fun l ⟨h1,h2⟩=>⟨_,z0s _ k83 k78 l h1 h2⟩)
noncomputable def z40:Sp where
 α:=List Glob
 f:=40
 ok:=fun l=>((l.length:Int)≤9223372036854775807)∧(∀ s∈l,(s.name.length:Int)≤9223372036854775807)
 args:=fun l=>[.d false (.sl 3 (l.map q0l))]
 res:=fun l=>(.d false (.int .i64 (q6H l)),[])
 inj:=by
  rintro l l' _ _ h
  simp only[List.cons.injEq,V.agg.injEq,V.d.injEq,D.sl.injEq,D.int.injEq,D.str.injEq,D.ptr.injEq,Int.natCast_inj,mI,mS,mG,mN,true_and,and_true] at h
  rw[h]
theorem j0D{G:Nat→Option (List D)}{L:List Sp}{E:List Se}(h:Has L z40):K26 (cx G L E):=fun l h1 h2=>h l ⟨h1,h2⟩
noncomputable def ZL19:List Sp:=z40 :: ZL18
theorem zn19:Known Tryz.prog GT ZL19 ZE0:=by
 have k83:=z74 (G:=GT) (E:=ZE0) (show Has ZL18 z83 by repeat(first|exact q0n _ _|refine q0m ?_ (by decide)))
 exact zn18.add q0C (fun l _=>j1m) (fun l ⟨h1,h2⟩=>⟨_,z5a _ k83 l h1 h2⟩)
noncomputable def z41:Sp where
 α:=List Shape×List Glob×List Instr
 f:=41
 ok:=fun(sh,gl,cd)=>(cd.length≤8000)
 args:=fun(sh,gl,cd)=>[.agg [.d false (.sl 2 (sh.map q0c)),.d false (.sl 3 (gl.map q0l))],.d false (.sl 3 (cd.map q0j))]
 res:=fun(sh,gl,cd)=>(.d false (.int .i64 (q3j gl.length sh cd)),[])
 inj:=by
  rintro⟨sh,gl,cd⟩ ⟨sh',gl',cd'⟩ _ _ h
  simp only[List.cons.injEq,V.agg.injEq,V.d.injEq,D.sl.injEq,D.int.injEq,D.str.injEq,D.ptr.injEq,Int.natCast_inj,mI,mS,mG,mN,true_and,and_true] at h
  simp only[h]
theorem j0C{G:Nat→Option (List D)}{L:List Sp}{E:List Se}(h:Has L z41):K27 (cx G L E):=fun sh gl cd h1=>h (sh,gl,cd) h1
noncomputable def ZL20:List Sp:=z41 :: ZL19
theorem zn20:Known Tryz.prog GT ZL20 ZE0:=by
 have k28:=j0N (G:=GT) (E:=ZE0) (show Has ZL19 z28 by repeat(first|exact q0n _ _|refine q0m ?_ (by decide)))
 have k84:=j0v (G:=GT) (E:=ZE0) (show Has ZL19 z84 by repeat(first|exact q0n _ _|refine q0m ?_ (by decide)))
 have k32:=z77 (G:=GT) (E:=ZE0) (show Has ZL19 z32 by repeat(first|exact q0n _ _|refine q0m ?_ (by decide)))
 exact zn19.add q0C (fun⟨sh,gl,cd⟩ _=>j1l) (fun⟨sh,gl,cd⟩ h1=>⟨_,z0t _ k28 k84 k32 sh gl cd h1⟩)
open Classical in
noncomputable def z5w:List Shape×List Glob×List UInt8×Int×List Instr→Bool×List (List D):=fun(sh,gl,nm,ar,cd)=>if h:∃ q:Bool×List (List D),q0o (cx GT ZL20 ZE0) f42 [.agg [.d false (.sl 2 (sh.map q0c)),.d false (.sl 3 (gl.map q0l))],.agg [.d false (.str nm),.d false (.int .i64 ar),.d false (.sl 3 (cd.map q0j))]] []=some (.tup [.d q.1 (.sl 1 q.2),.d false (.int .i64 (depL sh cd cd.length 0 ((List.replicate cd.length 0).set 0 (ar+1))))],[],[]) then h.choose else(false,[])
noncomputable def z42:Sp where
 α:=List Shape×List Glob×List UInt8×Int×List Instr
 f:=42
 ok:=fun(sh,gl,nm,ar,cd)=>(cd.length≤8000)∧(0<cd.length)∧(0≤ar∧ar≤24)∧(ShOk sh)∧(∀ i:Nat,i<cd.length→NumOk sh.length cd.length i (nth cd i))∧(∀ x∈cd,x.a≤9223372036854775807)
 args:=fun(sh,gl,nm,ar,cd)=>[.agg [.d false (.sl 2 (sh.map q0c)),.d false (.sl 3 (gl.map q0l))],.agg [.d false (.str nm),.d false (.int .i64 ar),.d false (.sl 3 (cd.map q0j))]]
 res:=fun(sh,gl,nm,ar,cd)=>(.tup [.d (z5w (sh,gl,nm,ar,cd)).1 (.sl 1 (z5w (sh,gl,nm,ar,cd)).2),.d false (.int .i64 (depL sh cd cd.length 0 ((List.replicate cd.length 0).set 0 (ar+1))))],[])
 inj:=by
  rintro⟨sh,gl,nm,ar,cd⟩ ⟨sh',gl',nm',ar',cd'⟩ _ _ h
  simp only[List.cons.injEq,V.agg.injEq,V.d.injEq,D.sl.injEq,D.int.injEq,D.str.injEq,D.ptr.injEq,Int.natCast_inj,mI,mS,mG,mN,true_and,and_true] at h
  simp only[h]
theorem j0B{G:Nat→Option (List D)}{L:List Sp}{E:List Se}(h:Has L z42):K28 (cx G L E):=fun sh gl nm ar cd h1 h2 h3 h4 h5 h6=>⟨_,_,h (sh,gl,nm,ar,cd) ⟨h1,h2,h3,h4,h5,h6⟩⟩
noncomputable def ZL21:List Sp:=z42 :: ZL20
theorem zn21:Known Tryz.prog GT ZL21 ZE0:=by
 have k32:=z77 (G:=GT) (E:=ZE0) (show Has ZL20 z32 by repeat(first|exact q0n _ _|refine q0m ?_ (by decide)))
 have k29:=j0M (G:=GT) (E:=ZE0) (show Has ZL20 z29 by repeat(first|exact q0n _ _|refine q0m ?_ (by decide)))
 have k31:=j0K (G:=GT) (E:=ZE0) (show Has ZL20 z31 by repeat(first|exact q0n _ _|refine q0m ?_ (by decide)))
 have k30:=j0L (G:=GT) (E:=ZE0) (show Has ZL20 z30 by repeat(first|exact q0n _ _|refine q0m ?_ (by decide)))
 refine zn20.add q0C (fun⟨sh,gl,nm,ar,cd⟩ _=>j1k) (fun⟨sh,gl,nm,ar,cd⟩ ⟨h1,h2,h3,h4,h5,h6⟩=>⟨[],?_⟩)
 obtain⟨cc,U,e⟩:=z5b _ k32 k29 k31 k30 sh gl nm ar cd h1 h2 h3 h4 h5 h6
 have hx:∃ q:Bool×List (List D),q0o (cx GT ZL20 ZE0) f42 [.agg [.d false (.sl 2 (sh.map q0c)),.d false (.sl 3 (gl.map q0l))],.agg [.d false (.str nm),.d false (.int .i64 ar),.d false (.sl 3 (cd.map q0j))]] []=some (.tup [.d q.1 (.sl 1 q.2),.d false (.int .i64 (depL sh cd cd.length 0 ((List.replicate cd.length 0).set 0 (ar+1))))],[],[]):=⟨(cc,U),e⟩
 have e2:z5w (sh,gl,nm,ar,cd)=hx.choose:=dif_pos hx
 show q0o (cx GT ZL20 ZE0) f42 _ []=some (.tup [.d (z5w (sh,gl,nm,ar,cd)).1 (.sl 1 (z5w (sh,gl,nm,ar,cd)).2),_],[],[])
 rw[e2]
 exact hx.choose_spec
noncomputable def z14:Sp where
 α:=Table
 f:=14
 ok:=fun t=>(TabOk t)
 args:=fun t=>[.agg [.d false (.sl 2 (t.shapes.map q0c)),.d false (.sl 3 (t.globals.map q0l))]]
 res:=fun t=>(.d false (.int .i64 (q5v t)),[])
 inj:=by
  rintro t t' _ _ h
  simp only[tabV,List.cons.injEq,V.agg.injEq,V.d.injEq,D.sl.injEq,mS,mG,true_and,and_true] at h
  rw[q3f _ _ h]
theorem j0P{G:Nat→Option (List D)}{L:List Sp}{E:List Se}(h:Has L z14):L14 (cx G L E):=fun t h1=>h t h1
noncomputable def ZL22:List Sp:=z14 :: ZL21
theorem zn22:Known Tryz.prog GT ZL22 ZE0:=by
 have k38:=j0F (G:=GT) (E:=ZE0) (show Has ZL21 z38 by repeat(first|exact q0n _ _|refine q0m ?_ (by decide)))
 have k39:=j0E (G:=GT) (E:=ZE0) (show Has ZL21 z39 by repeat(first|exact q0n _ _|refine q0m ?_ (by decide)))
 have k40:=j0D (G:=GT) (E:=ZE0) (show Has ZL21 z40 by repeat(first|exact q0n _ _|refine q0m ?_ (by decide)))
 have k41:=j0C (G:=GT) (E:=ZE0) (show Has ZL21 z41 by repeat(first|exact q0n _ _|refine q0m ?_ (by decide)))
 have k42:=j0B (G:=GT) (E:=ZE0) (show Has ZL21 z42 by repeat(first|exact q0n _ _|refine q0m ?_ (by decide)))
 exact zn21.add q0C (fun t _=>j1F) (fun t h1=>⟨_,z5e _ k38 k39 k40 k41 k42 t h1⟩)
noncomputable def z15:Sp where
 α:=Table×Table
 f:=15
 ok:=fun(a,b)=>(Big a)∧(Big b)
 args:=fun(a,b)=>[.agg (tabV a),.agg (tabV b)]
 res:=fun(a,b)=>(.d false (.bool (decide (a=b))),[])
 inj:=by
  rintro⟨a,b⟩ ⟨a',b'⟩ _ _ h
  simp only[tabV,List.cons.injEq,V.agg.injEq,V.d.injEq,D.sl.injEq,mS,mG,true_and,and_true] at h
  rw[q3f _ _ h.1,q3f _ _ h.2]
theorem j0O{G:Nat→Option (List D)}{L:List Sp}{E:List Se}(h:Has L z15):L15 (cx G L E):=fun a b h1 h2=>h (a,b) ⟨h1,h2⟩
noncomputable def ZL23:List Sp:=z15 :: ZL22
theorem zn23:Known Tryz.prog GT ZL23 ZE0:=by
 exact zn22.add q0C (fun⟨a,b⟩ _=>j1E) (fun⟨a,b⟩ ⟨h1,h2⟩=>⟨_,z9G _ a b h1 h2⟩)
noncomputable def z12:Sp where
 α:=Table
 f:=12
 ok:=fun t=>(Sm t)
 args:=fun t=>[.agg (tabV t)]
 res:=fun t=>(.agg [.bsx 0 0 t.shapes.length,.bsx 1 0 t.globals.length],tblk true 2 t)
 inj:=by
  rintro t t' _ _ h
  simp only[tabV,List.cons.injEq,V.agg.injEq,V.d.injEq,D.sl.injEq,mS,mG,true_and,and_true] at h
  rw[q3f _ _ h]
theorem j0R{G:Nat→Option (List D)}{L:List Sp}{E:List Se}(h:Has L z12):L12 (cx G L E):=fun t h1=>h t h1
noncomputable def ZL24:List Sp:=z12 :: ZL23
theorem zn24:Known Tryz.prog GT ZL24 ZE0:=by
 exact zn23.add q0C (fun t _=>j1H) (fun t h1=>⟨_,z61 _ t h1⟩)
noncomputable def y16:Se where
 α:=Table
 f:=16
 ok:=fun t=>Sm t
 args:=fun t=>[.agg [.bsx 0 0 t.shapes.length,.bsx 1 0 t.globals.length]]
 blks:=fun t=>tblk false 2 t
 res:=fun t=>(.d false (.bool true),tblk false 2 t,[])
 inj:=by
  rintro t t' _ _ _ h
  rw[z0K h]
noncomputable def y17:Se where
 α:=Table
 f:=17
 ok:=fun t=>Sm t
 args:=fun t=>[.agg [.bsx 0 0 t.shapes.length,.bsx 1 0 t.globals.length]]
 blks:=fun t=>tblk false 2 t
 res:=fun t=>(.tup [],q2D t,[])
 inj:=by
  rintro t t' _ _ _ h
  rw[z0K h]
noncomputable def ZE1:List Se:=y17 :: y16 :: ZE0
theorem znE:Known Tryz.prog GT ZL24 ZE1:=(zn24.addE (s:=y16) q0C (fun t _=>z9A _) (fun t h=>z67 _ t h)).addE (s:=y17) q0C (fun t _=>z9z _) (fun t h=>z6q _ t h)
theorem j0u{G:Nat→Option (List D)}{L:List Sp}{E:List Se}(h:HasE E y16):L16 (cx G L E):=fun t ht=>h t ht
theorem j0t{G:Nat→Option (List D)}{L:List Sp}{E:List Se}(h:HasE E y17):L17 (cx G L E):=fun t ht=>h t ht
end Go.Vm
end

section
namespace Go.Vm
open Go.RowKit Go.Shelf Go.Proofs
set_option maxRecDepth 20000
theorem cell_of_glob{m:Int}{w:World}{F:Nat→Prop}(hG:GlobRel w F (GTm m)):w.cell? ⟨1,0,none⟩=some (.int .i64 m):=by
 have h:=hG 1 [.int .i64 m] rfl
 rw[if_neg (by simp [q5M])] at h
 obtain⟨h,_⟩:=h
 cases h with
 |ptr b o cells g hF hc hr=>
  have c:=hc 0 _ rfl
  have r:=hr 0 _ rfl
  generalize g 0=u at c r
  cases r
  simpa using c
theorem pure_replaceAll(m:Int)(s old new:Bs)(hs:s.length≤100000)(ho:old.length=1)(hn:new.length≤2):q1f Tryz.prog (GTm m) 88 [.d false (.str s),.d false (.str old),.d false (.str new)] (.d false (.str (Lib.replaceAll s old new))) []:=by
 intro w F vals hF hG hR
 obtain⟨hsz,hval⟩:=hR
 obtain⟨l⟩:=vals
 match l,hsz,hval with
 |[v0,v1,v2],hsz,hval=>
  obtain⟨a,e0,e0'⟩:=(hval 0 v0 (.d false (.str s)) rfl rfl).str_inv
  obtain⟨b,e1,e1'⟩:=(hval 1 v1 (.d false (.str old)) rfl rfl).str_inv
  obtain⟨c,e2,e2'⟩:=(hval 2 v2 (.d false (.str new)) rfl rfl).str_inv
  subst e0;subst e1;subst e2
  have za:a.size=s.length:=by rw[e0',Array.length_toList];rfl
  have zb:b.size=old.length:=by rw[e1',Array.length_toList];rfl
  have zc:c.size=new.length:=by rw[e2',Array.length_toList];rfl
  have hcnt:Lib.countB a b≤100000:=by
   show Lib.count a.data.toList b.data.toList≤_
   rw[←e0',←e1']
   match old,ho with
   |[x],_=>rw[count_one];have:=List.count_le_length (a:=x) (l:=s);omega
  have hmul:Lib.countB a b*c.size≤100000*2:=Nat.mul_le_mul hcnt (by omega)
  refine(Any.strings_ReplaceAll Tryz.lays155 Tryz.Builder_Extra_155 a b c m w (by omega) (cell_of_glob hG) (by omega) (by omega)).mono ?_
  rintro e w' ⟨rfl,hb⟩
  refine⟨_,F,fun _=>none,rfl,hb,fun b h=>.inl h,?_,q2Y (fun b h=>Nat.lt_of_lt_of_le (hF b h) hb.size)⟩
  rw[e0',e1',e2']
  exact .d _ _ _ (.str _)
 |[],hsz,_=>simp at hsz
 |[_],hsz,_=>simp at hsz
 |[_,_],hsz,_=>simp at hsz
 |_ :: _ :: _ :: _ :: _,hsz,_=>simp at hsz
theorem mU(l l':Bs):l.map eU=l'.map eU↔l=l':=⟨q6s (fun a b h=>by simpa [eU,u8k2] using h) l l',fun h=>by rw[h]⟩
noncomputable def y43:Se where
 α:=Bool×Bs×Bs
 f:=43
 ok:=fun(_,l,s)=>l.length≤1000000000000∧s.length≤1000000000∧s≠[]
 args:=fun(_,l,s)=>[.bsl 0 0 l.length,.d false (.str s)]
 blks:=fun(c,l,_)=>[.dat c 1 (l.map eU)]
 res:=fun(c,l,s)=>(.bsl 0 0 (l++s).length,[.dat c 1 ((l++s).map eU)],[0])
 inj:=by
  rintro⟨c,l,s⟩ ⟨c',l',s'⟩ _ _ h h2
  simp only[List.cons.injEq,V.bsl.injEq,V.d.injEq,D.str.injEq,true_and,and_true] at h
  simp only[List.cons.injEq,Blk.dat.injEq,mU,true_and,and_true] at h2
  simp only[h,h2]
noncomputable def Sp44:Sp where
 α:=Bs
 f:=44
 ok:=fun s=>s.length≤100000000
 args:=fun s=>[.d false (.str s)]
 res:=fun s=>(.d false (.str (quoteS s)),[])
 inj:=by
  rintro s s' _ _ h
  simp only[List.cons.injEq,V.d.injEq,D.str.injEq,true_and,and_true] at h
  rw[h]
noncomputable def z45a:Sp where
 α:=Nat
 f:=45
 ok:=fun n=>n≤9223372036854775807
 args:=fun n=>[.d false (.int .i64 n)]
 res:=fun n=>(.d false (.str (Lib.decDigits n)),[])
 inj:=by
  rintro n n' _ _ h
  simp only[List.cons.injEq,V.d.injEq,D.int.injEq,Int.natCast_inj,true_and,and_true] at h
  rw[h]
noncomputable def Sp45:Sp where
 α:=Int
 f:=45
 ok:=fun n=>-9223372036854775807≤n∧n≤9223372036854775807
 args:=fun n=>[.d false (.int .i64 n)]
 res:=fun n=>(.d false (.str (Lib.itoa n)),[])
 inj:=by
  rintro n n' _ _ h
  simp only[List.cons.injEq,V.d.injEq,D.int.injEq,true_and,and_true] at h
  rw[h]
noncomputable def Sp85:Sp where
 α:=Unit
 f:=85
 ok:=fun _=>True
 args:=fun _=>[]
 res:=fun _=>(.d true (.sl 1 (wordsL.map eStr)),[])
 inj:=by rintro u u' _ _ h;rfl
noncomputable def Sp86:Sp where
 α:=Unit
 f:=86
 ok:=fun _=>True
 args:=fun _=>[]
 res:=fun _=>(.d true (.sl 1 (opsL.map eStr)),[])
 inj:=by rintro u u' _ _ h;rfl
noncomputable def z108:Sp where
 α:=Unit
 f:=108
 ok:=fun _=>True
 args:=fun _=>[]
 res:=fun _=>(.d true (.sl 1 (opsL.map eStr)),[])
 inj:=by rintro u u' _ _ h;rfl
noncomputable def Sp65:Sp where
 α:=Int
 f:=65
 ok:=fun _=>True
 args:=fun n=>[.d false (.int .i64 n)]
 res:=fun n=>(.d false (.str (formR n)),[])
 inj:=by
  rintro n n' _ _ h
  simp only[List.cons.injEq,V.d.injEq,D.int.injEq,true_and,and_true] at h
  rw[h]
theorem tabV_inj{t u:Table}(h:tabV t=tabV u):t=u:=by
 simp only[tabV,List.cons.injEq,V.d.injEq,D.sl.injEq,mS,mG,true_and,and_true] at h
 exact q3f _ _ h
theorem ins_inj{x y:Instr}(h:[V.d false (.int .i64 x.op),.d false (.int .i64 x.a),.d false (.int .i64 x.b)]=[V.d false (.int .i64 y.op),.d false (.int .i64 y.a),.d false (.int .i64 y.b)]):x=y:=by
 simp only[List.cons.injEq,V.d.injEq,D.int.injEq,true_and,and_true] at h
 cases x;cases y;simp_all
noncomputable def Sp46:Sp where
 α:=Table×Instr
 f:=46
 ok:=fun(t,x)=>Nm t∧InsOk t x
 args:=fun(t,x)=>[.agg (tabV t),.agg [.d false (.int .i64 x.op),.d false (.int .i64 x.a),.d false (.int .i64 x.b)]]
 res:=fun(t,x)=>(.d false (.str (textR t x)),[])
 inj:=by
  rintro⟨t,x⟩ ⟨t',x'⟩ _ _ h
  simp only[List.cons.injEq,V.agg.injEq,and_true] at h
  obtain⟨h1,h2⟩:=h
  rw[tabV_inj h1,ins_inj (x:=x) (y:=x') (by simp only[List.cons.injEq,and_true];exact h2)]
noncomputable def Sp50:Sp where
 α:=Table×Instr
 f:=50
 ok:=fun(t,x)=>Nm t∧InsOk t x
 args:=fun(t,x)=>[.agg (tabV t),.agg [.d false (.int .i64 x.op),.d false (.int .i64 x.a),.d false (.int .i64 x.b)]]
 res:=fun(t,x)=>(.d false (.str (lnT t x)),[])
 inj:=by
  rintro⟨t,x⟩ ⟨t',x'⟩ _ _ h
  simp only[List.cons.injEq,V.agg.injEq,and_true] at h
  obtain⟨h1,h2⟩:=h
  rw[tabV_inj h1,ins_inj (x:=x) (y:=x') (by simp only[List.cons.injEq,and_true];exact h2)]
noncomputable def Sp88:Sp where
 α:=Bs×Bs×Bs
 f:=88
 ok:=fun(s,old,new)=>s.length≤100000∧old.length=1∧new.length≤2
 args:=fun(s,old,new)=>[.d false (.str s),.d false (.str old),.d false (.str new)]
 res:=fun(s,old,new)=>(.d false (.str (Lib.replaceAll s old new)),[])
 inj:=by
  rintro⟨a,b,c⟩ ⟨a',b',c'⟩ _ _ h
  simp only[List.cons.injEq,V.d.injEq,D.str.injEq,true_and,and_true] at h
  simp only[h]
noncomputable def Sp49:Sp where
 α:=Int
 f:=49
 ok:=fun n=>-9223372036854775808≤n∧n≤9223372036854775807
 args:=fun n=>[.d false (.int .i64 n)]
 res:=fun n=>(.d false (.str (Lib.itoa n)),[])
 inj:=by
  rintro n n' _ _ h
  simp only[List.cons.injEq,V.d.injEq,D.int.injEq,true_and,and_true] at h
  rw[h]
noncomputable def Sp48:Sp where
 α:=Bs
 f:=48
 ok:=fun s=>s.length≤4096
 args:=fun s=>[.d false (.str s)]
 res:=fun s=>(.d false (.str (quoteS s)),[])
 inj:=by
  rintro s s' _ _ h
  simp only[List.cons.injEq,V.d.injEq,D.str.injEq,true_and,and_true] at h
  rw[h]
noncomputable def Sp90:Sp where
 α:=Table×Int×Int
 f:=90
 ok:=fun(t,k,n)=>Nm t∧PiC t k n
 args:=fun(t,k,n)=>[.agg (tabV t),.d false (.int .i64 k),.d false (.int .i64 n)]
 res:=fun(t,k,n)=>(.d false (.str (pieceC t k n)),[])
 inj:=by
  rintro⟨t,k,n⟩ ⟨t',k',n'⟩ _ _ h
  simp only[List.cons.injEq,V.agg.injEq,V.d.injEq,D.int.injEq,true_and,and_true] at h
  rw[tabV_inj h.1,h.2.1,h.2.2]
def prV(t:Table):V:=.tup [.d false (.str (printS t).1),.d false (.int .i64 (printS t).2)]
noncomputable def Sp18:Sp where
 α:=Table
 f:=18
 ok:=fun t=>TabOk t∧t.shapes.length≤1048576
 args:=fun t=>[.agg (tabV t)]
 res:=fun t=>(prV t,[])
 inj:=by
  rintro t t' _ _ h
  simp only[List.cons.injEq,V.agg.injEq,and_true] at h
  rw[tabV_inj h]
noncomputable def Sp19:Sp where
 α:=Table
 f:=19
 ok:=fun t=>TabOk t∧t.shapes.length≤1048576
 args:=fun t=>[.agg (tabV t)]
 res:=fun t=>(prV t,[])
 inj:=by
  rintro t t' _ _ h
  simp only[List.cons.injEq,V.agg.injEq,and_true] at h
  rw[tabV_inj h]
noncomputable def y47:Se where
 α:=Bs×Bs
 f:=47
 ok:=fun(b,s)=>b.length≤1000000000000∧s.length≤1000000000
 args:=fun(_,s)=>[.ptr 0 0 0,.d false (.str s)]
 blks:=fun(b,_)=>[bldB 78 1 b.length,bufB 5 b]
 res:=fun(b,s)=>(.tup [.d false (.int .i64 s.length),.d false .nilif],[bldB 78 1 (b++s).length,bufB 5 (b++s)],[1])
 inj:=by
  rintro⟨b,s⟩ ⟨b',s'⟩ _ _ h h2
  simp only[List.cons.injEq,V.d.injEq,D.str.injEq,true_and,and_true] at h
  simp only[List.cons.injEq,Blk.map.injEq,Prod.mk.injEq,D.str.injEq,true_and,and_true] at h2
  simp only[h,h2]
noncomputable def y51:Se where
 α:=Bs
 f:=51
 ok:=fun _=>True
 args:=fun _=>[.ptr 0 0 0]
 blks:=fun b=>[bldB 78 1 b.length,bufB 5 b]
 res:=fun b=>(.d false (.int .i64 b.length),[bldB 78 1 b.length,bufB 5 b],[])
 inj:=by
  rintro b b' _ _ _ h2
  simp only[List.cons.injEq,Blk.map.injEq,Prod.mk.injEq,D.str.injEq,true_and,and_true] at h2
  simp only[h2]
noncomputable def y52:Se where
 α:=Bs
 f:=52
 ok:=fun _=>True
 args:=fun _=>[.ptr 0 0 0]
 blks:=fun b=>[bldB 78 1 b.length,bufB 5 b]
 res:=fun b=>(.d false (.str b),[bldB 78 1 b.length,bufB 5 b],[1])
 inj:=by
  rintro b b' _ _ _ h2
  simp only[List.cons.injEq,Blk.map.injEq,Prod.mk.injEq,D.str.injEq,true_and,and_true] at h2
  simp only[h2]
end Go.Vm
end

section
namespace Go.Vm
open Go.RowKit Go.Shelf Go.Proofs
set_option maxRecDepth 20000
theorem j43{m:Int}{L:List Sp}{E:List Se}(h:HasE E y43):M43 (cx (GTm m) L E):=fun c l s h1 h2 h3=>h (c,l,s) ⟨h1,h2,h3⟩
theorem j44{m:Int}{L:List Sp}{E:List Se}(h:Has L Sp44):M44 (cx (GTm m) L E):=fun s h1=>h s h1
theorem j45a{m:Int}{L:List Sp}{E:List Se}(h:Has L z45a):KD (cx (GTm m) L E):=fun n h1=>h n h1
theorem j45{m:Int}{L:List Sp}{E:List Se}(h:Has L Sp45):M45 (cx (GTm m) L E):=fun n h1 h2=>h n ⟨h1,h2⟩
theorem jM46{m:Int}{L:List Sp}{E:List Se}(h1:Has L Sp85)(h2:Has L Sp86)(h3:Has L Sp65):M46 (cx (GTm m) L E):=⟨h1 () trivial,h2 () trivial,fun op=>h3 op trivial⟩
theorem j46{m:Int}{L:List Sp}{E:List Se}(h:Has L Sp46):L46 (cx (GTm m) L E):=fun t x h1 h2=>h (t,x) ⟨h1,h2⟩
theorem j50{m:Int}{L:List Sp}{E:List Se}(h:Has L Sp50):N50 (cx (GTm m) L E):=fun t x h1 h2=>h (t,x) ⟨h1,h2⟩
theorem j88{m:Int}{L:List Sp}{E:List Se}(h:Has L Sp88):N88 (cx (GTm m) L E):=fun s o n h1 h2 h3=>h (s,o,n) ⟨h1,h2,h3⟩
theorem j49{m:Int}{L:List Sp}{E:List Se}(h:Has L Sp49):N49 (cx (GTm m) L E):=fun n h1 h2=>h n ⟨h1,h2⟩
theorem j48{m:Int}{L:List Sp}{E:List Se}(h:Has L Sp48):N48 (cx (GTm m) L E):=fun s h1=>h s h1
theorem j108{m:Int}{L:List Sp}{E:List Se}(h:Has L z108):N108 (cx (GTm m) L E):=h () trivial
theorem j90{m:Int}{L:List Sp}{E:List Se}(h:Has L Sp90):N90 (cx (GTm m) L E):=fun t k n h1 h2=>h (t,k,n) ⟨h1,h2⟩
theorem j47{m:Int}{L:List Sp}{E:List Se}(h:HasE E y47):E47 (cx (GTm m) L E):=fun b s h1 h2=>h (b,s) ⟨h1,h2⟩
theorem j51{m:Int}{L:List Sp}{E:List Se}(h:HasE E y51):E51 (cx (GTm m) L E):=fun b=>h b trivial
theorem j52{m:Int}{L:List Sp}{E:List Se}(h:HasE E y52):E52 (cx (GTm m) L E):=fun b=>h b trivial
theorem j18{m:Int}{L:List Sp}{E:List Se}(h:Has L Sp18):P18 (cx (GTm m) L E):=fun t h1 h2=>h t ⟨h1,h2⟩
theorem j19{m:Int}{L:List Sp}{E:List Se}(h:Has L Sp19):P19 (cx (GTm m) L E):=fun t h1 h2=>h t ⟨h1,h2⟩
noncomputable def YE1:List Se:=y43 :: ZE1
noncomputable def YE:List Se:=y52 :: y51 :: y47 :: YE1
theorem yp0(m:Int):Known Tryz.prog (GTm m) ZL24 YE:=by
 have k1:=(znE.more (m:=m)).addE (s:=y43) q0C (fun⟨c,l,s⟩ _=>f43_ok) (fun⟨c,l,s⟩ ⟨h1,h2,h3⟩=>ev_put _ false c l s h1 h2 h3)
 have k2:=k1.putE (s:=y47) (fun⟨b,s⟩ ⟨h1,h2⟩=>⟨by kernel_rfl,q6Y tB_ws b s (by omega)⟩)
 have k3:=k2.putE (s:=y51) (fun b _=>⟨by kernel_rfl,z9P Tryz.lays170 b⟩)
 exact k3.putE (s:=y52) (fun b _=>⟨by kernel_rfl,z2B Tryz.lays169 Tryz.Builder_Extra_169 b⟩)
noncomputable def YL1:List Sp:=Sp44 :: ZL24
theorem yp1(m:Int):Known Tryz.prog (GTm m) YL1 YE:=by
 exact(yp0 m).add (s:=Sp44) q0C (fun s _=>f44_ok) (fun s h=>⟨_,ev_quoted _ s h false⟩)
noncomputable def YL2:List Sp:=z45a :: YL1
theorem yp2(m:Int):Known Tryz.prog (GTm m) YL2 YE:=by
 exact(yp1 m).add (s:=z45a) q0C (fun n _=>f45_ok) (fun n h=>⟨_,ev_digits0 _ n h⟩)
noncomputable def YL3:List Sp:=Sp45 :: YL2
theorem yp3(m:Int):Known Tryz.prog (GTm m) YL3 YE:=by
 have d:=j45a (m:=m) (E:=YE) (show Has YL2 z45a by repeat(first|exact q0n _ _|refine q0m ?_ (by decide)))
 exact(yp2 m).add (s:=Sp45) q0C (fun n _=>f45_ok) (fun n ⟨h1,h2⟩=>⟨_,ev_digits _ d n h1 h2⟩)
noncomputable def YL4:List Sp:=Sp85 :: YL3
theorem yp4(m:Int):Known Tryz.prog (GTm m) YL4 YE:=by
 exact(yp3 m).add (s:=Sp85) q0C (fun _ _=>f85_ok) (fun _ _=>⟨_,ev_wordsR _⟩)
noncomputable def YL5:List Sp:=Sp86 :: YL4
theorem yp5(m:Int):Known Tryz.prog (GTm m) YL5 YE:=by
 exact(yp4 m).add (s:=Sp86) q0C (fun _ _=>f86_ok) (fun _ _=>⟨_,ev_opsR _⟩)
noncomputable def YL6:List Sp:=z108 :: YL5
theorem yp6(m:Int):Known Tryz.prog (GTm m) YL6 YE:=by
 exact(yp5 m).add (s:=z108) q0C (fun _ _=>f108_ok) (fun _ _=>⟨_,ev_opsC _⟩)
noncomputable def YL7:List Sp:=Sp65 :: YL6
theorem yp7(m:Int):Known Tryz.prog (GTm m) YL7 YE:=by
 exact(yp6 m).add (s:=Sp65) q0C (fun _ _=>f65_ok) (fun op _=>⟨_,ev_formR _ op⟩)
noncomputable def YL8:List Sp:=Sp46 :: YL7
theorem yp8(m:Int):Known Tryz.prog (GTm m) YL8 YE:=by
 have a:=j44 (m:=m) (E:=YE) (show Has YL7 Sp44 by repeat(first|exact q0n _ _|refine q0m ?_ (by decide)))
 have b:=j45 (m:=m) (E:=YE) (show Has YL7 Sp45 by repeat(first|exact q0n _ _|refine q0m ?_ (by decide)))
 have c:=jM46 (m:=m) (E:=YE) (show Has YL7 Sp85 by repeat(first|exact q0n _ _|refine q0m ?_ (by decide))) (show Has YL7 Sp86 by repeat(first|exact q0n _ _|refine q0m ?_ (by decide))) (show Has YL7 Sp65 by repeat(first|exact q0n _ _|refine q0m ?_ (by decide)))
 exact(yp7 m).add (s:=Sp46) q0C (fun⟨t,x⟩ _=>f46_ok) (fun⟨t,x⟩ ⟨h1,h2⟩=>⟨_,ev_instr _ a b c t h1 x h2⟩)
noncomputable def YL9:List Sp:=Sp88 :: YL8
theorem yp9(m:Int):Known Tryz.prog (GTm m) YL9 YE:=by
 exact(yp8 m).put (s:=Sp88) (fun⟨s,o,n⟩ ⟨h1,h2,h3⟩=>⟨by kernel_rfl,pure_replaceAll m s o n h1 h2 h3⟩)
noncomputable def YL10:List Sp:=Sp49 :: YL9
theorem yp10(m:Int):Known Tryz.prog (GTm m) YL10 YE:=by
 exact(yp9 m).put (s:=Sp49) (fun n ⟨h1,h2⟩=>⟨by kernel_rfl,fun w F vals hF hG hR=>z3Y n false h1 h2 w F vals hF (glob_less hG) hR⟩)
noncomputable def YL11:List Sp:=Sp48 :: YL10
theorem yp11(m:Int):Known Tryz.prog (GTm m) YL11 YE:=by
 have a:=j88 (m:=m) (E:=YE) (show Has YL10 Sp88 by repeat(first|exact q0n _ _|refine q0m ?_ (by decide)))
 exact(yp10 m).add (s:=Sp48) q0C (fun s _=>f48_ok) (fun s h=>⟨_,ev_quote _ a s h⟩)
noncomputable def YL12:List Sp:=Sp90 :: YL11
theorem yp12(m:Int):Known Tryz.prog (GTm m) YL12 YE:=by
 have a:=j48 (m:=m) (E:=YE) (show Has YL11 Sp48 by repeat(first|exact q0n _ _|refine q0m ?_ (by decide)))
 have b:=j49 (m:=m) (E:=YE) (show Has YL11 Sp49 by repeat(first|exact q0n _ _|refine q0m ?_ (by decide)))
 have c:=j108 (m:=m) (E:=YE) (show Has YL11 z108 by repeat(first|exact q0n _ _|refine q0m ?_ (by decide)))
 exact(yp11 m).add (s:=Sp90) q0C (fun⟨t,k,n⟩ _=>f90_ok) (fun⟨t,k,n⟩ ⟨h1,h2⟩=>⟨_,ev_pieceC _ a b c t h1 k n h2⟩)
noncomputable def YL13:List Sp:=Sp50 :: YL12
theorem yp13(m:Int):Known Tryz.prog (GTm m) YL13 YE:=by
 have a:=j49 (m:=m) (E:=YE) (show Has YL12 Sp49 by repeat(first|exact q0n _ _|refine q0m ?_ (by decide)))
 have b:=j90 (m:=m) (E:=YE) (show Has YL12 Sp90 by repeat(first|exact q0n _ _|refine q0m ?_ (by decide)))
 have c:=j0z (G:=GTm m) (E:=YE) (show Has YL12 z79 by repeat(first|exact q0n _ _|refine q0m ?_ (by decide)))
 exact(yp12 m).add (s:=Sp50) q0C (fun⟨t,x⟩ _=>f50_ok) (fun⟨t,x⟩ ⟨h1,h2⟩=>⟨_,by have e:=ev_line _ c a b t h1 x (line_law h2).2;rw[(line_law h2).1] at e;exact e⟩)
noncomputable def YL14:List Sp:=Sp18 :: YL13
theorem yp14(m:Int):Known Tryz.prog (GTm m) YL14 YE:=by
 have a:=j0P (G:=GTm m) (E:=YE) (show Has YL13 z14 by repeat(first|exact q0n _ _|refine q0m ?_ (by decide)))
 have b:=j43 (m:=m) (L:=YL13) (show HasE YE y43 by repeat(first|exact q6L _ _|refine z4P ?_ (by decide)))
 have c:=j44 (m:=m) (E:=YE) (show Has YL13 Sp44 by repeat(first|exact q0n _ _|refine q0m ?_ (by decide)))
 have d:=j45 (m:=m) (E:=YE) (show Has YL13 Sp45 by repeat(first|exact q0n _ _|refine q0m ?_ (by decide)))
 have e:=j46 (m:=m) (E:=YE) (show Has YL13 Sp46 by repeat(first|exact q0n _ _|refine q0m ?_ (by decide)))
 exact(yp13 m).add (s:=Sp18) q0C (fun t _=>f18_ok) (fun t ⟨h1,h2⟩=>⟨_,ev_printR _ a b c d e t h1 h2⟩)
noncomputable def YL15:List Sp:=Sp19 :: YL14
theorem yp15(m:Int):Known Tryz.prog (GTm m) YL15 YE:=by
 have a:=j0Q (G:=GTm m) (E:=YE) (show Has YL14 z13 by repeat(first|exact q0n _ _|refine q0m ?_ (by decide)))
 have b:=j47 (m:=m) (L:=YL14) (show HasE YE y47 by repeat(first|exact q6L _ _|refine z4P ?_ (by decide)))
 have c:=j48 (m:=m) (E:=YE) (show Has YL14 Sp48 by repeat(first|exact q0n _ _|refine q0m ?_ (by decide)))
 have d:=j49 (m:=m) (E:=YE) (show Has YL14 Sp49 by repeat(first|exact q0n _ _|refine q0m ?_ (by decide)))
 have e:=j50 (m:=m) (E:=YE) (show Has YL14 Sp50 by repeat(first|exact q0n _ _|refine q0m ?_ (by decide)))
 have f:=j51 (m:=m) (L:=YL14) (show HasE YE y51 by repeat(first|exact q6L _ _|refine z4P ?_ (by decide)))
 have g:=j52 (m:=m) (L:=YL14) (show HasE YE y52 by repeat(first|exact q6L _ _|refine z4P ?_ (by decide)))
 exact(yp14 m).add (s:=Sp19) q0C (fun t _=>f19_ok) (fun t ⟨h1,h2⟩=>⟨_,ev_printC _ a b c d e f g t h1 h2⟩)
theorem law_prints(m:Int)(t o:Table)(ht:Sm t)(hto:TabOk t)(hoo:TabOk o)(hos:o.shapes.length≤1048576)(htt:TabOk (q5y t)) :
  q0p Tryz.prog 4=true∧q1f Tryz.prog (GTm m) 4 [.agg (tabV t),.agg (tabV o)] (.d false (.bool true)) []:=by
 have k11:=j0S (G:=GTm m) (E:=YE) (show Has YL15 z11 by repeat(first|exact q0n _ _|refine q0m ?_ (by decide)))
 have k12:=j0R (G:=GTm m) (E:=YE) (show Has YL15 z12 by repeat(first|exact q0n _ _|refine q0m ?_ (by decide)))
 have k15:=j0O (G:=GTm m) (E:=YE) (show Has YL15 z15 by repeat(first|exact q0n _ _|refine q0m ?_ (by decide)))
 have j18x:=j18 (m:=m) (E:=YE) (show Has YL15 Sp18 by repeat(first|exact q0n _ _|refine q0m ?_ (by decide)))
 have j19x:=j19 (m:=m) (E:=YE) (show Has YL15 Sp19 by repeat(first|exact q0n _ _|refine q0m ?_ (by decide)))
 have k16:=j0u (G:=GTm m) (L:=YL15) (show HasE YE y16 by repeat(first|exact q6L _ _|refine z4P ?_ (by decide)))
 have k17:=j0t (G:=GTm m) (L:=YL15) (show HasE YE y17 by repeat(first|exact q6L _ _|refine z4P ?_ (by decide)))
 exact q3B (args:=[.agg (tabV t),.agg (tabV o)]) q0C (yp15 m).sound f4_ok (ev_prints _ k11 k12 j18x j19x k15 k16 k17 t o ht hto hoo hos htt)
end Go.Vm
end

section
namespace Go.Vm
open Go.RowKit Go.Deep
variable {H:Type}{enc:TypeId×Value→H}{P:Program}{w:World}{spare:Nat→Bool}{held:Bool}
def q2s(P:Program)(T:TypeId→Bool):Nat→List Field→Option Nat
 |off,[]=>some off
 |off,f :: fs=>if f.offset=off∧T f.type=true then q2s P T (off+P.cellsOf f.type) fs else none
def q3K(P:Program):Nat→TypeId→Bool
 |0,_=>false
 |n+1,t=>match P.underlying t with
  |some .bool|some (.int _)|some .string=>true
  |some (.slice e)=>decide (0<P.cellsOf e)&&q3K P n e
  |some (.struct fs)=>decide (q2s P (q3K P n) 0 fs.toList=some (P.cellsOf t))
  |_=>false
def q5x(P:Program)(T:TypeId→List D→Prop):List Field→List D→Prop
 |[],ds=>ds=[]
 |f :: fs,ds=>∃ a b,ds=a++b∧a.length=P.cellsOf f.type∧T f.type a∧q5x P T fs b
def j1Z(P:Program):Nat→TypeId→List D→Prop
 |0,_,_=>False
 |n+1,t,ds=>match P.underlying t with
  |some .bool=>∃ b,ds=[.bool b]
  |some (.int k)=>∃ m,ds=[.int k m]∧(Lit.int k m).wf=true
  |some .string=>∃ s,ds=[.str s]∧s.length≤maxLen
  |some (.slice e)=>∃ rows:List (List D),ds=[.sl (P.cellsOf e) rows]∧rows.length≤maxLen∧∀ r∈rows,r.length=P.cellsOf e∧j1Z P n e r
  |some (.struct fs)=>q5x P (j1Z P n) fs.toList ds
  |_=>False
def q9F(w:World)(b:Nat):Prop:=b<w.heap.size
def RepL(w:World)(cs:List Value)(ds:List D):Prop:=ds.length=cs.length∧∀(j:Nat)(v:Value)(d:D),cs[j]? = some v→ds[j]? = some d→RepD w (q9F w) v d
theorem RepL.append{a b:List Value}{x y:List D}(h1:RepL w a x)(h2:RepL w b y):RepL w (a++b) (x++y):=by
 refine⟨by simp [h1.1,h2.1],fun j v d hv hd=>?_⟩
 by_cases hj:j<a.length
 ·rw[List.getElem?_append_left hj] at hv
  rw[List.getElem?_append_left (by rw[h1.1];exact hj)] at hd
  exact h1.2 j v d hv hd
 ·rw[List.getElem?_append_right (by omega)] at hv
  rw[List.getElem?_append_right (by rw[h1.1];omega),h1.1] at hd
  exact h2.2 _ v d hv hd
theorem RepL.one{v:Value}{d:D}(h:RepD w (q9F w) v d):RepL w [v] [d]:=by
 refine⟨rfl,fun j u x hu hx=>?_⟩
 cases j with
 |zero=>simp at hu hx;subst hu;subst hx;exact h
 |succ j=>simp at hu
theorem q5b{base n:Nat}{a:Addr}{cs:List Value}(h:w.cells? base a n=some cs):cs.length=n∧∀(i:Nat)(v:Value),cs[i]? = some v→w.cell? (a.add i)=some v:=by
 unfold World.cells? at h
 split at h
 case isFalse=>cases h
 have key:∀(l:List Nat) (cs:List Value),(l.mapM fun i=>w.cell? (a.add i))=some cs→cs.length=l.length∧∀(i:Nat) (v:Value),cs[i]? = some v→∃ j:Nat,l[i]? = some j∧w.cell? (a.add j)=some v:=by
  intro l
  induction l with
  |nil=>intro cs h;simp at h;subst h;exact⟨rfl,fun i v h=>by simp at h⟩
  |cons m l ih=>
   intro cs h
   rw[List.mapM_cons] at h
   cases hm:w.cell? (a.add m) with
   |none=>rw[hm] at h;cases h
   |some v=>
    rw[hm] at h
    cases hr:l.mapM (fun i=>w.cell? (a.add i)) with
    |none=>rw[hr] at h;cases h
    |some vs=>
     rw[hr] at h
     obtain rfl:v :: vs=cs:=Option.some.inj h
     obtain⟨h1,h2⟩:=ih vs hr
     refine⟨by simp [h1],fun i u hu=>?_⟩
     cases i with
     |zero=>simp at hu;subst hu;exact⟨m,rfl,hm⟩
     |succ i=>simpa using h2 i u (by simpa using hu)
 obtain⟨h1,h2⟩:=key _ _ h
 refine⟨by simpa using h1,fun i v hv=>?_⟩
 obtain⟨j,hj,hc⟩:=h2 i v hv
 have:j=i:=by
  rw[List.getElem?_range] at hj
  ·simpa using hj.symm
  ·have:=(List.getElem?_eq_some_iff.1 hv).1
   simp at h1;omega
 subst this
 exact hc
theorem q6R{α:Type}{Q:Nat→α→Prop}:∀(n:Nat),(∀ i,i<n→∃ y,Q i y)→∃ l:List α,l.length=n∧∀(i:Nat)(y:α),l[i]? = some y→Q i y
 |0,_=>⟨[],rfl,fun i y h=>by simp at h⟩
 |n+1,h=>by
  obtain⟨l,h1,h2⟩:=q6R n (fun i hi=>h i (by omega))
  obtain⟨y,hy⟩:=h n (by omega)
  refine⟨l++[y],by simp [h1],fun i z hz=>?_⟩
  by_cases hi:i<l.length
  ·rw[List.getElem?_append_left hi] at hz
   exact h2 i z hz
  ·rw[List.getElem?_append_right (by omega)] at hz
   have:i - l.length=0:=by
    rcases Nat.eq_zero_or_pos (i - l.length) with h|h
    ·exact h
    ·rw[List.getElem?_eq_none (by simp;omega)] at hz;cases hz
   rw[this] at hz
   simp at hz
   subst hz
   have:i=n:=by omega
   subst this
   exact hy
end Go.Vm
end

section
namespace Go.Vm
open Go.RowKit Go.Deep
variable {H:Type}{enc:TypeId×Value→H}{P:Program}{w:World}{spare:Nat→Bool}{held:Bool}
def argV(agg:Bool)(ds:List D):V:=if agg then .agg (ds.map (.d false)) else match ds with
 |[d]=>.d false d
 |_=>.junk
theorem z0P{v:Value}{d:D}{base:Nat}(hag:∀ cs,v≠.agg cs)(h:RepL w v.cells.toList [d]):RepV w (q9F w) base (fun _=>none) v (argV false [d]):=by
 have hc:v.cells = #[v]:=by
  cases v with
  |agg cs=>exact absurd rfl (hag cs)
  |_=>rfl
 rw[hc] at h
 exact .d _ _ _ (h.2 0 v d rfl rfl)
end Go.Vm
end

section
namespace Go.Vm
open Go.RowKit Go.Deep
variable {H:Type}{enc:TypeId×Value→H}{P:Program}{w:World}{spare:Nat→Bool}{held:Bool}
structure BulkOk(bulk:DataW H→Nat):Prop where
 str:∀ l,l.length≤bulk (.lit (.string l))
 sl:∀ elems spare,elems.length≤bulk (.slice elems spare)∧∀ e∈elems,bulk e≤bulk (.slice elems spare)
 agg:∀ parts,∀ e∈parts,bulk e≤bulk (.agg parts)
def q0M(P:Program)(B:Nat):Nat→TypeId→List D→Prop
 |0,_,_=>False
 |n+1,t,ds=>match P.underlying t with
  |some .bool=>∃ b,ds=[.bool b]
  |some (.int k)=>∃ m,ds=[.int k m]∧(Lit.int k m).wf=true
  |some .string=>∃ s,ds=[.str s]∧s.length≤B
  |some (.slice e)=>∃ rows:List (List D),ds=[.sl (P.cellsOf e) rows]∧rows.length≤B∧∀ r∈rows,r.length=P.cellsOf e∧q0M P B n e r
  |some (.struct fs)=>q5x P (q0M P B n) fs.toList ds
  |_=>False
theorem q6P(T:TypeId→Bool)(Ty:TypeId→List D→Prop)(Q:DataW H→Prop)(g:TypeId→List Value→Option (DataW H×List MemPlace))
  (hT:∀ t cs x,T t=true→g t cs=some x→Q x.1→cs.length=P.cellsOf t→∃ ds,RepL w cs ds∧Ty t ds) (cs:List Value) :
  ∀(fs:List Field) (off:Nat) (xs:List (DataW H×List MemPlace)),q2s P T off fs=some cs.length→(fs.mapM fun f=>g f.type ((cs.drop f.offset).take (P.cellsOf f.type)))=some xs→(∀ x∈xs,Q x.1)→∃ ds,RepL w (cs.drop off) ds∧q5x P Ty fs ds
 |[],off,xs,hl,_,_=>by
  simp only[q2s,Option.some.injEq] at hl
  refine⟨[],⟨by simp [hl],fun j v d _ hd=>by simp at hd⟩,rfl⟩
 |f :: fs,off,xs,hl,hm,hQ=>by
  simp only[q2s] at hl
  split at hl
  case isFalse=>cases hl
  rename_i hc
  obtain⟨ho,ht⟩:=hc
  rw[List.mapM_cons] at hm
  cases hg:g f.type ((cs.drop f.offset).take (P.cellsOf f.type)) with
  |none=>rw[hg] at hm;cases hm
  |some x=>
   rw[hg] at hm
   cases hr:fs.mapM (fun f=>g f.type ((cs.drop f.offset).take (P.cellsOf f.type))) with
   |none=>rw[hr] at hm;cases hm
   |some ys=>
    rw[hr] at hm
    obtain rfl:x :: ys=xs:=Option.some.inj hm
    have hle:∀(fs:List Field) (off m:Nat),q2s P T off fs=some m→off≤m:=by
     intro fs
     induction fs with
     |nil=>intro off m h;simp only[q2s,Option.some.injEq] at h;omega
     |cons f fs ih=>
      intro off m h
      simp only[q2s] at h
      split at h
      ·have:=ih _ _ h;omega
      ·cases h
    have hb:=hle _ _ _ hl
    obtain⟨ds,h1,h2⟩:=q6P T Ty Q g hT cs fs _ ys hl hr (fun y hy=>hQ y (List.mem_cons_of_mem _ hy))
    have hlen:((cs.drop off).take (P.cellsOf f.type)).length=P.cellsOf f.type:=by
     rw[List.length_take,List.length_drop];omega
    rw[ho] at hg
    obtain⟨asq,h3,h4⟩:=hT f.type _ x ht hg (hQ x (by simp)) hlen
    refine⟨asq++ds,?_,asq,ds,rfl,by rw[h3.1];exact hlen,h4,h2⟩
    have:=h3.append h1
    rwa [←List.drop_drop,List.take_append_drop] at this
theorem q53{bulk:DataW H→Nat}(hbk:BulkOk bulk){B:Nat}:∀(n fuel:Nat)(t:TypeId)(cs:List Value)(x:DataW H×List MemPlace),q3K P n t=true→DataW.trod enc P w 0 spare held fuel t cs=some x→bulk x.1≤B→∃ ds,RepL w cs ds∧q0M P B n t ds
 |0,_,_,_,_,h,_,_=>by simp [q3K] at h
 |_+1,0,_,_,_,_,h,_=>by simp [DataW.trod] at h
 |n+1,fuel+1,t,cs,x,hp,h,hB=>by
  simp only[q3K] at hp
  cases ht:P.underlying t with
  |none=>simp [ht] at hp
  |some d=>
   simp only[q0M,ht] at hp ⊢
   cases d with
   |bool=>
    have:∃ b,cs=[.bool b]:=by
     unfold DataW.trod at h
     simp only[ht] at h
     split at h <;> first|(exact⟨_,rfl⟩)|(simp_all;done)|(cases h;done)
    obtain⟨b,rfl⟩:=this
    exact⟨_,.one (.bool b),b,rfl⟩
   |int k=>
    have:∃ m,cs=[.int k m]∧(Lit.int k m).wf=true:=by
     unfold DataW.trod at h
     simp only[ht] at h
     split at h <;> first|(cases h;done)|skip
     all_goals(try(simp_all;done))
     all_goals(split at h <;> first|(cases h;done)|skip)
     all_goals(simp_all)
    obtain⟨m,rfl,hw⟩:=this
    exact⟨_,.one (.int k m),m,rfl,hw⟩
   |string=>
    obtain⟨s',h1,hx,hs⟩:=DataW.trod_string ht h
    subst h1
    refine⟨_,.one (.str s'),_,rfl,?_⟩
    have:=hbk.str s'.data.toList
    rw[hx] at hB
    exact Nat.le_trans this hB
   |slice e=>
    simp only[Bool.and_eq_true,decide_eq_true_eq] at hp
    rcases open_slice ht h with⟨rfl,_⟩|⟨a,len,cap,m,n',Dd,Pl,rfl,_,hlc,hcm,hm,hxx,hel⟩
    ·exact⟨_,.one (.sl0 none 0 (P.cellsOf e) (fun _=>rfl)),[],rfl,by simp,fun r hr=>by simp at hr⟩
    ·rw[hxx] at hB
     have hsl:=hbk.sl ((List.range len).map Dd) ((List.range (m - len)).map fun j=>Dd (len+j))
     have hlen':len≤B:=by
      have:=hsl.1
      rw[List.length_map,List.length_range] at this
      exact Nat.le_trans this hB
     have hpart:∀ i,i<len→bulk (Dd i)≤B:=fun i hi=>Nat.le_trans (hsl.2 _ (List.mem_map.2 ⟨i,List.mem_range.2 hi,rfl⟩)) hB
     have hml:len≤m:=by rw[hm];split <;> omega
     have q03:∀ i,i<len→∃ ds,∃ cs',w.cells? 0 (a.add (i*P.cellsOf e)) (P.cellsOf e)=some cs'∧RepL w cs' ds∧q0M P B n e ds:=by
      intro i hi
      obtain⟨cs',h1,h2⟩:=hel i (by omega)
      obtain⟨ds,h3,h4⟩:=q53 hbk n n' e cs' _ hp.2 h2 (hpart i hi)
      exact⟨ds,cs',h1,h3,h4⟩
     obtain⟨rows,hr1,hr2⟩:=q6R len q03
     have typed:∀ r∈rows,r.length=P.cellsOf e∧q0M P B n e r:=fun r hr=>by
      obtain⟨i,hi⟩:=List.getElem?_of_mem hr
      obtain⟨cs',h1,h3,h4⟩:=hr2 i r hi
      exact⟨by rw[h3.1,(q5b h1).1],h4⟩
     refine⟨[.sl (P.cellsOf e) rows],.one ?_,rows,rfl,by omega,typed⟩
     by_cases hz:len=0
     ·have:rows=[]:=List.eq_nil_of_length_eq_zero (by omega)
      subst this
      subst hz
      exact .sl0 (some a) cap _ (fun h=>by cases h)
     ·have h0:0<rows.length:=by omega
      obtain⟨cs0,g1,g2,_⟩:=hr2 0 rows[0] (List.getElem?_eq_getElem h0)
      obtain⟨c1,c2⟩:=q5b g1
      have hv:=c2 0 cs0[0] (List.getElem?_eq_getElem (by omega))
      simp only[Nat.zero_mul] at hv
      have hsp:a.spot=none:=by simpa [Addr.add] using World.cell?_spot hv
      have hblk:a.block<w.heap.size:=by
       unfold World.cell? at hv
       split at hv
       ·rename_i hh
        have:=(Array.getElem?_eq_some_iff.1 hh).1
        simpa [Addr.add] using this
       ·cases hv
      obtain⟨ab,ao,asq⟩:=a
      simp only at hsp hblk
      subst hsp
      have cellat:∀(i j:Nat) (r:List D) (d:D),rows[i]? = some r→r[j]? = some d→∃ v,w.cell? ⟨ab,ao+(i*P.cellsOf e+j),none⟩=some v∧RepD w (q9F w) v d:=by
       intro i j r d hi hj
       obtain⟨cs',h1,h3,_⟩:=hr2 i r hi
       have hjl:j<cs'.length:=by rw[←h3.1];exact(List.getElem?_eq_some_iff.1 hj).1
       refine⟨cs'[j],?_,h3.2 j _ d (List.getElem?_eq_getElem hjl) hj⟩
       have:=(q5b h1).2 j _ (List.getElem?_eq_getElem hjl)
       rw[add_lit,add_lit,Nat.add_assoc] at this
       exact this
      refine .sl ab ao len cap (P.cellsOf e) rows (fun i j=>(w.cell? ⟨ab,ao+(i*P.cellsOf e+j),none⟩).getD default) hr1 hlc hblk (fun r hr=>(typed r hr).1) (fun i j r d hi hj=>?_) (fun i j r d hi hj=>?_)
      ·obtain⟨v,hv,_⟩:=cellat i j r d hi hj
       rw[hv];rfl
      ·obtain⟨v,hv,hR⟩:=cellat i j r d hi hj
       rw[hv];exact hR
   |struct fs=>
    simp only[decide_eq_true_eq] at hp
    have hs:cs.length=P.cellsOf t∧∃ xs,(fs.toList.mapM fun f=>DataW.trod enc P w 0 spare held fuel f.type ((cs.drop f.offset).take (P.cellsOf f.type)))=some xs∧∀ y∈xs,bulk y.1≤B:=by
     unfold DataW.trod at h
     simp only[ht] at h
     split at h
     ·rename_i hl
      simp only[Option.map_eq_some_iff] at h
      obtain⟨xs,hx,hxe⟩:=h
      subst hxe
      exact⟨hl,xs,hx,fun y hy=>Nat.le_trans (hbk.agg _ y.1 (List.mem_map.2 ⟨y,hy,rfl⟩)) hB⟩
     ·cases h
    obtain⟨hl,xs,hx,hxb⟩:=hs
    obtain⟨ds,h1,h2⟩:=q6P (q3K P n) (q0M P B n) (fun d=>bulk d≤B) (fun t cs=>DataW.trod enc P w 0 spare held fuel t cs) (fun t cs x hp h hq _=>q53 hbk n fuel t cs x hp h hq) cs fs.toList 0 xs (by rw[hl];exact hp) hx hxb
    exact⟨ds,by simpa using h1,h2⟩
   |_=>simp at hp
theorem z1q{bulk:DataW H→Nat}(hbk:BulkOk bulk){B:Nat}{n:Nat}{t:TypeId}{v:Value}{d:DataW H}{ps:List MemPlace}{r:Reach}{b0 base:Nat}(hB:bulk d≤B)(hp:q3K P n t=true)(hv:Value.okWide P w r b0 t v)(h:DataW.Trod enc P w 0 spare held t v d ps) :
  ∃ ds,q0M P B n t ds∧RepV w (q9F w) base (fun _=>none) v (argV (z7R P t) ds):=by
 obtain⟨fuel,h⟩:=h
 obtain⟨ds,h1,h2⟩:=q53 hbk n fuel t v.cells.toList _ hp h hB
 refine⟨ds,h2,?_⟩
 cases n with
 |zero=>simp [q3K] at hp
 |succ n=>
  simp only[q3K] at hp
  cases ht:P.underlying t with
  |none=>simp [ht] at hp
  |some td=>
   simp only[ht] at hp
   have ha:z7R P t=q1L td:=by simp [z7R,ht]
   cases td with
   |struct fs=>
    simp only[Value.okWide,ht] at hv
    obtain⟨cs,rfl,_,_⟩:=hv
    rw[ha]
    simp only[q1L,argV,if_true]
    have hlen:ds.length=cs.size:=by simpa [Value.cells] using h1.1
    refine .agg _ _ (by simp [hlen]) (fun j u x hu hx=>?_) (fun u hu=>?_)
    ·simp only[List.getElem?_map,Option.map_eq_some_iff] at hx
     obtain⟨y,hy,rfl⟩:=hx
     exact .d _ _ _ (h1.2 j u y (by simpa [Value.cells] using hu) hy)
    ·obtain⟨j,hj⟩:=Array.getElem?_of_mem hu
     have hjl:j<ds.length:=by rw[hlen];exact(Array.getElem?_eq_some_iff.1 hj).1
     exact(h1.2 j u _ (by simpa [Value.cells] using hj) (List.getElem?_eq_getElem hjl)).oneCell
   |bool=>
    simp only[q0M,ht] at h2
    obtain⟨b,rfl⟩:=h2
    have hag:∀ cs,v≠.agg cs:=by rintro cs rfl;simp [Value.okWide,ht,Cell.okWide,Cell.ok] at hv
    rw[ha]
    exact z0P hag h1
   |int k=>
    simp only[q0M,ht] at h2
    obtain⟨m,rfl,_⟩:=h2
    have hag:∀ cs,v≠.agg cs:=by rintro cs rfl;simp [Value.okWide,ht,Cell.okWide,Cell.ok] at hv
    rw[ha]
    exact z0P hag h1
   |string=>
    simp only[q0M,ht] at h2
    obtain⟨m,rfl,_⟩:=h2
    have hag:∀ cs,v≠.agg cs:=by rintro cs rfl;simp [Value.okWide,ht,Cell.okWide,Cell.ok] at hv
    rw[ha]
    exact z0P hag h1
   |slice e=>
    simp only[q0M,ht] at h2
    obtain⟨m,rfl,_⟩:=h2
    have hag:∀ cs,v≠.agg cs:=by rintro cs rfl;simp [Value.okWide,ht,Cell.okWide,Cell.ok] at hv
    rw[ha]
    exact z0P hag h1
   |_=>simp at hp
end Go.Vm
end

section
namespace Go.Vm
open Go.Proofs
set_option maxRecDepth 100000
theorem q5F{α:Type}{e:α→List D}{Q:α→Prop}:∀ rows:List (List D),(∀ r∈rows,∃ x,r=e x∧Q x)→∃ l:List α,rows=l.map e∧∀ x∈l,Q x
 |[],_=>⟨[],rfl,fun x h=>by simp at h⟩
 |r :: rows,h=>by
  obtain⟨x,h1,h2⟩:=h r (by simp)
  obtain⟨l,h3,h4⟩:=q5F rows (fun r hr=>h r (List.mem_cons_of_mem _ hr))
  exact⟨x :: l,by rw[h1,h3];rfl,fun y hy=>by
   rcases List.mem_cons.1 hy with rfl|hy
   ·exact h2
   ·exact h4 y hy⟩
theorem z9U:Tryz.prog.cellsOf 62=2:=by kernel_rfl
theorem z9W:Tryz.prog.cellsOf 50=3:=by kernel_rfl
def I64(n:Int):Prop:=-9223372036854775808≤n∧n≤9223372036854775807
theorem j0U{n:Int}(h:(Lit.int .i64 n).wf=true):I64 n:=by
 simp only[Lit.wf,Bool.and_eq_true,decide_eq_true_eq] at h
 have e1:IntKind.i64.min=-9223372036854775808:=by decide
 have e2:IntKind.i64.max=9223372036854775807:=by decide
 rw[e1,e2] at h
 exact h
theorem z9V:Tryz.prog.cellsOf 53=3:=by kernel_rfl
structure InI(x:Instr):Prop where
 op:I64 x.op
 a:I64 x.a
 b:I64 x.b
structure InS(s:Shape):Prop where
 name:(s.name.length:Int)≤9223372036854775807
 fields:I64 s.fields
structure InG(g:Glob):Prop where
 name:(g.name.length:Int)≤9223372036854775807
 arity:I64 g.arity
 len:(g.code.length:Int)≤9223372036854775807
 code:∀ x∈g.code,InI x
structure InT(t:Table):Prop where
 sl:(t.shapes.length:Int)≤9223372036854775807
 gl:(t.globals.length:Int)≤9223372036854775807
 shapes:∀ s∈t.shapes,InS s
 globals:∀ g∈t.globals,InG g
theorem InT.ok{t:Table}(h:InT t):TabOk t:=
 ⟨h.sl,h.gl,fun g hg=>(h.globals g hg).len,fun s hs=>(h.shapes s hs).name,fun g hg=>(h.globals g hg).name,fun g hg x hx=>((h.globals g hg).code x hx).a.2⟩
theorem z33:q3K Tryz.prog 6 25=true:=by kernel_rfl
end Go.Vm
end

section
namespace Go.Vm
open Go.Proofs Go.Proofs.YtjpnaaebfdnccaaGreatDoor
set_option maxRecDepth 100000
theorem q5T{H:Type}{d:DataW H}{l:List (DataW H)}(h:d∈l):Rows.uptoBulk d≤Rows.uptoBulkAll l:=by
  induction l with
  |nil=>cases h
  |cons x r ih=>
    simp only[Rows.uptoBulkAll]
    cases List.mem_cons.1 h with
    |inl e=>subst e;omega
    |inr e=>have:=ih e;omega
theorem z7J{H:Type}(d:DataW H):1≤Rows.uptoBulk d:=by
  cases d with
  |lit l=>cases l <;> simp [Rows.uptoBulk]
  |nil=>simp [Rows.uptoBulk]
  |ptr d=>simp [Rows.uptoBulk]
  |slice elems spare=>simp [Rows.uptoBulk]
  |agg parts=>simp [Rows.uptoBulk]
  |iface t d=>simp [Rows.uptoBulk]
  |map entries=>simp [Rows.uptoBulk]
  |held h=>simp [Rows.uptoBulk]
theorem z1p{H:Type}(l:List (DataW H)):l.length≤Rows.uptoBulkAll l:=by
  induction l with
  |nil=>simp [Rows.uptoBulkAll]
  |cons x r ih=>have:=z7J x;simp only[Rows.uptoBulkAll,List.length_cons];omega
theorem bulk_ok{H:Type}:BulkOk (Rows.uptoBulk (H:=H)):=
  ⟨fun l=>by simp only[Rows.uptoBulk];omega,fun elems spare=>⟨by have:=z1p elems;simp only[Rows.uptoBulk];omega,fun e he=>by have:=q5T he;simp only[Rows.uptoBulk];omega⟩,
   fun parts e he=>by have:=q5T he;simp only[Rows.uptoBulk];omega⟩
structure SmN(t:Table):Prop where
  sm:Sm t
  sn:∀ s∈t.shapes,s.name.length≤1048576
  gn:∀ g∈t.globals,g.name.length≤1048576
theorem q2C{n:Nat}{ds:List D}(h:q0M Tryz.prog 1048576 (n+1) 3 ds):∃ m,ds=[.int .i64 m]∧I64 m:=by
  simp only[q0M,Tryz.underlying3] at h
  obtain⟨m,h1,h2⟩:=h
  exact⟨m,h1,j0U h2⟩
theorem q7m{n:Nat}{ds:List D}(h:q0M Tryz.prog 1048576 (n+1) 9 ds):∃ s,ds=[.str s]∧s.length≤1048576:=by
  simp only[q0M,Tryz.underlying9] at h
  exact h
theorem q8D{n:Nat}{ds:List D}(h:q0M Tryz.prog 1048576 (n+2) 53 ds):∃ x,ds=q0j x∧InI x:=by
  rw[q0M] at h
  simp only[Tryz.underlying53,q5x] at h
  obtain⟨a,r,rfl,_,h1,b,r2,rfl,_,h2,c,r3,rfl,_,h3,rfl⟩:=h
  obtain⟨x,rfl,hx⟩:=q2C h1
  obtain⟨y,rfl,hy⟩:=q2C h2
  obtain⟨z,rfl,hz⟩:=q2C h3
  exact⟨⟨x,y,z⟩,rfl,⟨hx,hy,hz⟩⟩
theorem q8C{n:Nat}{ds:List D}(h:q0M Tryz.prog 1048576 (n+2) 62 ds):∃ x,ds=q0c x∧InS x∧x.name.length≤1048576:=by
  rw[q0M] at h
  simp only[Tryz.underlying62,q5x] at h
  obtain⟨a,r,rfl,_,h1,b,r2,rfl,_,h2,rfl⟩:=h
  obtain⟨x,rfl,hx⟩:=q7m h1
  obtain⟨y,rfl,hy⟩:=q2C h2
  exact⟨⟨x,y⟩,rfl,⟨by simp only;omega,hy⟩,hx⟩
theorem q9S{n:Nat}{ds:List D}(h:q0M Tryz.prog 1048576 (n+3) 48 ds):∃ l:List Instr,ds=[.sl 3 (l.map q0j)]∧l.length≤1048576∧∀ x∈l,InI x:=by
  rw[q0M] at h
  simp only[Tryz.underlying48,z9V] at h
  obtain⟨rows,rfl,hl,hr⟩:=h
  obtain⟨l,rfl,h2⟩:=q5F (e:=q0j) (Q:=InI) rows (fun r h=>q8D (hr r h).2)
  rw[List.length_map] at hl
  exact⟨l,rfl,hl,h2⟩
theorem q9R{n:Nat}{ds:List D}(h:q0M Tryz.prog 1048576 (n+4) 50 ds):∃ x,ds=q0l x∧InG x∧x.name.length≤1048576∧x.code.length≤1048576:=by
  rw[q0M] at h
  simp only[Tryz.underlying50,q5x] at h
  obtain⟨a,r,rfl,_,h1,b,r2,rfl,_,h2,c,r3,rfl,_,h3,rfl⟩:=h
  obtain⟨x,rfl,hx⟩:=q7m h1
  obtain⟨y,rfl,hy⟩:=q2C h2
  obtain⟨z,rfl,hz,hz2⟩:=q9S h3
  exact⟨⟨x,y,z⟩,rfl,⟨by simp only;omega,hy,by simp only;omega,hz2⟩,hx,hz⟩
theorem q5f{n:Nat}{ds:List D}(h:q0M Tryz.prog 1048576 (n+6) 25 ds):∃ t:Table,ds=[.sl 2 (t.shapes.map q0c),.sl 3 (t.globals.map q0l)]∧InT t∧SmN t:=by
  rw[q0M] at h
  simp only[Tryz.underlying25,q5x] at h
  obtain⟨a,r,rfl,_,h1,b,r2,rfl,_,h2,rfl⟩:=h
  rw[q0M] at h1 h2
  simp only[Tryz.underlying22,Tryz.underlying23,z9U,z9W] at h1 h2
  obtain⟨rows,rfl,hl,hr⟩:=h1
  obtain⟨rows2,rfl,hl2,hr2⟩:=h2
  obtain⟨l,rfl,h3⟩:=q5F (e:=q0c) (Q:=fun x=>InS x∧x.name.length≤1048576) rows (fun r h=>q8C (hr r h).2)
  obtain⟨l2,rfl,h4⟩:=q5F (e:=q0l) (Q:=fun x=>InG x∧x.name.length≤1048576∧x.code.length≤1048576) rows2 (fun r h=>q9R (hr2 r h).2)
  rw[List.length_map] at hl hl2
  exact⟨⟨l,l2⟩,rfl,⟨by simp only;omega,by simp only;omega,fun s hs=>(h3 s hs).1,fun g hg=>(h4 g hg).1⟩,⟨⟨hl,hl2,fun g hg=>(h4 g hg).2.2⟩,fun s hs=>(h3 s hs).2,fun g hg=>(h4 g hg).2.1⟩⟩
theorem z6i(x:Int):IntKind.i64.wrap x≤9223372036854775807:=by
  unfold IntKind.wrap
  have e1:(2:Int) ^ IntKind.i64.bits=18446744073709551616:=by decide
  have e2:(2:Int) ^ (IntKind.i64.bits - 1)=9223372036854775808:=by decide
  simp only[e1,e2]
  have:IntKind.i64.signed=true:=rfl
  simp only[this,Bool.true_and,decide_eq_true_eq]
  split <;> omega
theorem z7b{x:Instr}(h:InI x):(q3t x).a≤9223372036854775807:=by
  unfold q3t
  split
  · show bits .xor .i64 x.a 1≤_
    unfold bits
    exact z6i _
  · exact h.a.2
theorem z8A{t:Table}(h:InT t):TabOk (q5y t):=by
  have key:∀ g∈(q5y t).globals,(∃ a∈t.globals,g.name=a.name)∧∃ a∈t.globals,g.code=a.code.map q3t:=by
    intro g hg
    simp only[q5y] at hg
    obtain⟨q,hq,rfl⟩:=List.mem_map.1 hg
    unfold q7e at hq
    split at hq
    · simp at hq
    · rename_i hne
      rcases List.mem_or_eq_of_mem_set hq with hq|rfl
      · have:q.2∈(numG 2 (t.globals.map q24)).map (·.2):=List.mem_map_of_mem hq
        rw[q72] at this
        obtain⟨a,ha,he⟩:=List.mem_map.1 this
        rw[←he]
        exact⟨⟨a,ha,rfl⟩,⟨a,ha,rfl⟩⟩
      · have h1:=z0m t hne
        obtain⟨m,hm,_⟩:=z0g t hne
        refine⟨⟨_,List.mem_of_getElem? (q0U h1),rfl⟩,⟨nth t.globals (m:Int),List.mem_of_getElem? (q0U (by omega)),?_⟩⟩
        simp only[q9U]
        rw[show((t.globals.length:Int) - 1)=(m:Int) by omega]
  refine⟨h.sl,by simp only[q5y,List.length_map,q8E];exact h.gl,fun g hg=>?_,fun s hs=>(h.shapes s hs).name,fun g hg=>?_,fun g hg x hx=>?_⟩
  · obtain⟨_,a,ha,he⟩:=key g hg
    rw[he,List.length_map];exact(h.globals a ha).len
  · obtain⟨⟨a,ha,he⟩,_⟩:=key g hg
    rw[he];exact(h.globals a ha).name
  · obtain⟨_,a,ha,he⟩:=key g hg
    rw[he] at hx
    obtain⟨y,hy,rfl⟩:=List.mem_map.1 hx
    exact z7b ((h.globals a ha).code y hy)
end Go.Vm
end

section
namespace Go.Vm
open Go.ChangeShapes Go.WideShapes Go.ChangeAt Go.RowKit Go.Proofs Go.Proofs.YtjpnaaebfdnccaaGreatDoor
set_option linter.unusedVariables false
set_option maxRecDepth 100000
theorem ownZ:ownKnob Tryz.prog.godebug=none:=by kernel_rfl
theorem z09:laidOutB Tryz.prog=true:=by kernel_rfl
def z0i:List (String×DataW Unit):=[("math/bits.deBruijn32tab",Rows.laid_math_bits_deBruijn32tab),("math/bits.deBruijn64tab",Rows.laid_math_bits_deBruijn64tab),("internal/strconv.uint64pow10",Rows.laid_internal_strconv_uint64pow10),("unicode/utf8.acceptRanges",Rows.laid_unicode_utf8_acceptRanges),("strconv.ErrRange",Rows.laid_strconv_ErrRange),("strconv.ErrSyntax",Rows.laid_strconv_ErrSyntax),("unicode/utf8.first",Rows.laid_unicode_utf8_first)]
def j10(P:Program)(w:World)(n:String)(d:DataW Unit):Prop:=
 ∃ g t cs fuel p,P.globalNamed n=some g∧(P.globals[g]?).map (·.type)=some t∧w.var? P n=some cs∧DataW.trod (fun _=>()) P w 0 (fun _=>true) false fuel t cs.toList=some (d,p)
theorem z0U{P:Program}{w:World}:∀ {l:List (String×DataW Unit)}{ps:List MemPlace},DataW.LaidVars P w l ps→∀ n d,(n,d)∈l→j10 P w n d
 |[],_,_,_,_,hm=>by cases hm
 |(n',d') :: r,ps,h,n,d,hm=>by
  obtain⟨g,t,cs,fuel,p,q,h1,h2,h3,h4,h5,_⟩:=h
  rcases List.mem_cons.1 hm with e|e
  ·cases e
   exact⟨g,t,cs,fuel,p,h1,h2,h3,h4⟩
  ·exact z0U h5 n d e
theorem q8I{P:Program}{W:World}{name:String}{k:IntKind}{zs:List Int}{g:Nat}{t e:TypeId}{n:Nat}
  (hg:P.globalNamed name=some g) (hty:(P.globals[g]?).map (·.type)=some t) (ht:P.underlying t=some (.array n e)) (he:P.underlying e=some (.int k)) (hce:P.cellsOf e=1) (hct:P.cellsOf t=n)
  (h:j10 P W name (Lib.tabData k zs)):Lib.TabIs P W name k zs:=by
 obtain⟨g',t',cs,fuel,p,hg',ht',hvar,hd⟩:=h
 obtain rfl:=Option.some.inj (hg.symm.trans hg')
 obtain rfl:=Option.some.inj (hty.symm.trans ht')
 unfold Lib.TabIs
 rw[hvar,←Lib.cells_of_tab ht he hce hct hd]
theorem gP10T:(Tryz.prog.globals[0]?).map (·.type)=some 167:=by kernel_rfl
theorem z8X:(Rows.laid_internal_strconv_uint64pow10:DataW Unit)=Lib.tabData .u64 Lib.pow10Tab:=by kernel_rfl
theorem z0q{W:World}{name:String}{k:IntKind}{zs:List Int}{g:Nat}(h:Lib.TabIs Tryz.prog W name k zs)(hg:Tryz.prog.globalNamed name=some g) :
  RepD W (q9F W) (.pointer (some ⟨g,0,none⟩)) (.ptr (zs.map fun z=>.int k z))∧∃ cs t fz,W.heap[g]? = some (.cells cs t fz)∧cs.size=(zs.map fun z=>D.int k z).length:=by
 have hb:∃ cs t fz,W.heap[g]? = some (.cells cs t fz)∧cs.size=(zs.map fun z=>D.int k z).length:=by
  unfold Lib.TabIs World.var? at h
  rw[hg] at h
  replace h:(match W.heap[g]? with|some (.cells cs _ _)=>some cs|_=>none)=some (zs.map fun z=>Value.int k z).toArray:=h
  split at h
  ·rename_i cs t fz hh
   obtain rfl:=Option.some.inj h
   exact⟨_,t,fz,hh,by simp⟩
  ·cases h
 refine⟨?_,hb⟩
 obtain⟨cs,t,fz,hh,hsz⟩:=hb
 refine .ptr g 0 _ (fun j=>.int k (zs.getD j 0)) ?_ (fun j d hd=>?_) (fun j d hd=>?_)
 ·show g<W.heap.size
  rcases Nat.lt_or_ge g W.heap.size with h'|h'
  ·exact h'
  ·simp [Array.getElem?_eq_none h'] at hh
 ·have hj:j<zs.length:=by
   rcases Nat.lt_or_ge j zs.length with h'|h'
   ·exact h'
   ·rw[List.getElem?_eq_none (by simpa using h')] at hd;cases hd
  rw[Nat.zero_add]
  exact h.cell hg j hj
 ·rw[List.getElem?_map,Option.map_eq_some_iff] at hd
  obtain⟨z,hz,rfl⟩:=hd
  have:zs.getD j 0=z:=by rw[List.getD_eq_getElem?_getD,hz];rfl
  rw[this]
  exact .int k z
theorem q8d{W:World}(h:laidMetH Tryz.prog z0i W):GlobRel W (q9F W) GT:=by
 have h':laidMet Tryz.prog z0i W:=h
 obtain⟨ps,hv,_⟩:laidMet Tryz.prog z0i W:=h'
 have h0:=z0U hv "internal/strconv.uint64pow10" Rows.laid_internal_strconv_uint64pow10 (by simp [z0i])
 rw[z8X] at h0
 have t0:=q8I gP10 gP10T Tryz.underlying167 Tryz.underlying105 (by kernel_rfl) (by kernel_rfl) h0
 intro g cells hg
 match g,hg with
 |0,hg=>
  obtain rfl:=Option.some.inj hg
  rw[if_neg (show ¬ q5M (Lib.pow10Tab.map fun z=>D.int .u64 z)=true from fun e=>Bool.noConfusion (show false=true from e))]
  exact z0q t0 gP10
 |n+1,hg=>cases hg
def j0X:Nat→DataW Unit→List Value
 |_,.lit (.int k n)=>[.int k n]
 |n+1,.agg ps=>ps.flatMap (j0X n)
 |_,_=>[]
def lay(g:Nat)(d:DataW Unit)(h:Array Obj):Array Obj:=h.modify g fun
 |.cells _ t frozen=>.cells (j0X 3 d).toArray t frozen
 |o=>o
def z7W(g n:Nat)(h:Array Obj):Array Obj:=h.modify g fun
 |.cells _ t frozen=>.cells #[.iface 193 (.pointer (some ⟨n,0,none⟩))] t frozen
 |o=>o
def pushE(h:Array Obj):Array Obj:=((z7W 5 h.size (z7W 4 (h.size+1) h)).push (.cells #[.string ⟨#[118,97,108,117,101,32,111,117,116,32,111,102,32,114,97,110,103,101]⟩] 195 (0,0))).push (.cells #[.string ⟨#[105,110,118,97,108,105,100,32,115,121,110,116,97,120]⟩] 195 (0,0))
noncomputable def q41(os:Os):World:=
 { World.holding Tryz.prog os ⟨#[],#[],[]⟩ with heap:=pushE (lay 7 Rows.laid_math_bits_deBruijn64tab (lay 6 Rows.laid_math_bits_deBruijn32tab (lay 3 Rows.laid_unicode_utf8_acceptRanges (lay 2 Rows.laid_unicode_utf8_first (lay 0 Rows.laid_internal_strconv_uint64pow10 (World.holding Tryz.prog os ⟨#[],#[],[]⟩).heap))))) }
theorem z4E(os:Os)(args:Array Value):laidMetH Tryz.prog z0i ((q41 os).forCall (fun _ _=>0) ⟨#[],args,[]⟩).memory:=
 laidMetH_of_parts (show laidMet Tryz.prog z0i _ from(LaidIn.of_run (List.range 20) 8 (by kernel_rfl) (by kernel_rfl) (by kernel_rfl) (by kernel_rfl)).met) (by kernel_rfl)
end Go.Vm
end

section
namespace Go.Proofs.YtjpnaaebfdnccaaGreatDoor.codePrints
open Go.ChangeShapes Go.WideShapes Go.ChangeAt Go.RowKit Go.Vm Go.ChangeMaps
set_option linter.unusedVariables false
theorem z19{H:Type}{enc:TypeId×Value→H}{P:Program}{f:Func}{s:ChangeSpec}{apart fresh handsOn again:Bool}{W W':World}{args:Array Value}{v:Value}{ds gs:List (DataW H)}{before:List MemPlace}
    (hW:DataW.Whole enc P f.params.toList s.vars apart W args.toList ds gs before) (hb:Below W.heap.size W W')
    (hres:∀(b:Nat) (sp:Nat→Bool) (hd:Bool),DataW.TrodAll enc P W' b sp hd f.resultTypes.toList (v.resultList f.resultTypes.size) (s.fn H (ds++gs)).results [])
    (hargs:∀ sp:Nat→Bool,(∀ p∈before,sp p.block=true)→DataW.TrodAll enc P W' 0 sp true f.params.toList args.toList (s.fn H (ds++gs)).args before)
    (hvars:∀ sp:Nat→Bool,DataW.TrodVars enc P W' sp s.vars (s.fn H (ds++gs)).vars [])
    (hok:∀(j:Nat) (t:TypeId) (r:Value),f.resultTypes[j]? = some t→(v.resultList f.resultTypes.size)[j]? = some r→Value.okWide P W' .any 0 t r) :
    s.post enc P f apart fresh handsOn again W args v W':=by
  have hlt:=hW.lt
  have hsp:∀ p∈before,(fun b=>decide (b<W.heap.size)) p.block=true:=fun p hp=>decide_eq_true (hlt p hp)
  have all:=trodAll_append (hargs (fun _=>true) (fun _ _=>rfl)) (hres 0 (fun _=>true) true)
  rw[List.nil_append] at all
  obtain⟨_,_,_,_,_,hz,hn⟩:=id hW
  refine⟨ds,gs,before,[],before,[],hW,hres _ _ _,hargs _ hsp,hvars _,hb.frame _,fun _=>⟨hok,_,_,before,⟨before,[],all,hvars _,by simp,fun b off hp=>?_,hn⟩,fun p hp _=>hp⟩⟩
  rw[hb.frozen (hlt _ hp)]
  exact hz b off hp
theorem int_of_shape{P:Program}{w:World}{g:Nat}{t:TypeId}{zero:Array Value}(h:w.ShapedOpen P)(hg:g<P.globals.size)
    (h0:((begin P (fun _ _=>0) default).world.heap[g]?).bind Obj.row? = some (zero,t)) (hz:zero.size=1)
    (hb:P.buildable t=true) (hc:P.cellTypes P.depth t=some [t]) (hu:P.underlying t=some (.int .i64)):∃ m:Int,w.heap[g]? = some (.cells #[.int .i64 m] t):=by
  obtain⟨cs,hh,hs,hr⟩:=h.1 g zero t hg h0
  obtain⟨ts,hts,_,hall⟩:=hr hb
  rw[hc] at hts
  cases hts
  rw[hz] at hs
  obtain⟨l⟩:=cs
  match l,hs with
  |[x],_=>
    obtain⟨u,hu',hok⟩:=hall 0 x (by simp)
    have:u=t:=by simpa using hu'.symm
    subst this
    unfold Cell.ok at hok
    rw[hu] at hok
    cases x with
    |int k n=>
      simp at hok
      first
        |(obtain⟨rfl,_⟩:=hok;exact⟨n,hh⟩)
        |(subst hok;exact⟨n,hh⟩)
    |_=>simp at hok
theorem maxLen_is(W:World)(h:W.ShapedOpen Tryz.prog):∃ m:Int,W.heap[1]? = some (.cells #[.int .i64 m] 3):=
  int_of_shape (zero:=#[.int .i64 0]) h (of_decide_eq_true (by kernel_rfl)) (by kernel_rfl) rfl (by kernel_rfl) (by kernel_rfl) Tryz.underlying3
theorem glob_m{W:World}{m:Int}(h:W.heap[1]? = some (.cells #[.int .i64 m] 3))(hG:GlobRel W (q9F W) GT):GlobRel W (q9F W) (GTm m):=by
  intro g cells hg
  unfold GTm at hg
  split at hg
  · rename_i hg1
    subst hg1
    obtain rfl:=Option.some.inj hg
    rw[if_neg (by simp [q5M])]
    refine⟨.ptr 1 0 _ (fun _=>.int .i64 m) ?_ (fun j d hd=>?_) (fun j d hd=>?_),_,_,_,h,rfl⟩
    · exact(Array.getElem?_eq_some_iff.1 h).1
    · match j,hd with
      |0,hd=>simp [World.cell?,h]
      |j+1,hd=>simp at hd
    · match j,hd with
      |0,hd=>simp at hd;subst hd;exact .int _ _
      |j+1,hd=>simp at hd
  · exact hG g cells hg
theorem bulk2{H:Type}{a b:DataW H}(h:Rows.uptoSmall H ([a,b]++[])=true):Rows.uptoBulk a≤1048576∧Rows.uptoBulk b≤1048576:=by
  have h:=of_decide_eq_true h
  simp only[List.append_nil,Rows.uptoBulkAll,Nat.add_zero] at h
  omega
theorem bulk_ok{H:Type}:BulkOk (Rows.uptoBulk (H:=H)):=
  ⟨fun l=>by simp only[Rows.uptoBulk];omega,fun elems spare=>⟨by have:=z1p elems;simp only[Rows.uptoBulk];omega,fun e he=>by have:=q5T he;simp only[Rows.uptoBulk];omega⟩,
   fun parts e he=>by have:=q5T he;simp only[Rows.uptoBulk];omega⟩
set_option maxRecDepth 100000 in
theorem contract(H:Type)(enc:TypeId×Value→H)(W:World)(base:Nat)(args:Array Value)(ds gs:List (DataW H))(before:List MemPlace)
    (hval:∀(j:Nat) t v,Tryz.f4.params[j]? = some t→args[j]? = some v→Value.okWide Tryz.prog W .any base t v)
    (hW:DataW.Whole enc Tryz.prog Tryz.f4.params.toList Rows.codePrintsSpec.vars false W args.toList ds gs before) (hk:Rows.uptoSmall H (ds++gs)=true) (hL:laidMetH Tryz.prog z0i W) (hS:W.ShapedOpen Tryz.prog) :
    Calls Tryz.prog 4 args W fun e W'=>∃ v,e=.returned v∧Rows.codePrintsSpec.post enc Tryz.prog Tryz.f4 false true false false W args v W':=by
  have hW':=hW
  obtain⟨p,q,hA0,hV,rfl,hfz,hnd⟩:=hW
  have hA:DataW.TrodAll enc Tryz.prog W 0 (fun _=>true) true Tryz.f4.params.toList args.toList ds p:=hA0
  rw[Tryz.params4] at hA hval
  obtain⟨v0,vs0,d0,ds0,p0,q0,hargs,rfl,rfl,h0,r0⟩:=trodAll_cons hA
  obtain⟨v1,vs1,d1,ds1,p1,q1,rfl,rfl,rfl,h1,r1⟩:=trodAll_cons r0
  obtain⟨rfl,rfl,rfl⟩:=trodAll_nil r1
  obtain rfl:args = #[v0,v1]:=by cases args;simp_all
  obtain⟨rfl,rfl⟩:=trodVars_none hV
  clear hA0
  simp only[List.append_nil] at hW'
  obtain⟨b0,b1⟩:=bulk2 hk
  obtain⟨e0,ht0,hr0⟩:=z1q bulk_ok b0 z33 (hval 0 25 v0 rfl rfl) h0 (base:=W.heap.size)
  obtain⟨e1,ht1,hr1⟩:=z1q bulk_ok b1 z33 (hval 1 25 v1 rfl rfl) h1 (base:=W.heap.size)
  obtain⟨t,rfl,hin,hsm⟩:=q5f (n:=0) ht0
  obtain⟨o,rfl,hio,hso⟩:=q5f (n:=0) ht1
  have hag:z7R Tryz.prog 25=true:=by kernel_rfl
  rw[hag] at hr0 hr1
  obtain⟨m,hm⟩:=maxLen_is W hS
  have hcall:=(law_prints m t o hsm.sm hin.ok hio.ok hso.sm.sh (z8A hin)).2 W (q9F W) #[v0,v1] (fun b h=>h) (glob_m hm (q8d hL)) ⟨rfl,fun j v x hv hx=>by
    match j,hv,hx with
    |0,hv,hx=>simp at hv hx;subst hv;subst hx;exact hr0
    |1,hv,hx=>simp at hv hx;subst hv;subst hx;exact hr1
    |j+2,hv,hx=>simp at hv⟩
  refine hcall.mono fun e W' ⟨v,F',σ',he,hb,_,hR,_⟩=>?_
  have hv:=hR.bool_inv
  subst hv
  subst he
  have hlt:∀ x∈p0++p1,x.block<W.heap.size:=fun x hx=>by simpa using hW'.lt x (by simpa using hx)
  refine⟨_,rfl,z19 hW' hb (fun _ _ _=>(trodAll_cons_mk (shut_bool Tryz.underlying4 _) trodAll_mk0))
    (fun sp hsp=>?_) (fun _=>rfl) (ok_one (by kernel_rfl) rfl (okWide_bool_mk Tryz.underlying4 _))⟩
  have k0:=WideElems.Trod_stays z09 (by kernel_rfl) (of_decide_eq_true (by kernel_rfl)) h0 (fun x hx=>hb.same (hlt x (by simp [hx]))) (fun x hx=>hsp x (by simp [hx]))
  have k1:=WideElems.Trod_stays z09 (by kernel_rfl) (of_decide_eq_true (by kernel_rfl)) h1 (fun x hx=>hb.same (hlt x (by simp [hx]))) (fun x hx=>hsp x (by simp [hx]))
  exact trodAll_cons_mk k0 (trodAll_mk1 k1)
def wargs:Array Value:=#[.agg #[.slice none 0 0,.slice none 0 0],.agg #[.slice none 0 0,.slice none 0 0]]
theorem reads(os:Os){H:Type}(enc:TypeId×Value→H):∃ places,DataW.whole enc Tryz.prog ((q41 os).forCall (fun _ _=>0) ⟨#[],wargs,[]⟩).memory Tryz.f4.params.toList Rows.codePrintsSpec.vars false wargs.toList 8=some ([.agg [.nil,.nil],.agg [.nil,.nil]],[],places):=
  ⟨[],by kernel_rfl⟩
set_option maxRecDepth 100000 in
theorem liftedUpto(os:Os)(started:os.Started)(H:Type)(enc:TypeId×Value→H)(F:Stop.Interp) :
    ReturnsInHanded {} Tryz.checked os 4 .any ((Rows.OpenSpec.upto Rows.codePrintsSpec).preRow enc Tryz.prog Tryz.f4 Rows.codePrintsUptoRow.domain false Rows.codePrintsUptoRow.laid) (((Rows.OpenSpec.upto Rows.codePrintsSpec).at F).post enc Tryz.prog Tryz.f4 false true false false):=by
  obtain⟨places,hx⟩:=reads os enc
  refine returnsInHanded_of_row (C:=Tryz.checked) (s:=Rows.OpenSpec.upto Rows.codePrintsSpec) ownZ started (by kernel_rfl) Tryz.func4
    (witness_row_at (enc:=enc) (C:=Tryz.checked) false (q41 os) wargs rfl (by kernel_rfl) (by kernel_rfl) (by kernel_rfl)
      (OpenSpec.preRow_of_cond 8 hx (by kernel_rfl) (fun k hk=>by cases hk;kernel_rfl) (by kernel_rfl) (z4E os wargs))) ?_
  intro W base args ds gs before hval hW _ hcond _ hL hS _
  exact contract H enc W base args ds gs before hval hW (hcond _ rfl) hL hS
theorem saidUpto:Rows.CodePrintsUptoSaid:=
  OpenClaim.holds_of_cond 4 Tryz.f4 rfl rfl rfl rfl rfl rfl rfl ⟨rfl,rfl,rfl,rfl,rfl⟩ rfl rfl rfl rfl rfl (by kernel_rfl) Tryz.func4 (by kernel_rfl)
    (of_decide_eq_true (by kernel_rfl)) (by unfold Func.isWrapper;first|(rw[if_pos (by decide +kernel)];kernel_rfl)|(rw[if_neg (by decide +kernel)];exact⟨rfl,rfl⟩))
    (fun os started H enc _ F=>by rw[OpenClaim.pre_eq_preRow];exact liftedUpto os started H enc F)
theorem plain(f:FuncId)(fn:Func)(hf:Tryz.pinned.checked.prog.funcNamed "sloth/slothlaw17.CodePrints" = some f) (hfn:Tryz.pinned.checked.prog.funcs[f]? = some fn) :
    true=Tryz.pinned.checked.prog.looks []∧∀(j:Nat) t,fn.params[j]? = some t→Tryz.pinned.checked.prog.wantsStandIn t=false:=by
  obtain rfl:f=4:=Option.some.inj ((show Tryz.prog.funcNamed "sloth/slothlaw17.CodePrints" = some 4 by kernel_rfl).symm.trans hf) |>.symm
  obtain rfl:fn=Tryz.f4:=(Option.some.inj (Tryz.func4.symm.trans hfn)).symm
  refine⟨by kernel_rfl,fun j t ht=>?_⟩
  rw[Tryz.params4] at ht
  have h25:Tryz.prog.wantsStandIn 25=false:=by kernel_rfl
  match j,ht with
  |0,ht=>simp at ht;subst ht;exact h25
  |1,ht=>simp at ht;subst ht;exact h25
  |j+2,ht=>simp at ht
theorem cardUpto:Rows.CodePrintsUptoCardSaid:=
  Claim7.holds_tied_plain_at .later [] _ _ _ _ saidUpto (fun _ h=>by cases h) (by kernel_rfl) (fun _ h=>by cases h) codePrintsUpto_row_tie rfl ⟨rfl,rfl⟩ (by kernel_rfl) rfl plain (by kernel_rfl)
#print axioms cardUpto
end Go.Proofs.YtjpnaaebfdnccaaGreatDoor.codePrints
end
