/-
  LatticeAnswers comes to true, whatever the input (of bulk at most 1048576); the input reads as it did.
 Conditions: the listed package-level tables read as the program's text lays them (tied by the card).
-/
import Derived.Test.YtlabpphbiglofaaGreatDoorLatticeAnswersUptoCardSaidE
import Derived.Test.YtlabpphbiglofaaGreatDoorCards
import Derived.Test.YtlabpphbiglofaaGreatDoorTie
set_option linter.unusedVariables false
set_option linter.unusedSimpArgs false

section
namespace Go.Vm
set_option maxRecDepth 20000
open Go.Proofs Go.RowKit
section
variable {G:Nat→Option (List D)}
theorem z7j(o:Option Lat)(ho:∀ a b r l,o=some (.fn a b r l)→a.sz≤1000)(f u:Int):∃ R e,R.length≤1000∧z1b o f u=.tup [eW R,iZ e]∧z3C o f u=(.tup [jV R,iZ e],jB R):=by
 match o,ho with
 |some (.fn a b r l),ho=>
  simp only[z1b,z3C]
  split
  ·exact⟨_,0,by have:=q9V a b (nth r f) u.toNat a.sz 0 [] (by simp);have:=ho a b r l rfl;omega,rfl,rfl⟩
  ·exact⟨[],141,by simp,rfl,rfl⟩
 |some (.ch n),_=>exact⟨[],140,by simp,rfl,rfl⟩
 |none,_=>exact⟨[],140,by simp,rfl,rfl⟩
theorem z3I(o:Option Lat)(x y:Int):∃ p e,q3X o x y=.tup [.d false (.bool p),iZ e]:=by
 unfold q3X
 split
 ·exact⟨_,_,rfl⟩
 ·split
  ·exact⟨_,_,rfl⟩
  ·exact⟨_,_,rfl⟩
theorem z5Y(o:Option Lat)(x y:Int):∃ p e,q5Y o x y=.tup [iZ p,iZ e]:=by
 unfold q5Y
 split
 ·exact⟨_,_,rfl⟩
 ·split
  ·exact⟨_,_,rfl⟩
  ·exact⟨_,_,rfl⟩
theorem z3J(o:Option Lat)(x y:Int):∃ p e,q4k o x y=.tup [iZ p,iZ e]:=by
 unfold q4k
 split
 ·split
  ·exact⟨_,_,rfl⟩
  ·exact⟨_,_,rfl⟩
 ·exact⟨_,_,rfl⟩
theorem z5x(o:Option Lat)(q:List Int):∃ p e,ofV o q=.tup [iZ p,iZ e]:=by
 unfold ofV
 split
 ·split
  ·exact⟨_,_,rfl⟩
  ·exact⟨_,_,rfl⟩
 ·exact⟨_,_,rfl⟩
theorem z4Q(o:Option Lat):∃ p e,q4d o=.tup [iZ p,iZ e]:=by
 unfold q4d
 split <;> exact⟨_,_,rfl⟩
theorem z13h{m:Int}(hG:GZ G m)(n:Nat):(zJ 13 n fun _ _ _=>.bool true).Holds Tryz.prog G:=by
 refine q0d q0e ((Known.nil (G:=G)).put (z8h hG n) |>.put (z9h n) |>.put (z11h hG n) |>.put (z29h n) |>.put (z12h hG n) |>.put (z30h n) |>.put (z18h hG n) |>.put (z31h n)).sound (g:=f13) (fun _ _=>j5a) ?_
 rintro⟨t,a,b⟩ ⟨hf,hs,hb⟩
 obtain⟨p1,e1,E1⟩:=z4Q t.ofL
 obtain⟨p2,e2,E2⟩:=z3I t.ofL a b
 obtain⟨p3,e3,E3⟩:=z5Y t.ofL a b
 obtain⟨p4,e4,E4⟩:=z3J t.ofL a b
 refine⟨_,z9Q _ (fun _=>rfl) t a b p1 e1 e2 p3 e3 p4 e4 p2 ?_ ?_ ?_ ?_ ?_ ?_ ?_ ?_⟩
 ·rw[←E1];exact cxa (E:=[]) 7 (zT 8 n fun t=>q4d t.ofL) rfl rfl t ⟨hf,hs⟩
 ·rw[←E1];exact cxa (E:=[]) 6 (zU 9 n Few fun t=>q4d t.ofL) rfl rfl t ⟨hf,hs,hb⟩
 ·rw[←E2];exact cxa (E:=[]) 5 (zI 11 n fun t x y=>q3X t.ofL x y) rfl rfl (t,a,b) ⟨hf,hs⟩
 ·rw[←E2];exact cxa (E:=[]) 4 (zJ 29 n fun t x y=>q3X t.ofL x y) rfl rfl (t,a,b) ⟨hf,hs,hb⟩
 ·rw[←E3];exact cxa (E:=[]) 3 (zI 12 n fun t x y=>q5Y t.ofL x y) rfl rfl (t,a,b) ⟨hf,hs⟩
 ·rw[←E3];exact cxa (E:=[]) 2 (zJ 30 n fun t x y=>q5Y t.ofL x y) rfl rfl (t,a,b) ⟨hf,hs,hb⟩
 ·rw[←E4];exact cxa (E:=[]) 1 (zI 18 n fun t x y=>q4k t.ofL x y) rfl rfl (t,a,b) ⟨hf,hs⟩
 ·rw[←E4];exact cxa (E:=[]) 0 (zJ 31 n fun t x y=>q4k t.ofL x y) rfl rfl (t,a,b) ⟨hf,hs,hb⟩
theorem z17h{m:Int}(hG:GZ G m)(n:Nat):(zJ 17 n fun _ _ _=>.bool true).Holds Tryz.prog G:=by
 refine q0d q0e ((Known.nil (G:=G)).put (z34h n) |>.put (z935h hG n) |>.put z16h).sound (g:=f917) (fun _ _=>j2y) ?_
 rintro⟨t,a,b⟩ ⟨hf,hs,hb⟩
 refine z9O _ t (fun f u=>?_) (fun l hl=>?_) a b
 ·obtain⟨R,e,h1,h2,h3⟩:=z7j t.ofL (fun a b r l h=>by have:=(q1t (q6v (q22 h)).1).2.2;omega) f u
  refine⟨R,e,h1,?_,?_⟩
  ·rw[←h2];exact cxa (E:=[]) 2 (zJ 34 n fun t x y=>z1b t.ofL x y) rfl rfl (t,f,u) ⟨hf,hs,hb⟩
  ·rw[←h3];exact cxa (E:=[]) 1 (z935 n) rfl rfl (t,f,u) ⟨hf,hs⟩
 ·have:=cx1 (G:=G) (L:=[z935 n,zJ 34 n fun t x y=>z1b t.ofL x y]) (E:=[]) z16 (l,l) ⟨hl,hl⟩
  simpa [z16] using this
end
theorem j2M(K:Cx)(t o:Ty)(a b:Int)(q:List Int)(p1 p2:Bool)(h:(p1||p2)=true)(w6:K.call 6 [tyW t]=some (.bool p1,[]))(w6':K.call 6 [tyW o]=some (.bool p2,[])):q0c K f904 [tyW t,tyW o,iZ a,iZ b,ilV q] []=some (.bool true,[],[]):=by
 obtain⟨tk,tn,tl⟩:=t
 obtain⟨ok,on,ol⟩:=o
 unfold f904
 simp only[tyW,iZ,ilV] at w6 w6' ⊢
 cases p1 <;> cases p2 <;> first|(cases h;done)|simp(disch:=first|decide|omega|(simp only[LN];first|done|omega)) only[SV,SW,Nat.reduceAdd,Nat.reduceBEq,q0a,w6,w6',q0b]
def rowB(q:List Int)(i:Nat):Blk:=.dat true 1 ((q0F q i).map intD)
theorem z4I(K:Cx)(a b:Int)(t:Ty)(q:List Int)(hq:q.length≤1000000000):∀(m i:Nat)(x:Int),i+m=q.length→x=i→
  lp K 0 [2,3,4,5,19,25,26] f904_L0 ⟨[(2,iZ a),(3,iZ b),(4,ilV q),(5,.ptr 0 0 0),(19,.bsl 1 0 (q.length+2)),(25,.bsl 2 0 (q.length+2)),(26,iZ x)],[(0,.mix 3 [tyC t]),(1,rowB q i),(2,rowB q i)],3,[]⟩ =
   some (.exit 0,⟨[(2,iZ a),(3,iZ b),(4,ilV q),(5,.ptr 0 0 0),(19,.bsl 1 0 (q.length+2)),(25,.bsl 2 0 (q.length+2))],[(0,.mix 3 [tyC t]),(1,rowB q q.length),(2,rowB q q.length)],3,[]⟩):=by
 obtain⟨tk,tn,tl⟩:=t
 intro m
 induction m with
 |zero=>
  intro i x hi hx
  obtain rfl:i=q.length:=by omega
  subst hx
  rw[q0p f904_L0.eq_1]
  simp only[iZ,tyC,ilV,rowB]
  simp(disch:=first|decide|omega|(simp only[LN];first|done|omega)) only[SV,SW,Nat.reduceBEq,reduceCtorEq,Nat.reduceEqDiff,Nat.reduceAdd]
 |succ m ih=>
  intro i x hi hx
  have hl:=q2y q i (by omega)
  have hn:=z5g q i (by omega)
  have hs:=z5f q i (by omega)
  have ih:=ih (i+1) (x+1) (by omega) (by omega)
  subst hx
  rw[←ih]
  clear ih
  have hg:IntKind.wrap .i64 (1 - bits .and .i64 (nth q (i:Int)) 1)=q1P (nth q (i:Int)):=rfl
  have hnn:nth ((q0F q i).set i (q1P (nth q (i:Int)))) (i:Int)=q1P (nth q (i:Int)):=by
   rw[q1y (by rw[List.length_set];omega),List.getElem_set_self]
  have e1:List.set (List.map intD (q0F q i)) i [D.int .i64 (q1P (nth q (i:Int)))]=List.map intD ((q0F q i).set i (q1P (nth q (i:Int)))):=by rw[List.map_set];rfl
  have hl2:((q0F q i).set i (q1P (nth q (i:Int)))).length=q.length+2:=by rw[List.length_set];exact hl
  rw[q0p f904_L0.eq_1]
  simp only[iZ,tyC,ilV,rowB]
  rw[←hs]
  simp(disch:=first|decide|omega|(simp only[LN];first|done|omega)) only[SV,SW,Nat.reduceBEq,intD,hn,hg,e1,lose,hnn,reduceCtorEq,Nat.reduceEqDiff,Nat.reduceAdd]
end Go.Vm
end

section
namespace Go.Vm
set_option maxRecDepth 20000
open Go.Proofs Go.RowKit
def wdB(k:Nat):Option Blk→Bool
 |some blk=>blk.k==k
 |none=>false
theorem q50(k blk):wdB k (some blk)=(blk.k==k):=rfl
theorem j3n(H b k):q4n H b k=wdB k (look H b):=by unfold q4n wdB;cases look H b <;> rfl
theorem z98(H:List (Nat×Blk))(b i n k:Nat)(c:Bool)(kd:IntKind)(p:Int):q3B H false false true false k (.bsl b i n) (.tup []) (.d c (.int kd p)) (.tup [])=if wdB k (look H b)=true∧0≤p∧p≤n then some (.bsl b i p.toNat) else none:=by
 rw[←j3n]
 by_cases hw:q4n H b k=true
 ·by_cases h:0≤p∧p≤n
  ·rw[if_pos ⟨hw,h⟩];simp [q3B,V.isStr,q5B,q3z,hw,h]
  ·rw[if_neg (fun h'=>h h'.2)]
   simp only[q3B,V.isStr,q5B,q3z,hw]
   simp;omega
 ·rw[if_neg (fun h'=>hw h'.1)]
  have:q4n H b k=false:=by simpa using hw
  simp [q3B,V.isStr,q5B,q3z,this]
theorem rowF(q:List Int):((List.map intD (q0F q 0)).take q.length=q.map intD)∧
  ((List.map intD (q0F q q.length)).take q.length=(q.map q1P).map intD)∧
  ((List.map intD (q0F q 0))[q.length]? = some [.int .i64 77])∧
  ((List.map intD (q0F q 0))[q.length+1]? = some [.int .i64 78])∧
  ((List.map intD (q0F q 0)).length=q.length+2)∧
  ((List.map intD (q0F q q.length)).length=q.length+2)∧
  (List.map intD q++[[D.int .i64 77],[D.int .i64 78]]=List.map intD (q0F q 0))∧
  (((q.length:Int)+1).toNat=q.length+1)∧
  (List.take (q.length+2) (List.map intD (q0F q 0))=List.map intD (q0F q 0))∧
  (q0E (List.map intD q)=true)∧
  (q0E (List.map intD (q0F q 0))=true):=by
 have m1:(List.map intD (q0F q 0)).take q.length=q.map intD:=by rw[←List.map_take,q7O q 0 (by omega)];simp
 have m2:(List.map intD (q0F q q.length)).take q.length=(q.map q1P).map intD:=by rw[←List.map_take,q7O q q.length (by omega)];simp
 have m3:(List.map intD (q0F q 0))[q.length]? = some [.int .i64 77]:=by rw[z0w];simp [intD]
 have m4:(List.map intD (q0F q 0))[q.length+1]? = some [.int .i64 78]:=by rw[z0w];simp [intD]
 have m5:(List.map intD (q0F q 0)).length=q.length+2:=by rw[List.length_map,q2y q 0 (by omega)]
 have m6:(List.map intD (q0F q q.length)).length=q.length+2:=by rw[List.length_map,q2y q _ (Nat.le_refl _)]
 have m0:List.map intD q++[[D.int .i64 77],[D.int .i64 78]]=List.map intD (q0F q 0):=by rw[z0w];simp [intD]
 have i2:((q.length:Int)+1).toNat=q.length+1:=by omega
 have i3:List.take (q.length+2) (List.map intD (q0F q 0))=List.map intD (q0F q 0):=List.take_of_length_le (by omega)
 have fI:q0E (List.map intD q)=true:=q3U q intD fun _=>rfl
 have f0:q0E (List.map intD (q0F q 0))=true:=q3U _ intD fun _=>rfl
 exact⟨m1,m2,m3,m4,m5,m6,m0,i2,i3,fI,f0⟩
def q4l(r:Option (Ex×S)):Prop:=∃ H nx mv,r=some (.ret,⟨[(10,.bool true)],H,nx,mv⟩)
set_option maxHeartbeats 4000000 in
theorem A0_ev(K:Cx)(t o:Ty)(a b:Int)(q:List Int)(hq:q.length≤1048576)(p1 e1 p2 e2:Int)(mv:List Nat) :
  exec K z0Z ⟨[(2,iZ a),(3,iZ b),(4,ilV q),(5,.ptr 0 0 0),(19,.bsl 2 0 (q.length+2)),(25,.bsl 4 0 (q.length+2))],[(4,.dat true 1 (List.map intD (q0F q 0))),(3,.dat true 1 [[.int .i64 77],[.int .i64 78]]),(2,.dat true 1 (List.map intD (q0F q 0))),(1,.mix 3 [tyC o]),(0,.mix 3 [tyC t])],5,mv⟩=some (.nrm,⟨[(2,iZ a),(3,iZ b),(4,ilV q),(5,.ptr 0 0 0),(19,.bsl 1 0 (q.length+2)),(25,.bsl 2 0 (q.length+2))],[(0,.mix 3 [tyC t]),(1,rowB q q.length),(2,rowB q q.length)],3,[]⟩):=by
 have wl:=z4I K a b t q (by omega) q.length 0 0 (by omega) rfl
 obtain⟨m1,m2,m3,m4,m5,m6,m0,i2,i3,fI,f0⟩:=rowF q
 obtain⟨tk,tn,tl⟩:=t
 obtain⟨ok,on,ol⟩:=o
 unfold z0Z
 simp only[tyC,iZ,ilV,rowB] at wl ⊢
 generalize hM:List.map intD (q0F q 0)=M at *
 generalize hN:List.map intD (q0F q q.length)=N at *
 clear hM hN
 simp(disch:=first|decide|omega|(simp only[LN];first|done|omega)) only[SX,SW,Nat.reduceBEq,reduceCtorEq,Nat.reduceEqDiff,Nat.reduceAdd,wl]
set_option maxHeartbeats 4000000 in
theorem A1_ev(K:Cx)(t o:Ty)(a b:Int)(q:List Int)(hq:q.length≤1048576)(p1 e1 p2 e2:Int)(w14r:K.call 14 [tyW t,ilV (q.map q1P)]=some (.tup [iZ p2,iZ e2],[]))(w15r:K.call 15 [tyW t,ilV (q.map q1P)]=some (.tup [iZ p2,iZ e2],[]))(w17:K.call 17 [tyW t,iZ a,iZ b]=some (.bool true,[]))(mv:List Nat) :
  q4l (exec K z0Y ⟨[(2,iZ a),(3,iZ b),(4,ilV q),(5,.ptr 0 0 0),(19,.bsl 2 0 (q.length+2))],[(3,.dat true 1 [[.int .i64 77],[.int .i64 78]]),(2,.dat true 1 (List.map intD (q0F q 0))),(1,.mix 3 [tyC o]),(0,.mix 3 [tyC t])],4,mv⟩):=by
 have w:=A0_ev K t o a b q hq p1 e1 p2 e2 (4 :: mv)
 obtain⟨m1,m2,m3,m4,m5,m6,m0,i2,i3,fI,f0⟩:=rowF q
 obtain⟨tk,tn,tl⟩:=t
 obtain⟨ok,on,ol⟩:=o
 unfold z0Y q4l
 simp only[tyW,tyC,iZ,ilV,rowB] at w14r w15r w17 w ⊢
 generalize hM:List.map intD (q0F q 0)=M at *
 generalize hN:List.map intD (q0F q q.length)=N at *
 clear hM hN
 refine⟨[],0,[],?_⟩
 simp(disch:=first|decide|omega|(simp only[LN];first|done|omega)) only[SX,SW,Nat.reduceBEq,q1m,q3q,Int.toNat_zero,List.replicate_zero,Nat.reduceAdd,m5,f0,lose,V.forget,V.drop1,V.ref0,reduceCtorEq,Nat.reduceEqDiff,forgetH,Blk.forget,q0z,q0P,w,z98,q50,Blk.k,q0a,m6,m2,w14r,w15r,w17]
set_option maxHeartbeats 4000000 in
theorem A2_ev(K:Cx)(t o:Ty)(a b:Int)(q:List Int)(hq:q.length≤1048576)(p1 e1 p2 e2:Int)(mv:List Nat) :
  exec K z00 ⟨[(2,iZ a),(3,iZ b),(4,ilV q),(5,.ptr 0 0 0),(17,iZ p1),(18,iZ e1),(19,.bsl 2 0 (q.length+2)),(20,iZ p1),(21,iZ e1),(22,iZ p1),(23,iZ e1),(24,.bool true)],[(3,.dat true 1 [[.int .i64 77],[.int .i64 78]]),(2,.dat true 1 (List.map intD (q0F q 0))),(1,.mix 3 [tyC o]),(0,.mix 3 [tyC t])],4,mv⟩=some (.nrm,⟨[(143,.bool false),(2,iZ a),(3,iZ b),(4,ilV q),(5,.ptr 0 0 0),(19,.bsl 2 0 (q.length+2))],[(3,.dat true 1 [[.int .i64 77],[.int .i64 78]]),(2,.dat true 1 (List.map intD (q0F q 0))),(1,.mix 3 [tyC o]),(0,.mix 3 [tyC t])],4,mv⟩):=by
 obtain⟨m1,m2,m3,m4,m5,m6,m0,i2,i3,fI,f0⟩:=rowF q
 obtain⟨tk,tn,tl⟩:=t
 obtain⟨ok,on,ol⟩:=o
 unfold z00
 simp only[tyC,iZ,ilV]
 generalize hM:List.map intD (q0F q 0)=M at *
 clear hM m2 m6
 simp(disch:=first|decide|omega|(simp only[LN];first|done|omega)) only[SX,SW,Nat.reduceBEq,z0v,m3,i2,m4]
set_option maxHeartbeats 4000000 in
theorem j5T(K:Cx)(t o:Ty)(a b:Int)(q:List Int)(hq:q.length≤1048576)(p1 e1 p2 e2:Int)(w15:K.call 15 [tyW t,ilV q]=some (.tup [iZ p1,iZ e1],[]))(w16:K.call 16 [ilV q,ilV q]=some (.bool true,[]))(w14r:K.call 14 [tyW t,ilV (q.map q1P)]=some (.tup [iZ p2,iZ e2],[]))(w15r:K.call 15 [tyW t,ilV (q.map q1P)]=some (.tup [iZ p2,iZ e2],[]))(w17:K.call 17 [tyW t,iZ a,iZ b]=some (.bool true,[]))(mv:List Nat) :
  exec K (.reg [⟨[],[(24,(.call 16 (.cons (.cut false false true false 1 (.sl 19) .nil (.len false (.sl 4)) .nil) (.cons (.sl 4) .nil))))],[],none,[2,3,4,5,17,18,19,20,21,22,23],7,[],[],[]⟩]) ⟨[(2,iZ a),(3,iZ b),(4,ilV q),(5,.ptr 0 0 0),(17,iZ p1),(18,iZ e1),(19,.bsl 2 0 (q.length+2)),(20,iZ p1),(21,iZ e1),(22,iZ p1),(23,iZ e1)],[(3,.dat true 1 [[.int .i64 77],[.int .i64 78]]),(2,.dat true 1 (List.map intD (q0F q 0))),(1,.mix 3 [tyC o]),(0,.mix 3 [tyC t])],4,mv⟩=some (.nrm,⟨[(24,.bool true),(2,iZ a),(3,iZ b),(4,ilV q),(5,.ptr 0 0 0),(17,iZ p1),(18,iZ e1),(19,.bsl 2 0 (q.length+2)),(20,iZ p1),(21,iZ e1),(22,iZ p1),(23,iZ e1)],[(3,.dat true 1 [[.int .i64 77],[.int .i64 78]]),(2,.dat true 1 (List.map intD (q0F q 0))),(1,.mix 3 [tyC o]),(0,.mix 3 [tyC t])],4,mv⟩):=by
 obtain⟨m1,m2,m3,m4,m5,m6,m0,i2,i3,fI,f0⟩:=rowF q
 obtain⟨tk,tn,tl⟩:=t
 obtain⟨ok,on,ol⟩:=o
 simp only[tyC,iZ,ilV] at w16 ⊢
 generalize hM:List.map intD (q0F q 0)=M at *
 clear hM m2 m6
 simp(disch:=first|decide|omega|(simp only[LN];first|done|omega)) only[SX,SW,Nat.reduceBEq,z98,q50,Blk.k,q0a,m5,m1,w16]
set_option maxHeartbeats 4000000 in
theorem j5U(K:Cx)(t o:Ty)(a b:Int)(q:List Int)(hq:q.length≤1048576)(p1 e1 p2 e2:Int)(w15:K.call 15 [tyW t,ilV q]=some (.tup [iZ p1,iZ e1],[]))(w16:K.call 16 [ilV q,ilV q]=some (.bool true,[]))(w14r:K.call 14 [tyW t,ilV (q.map q1P)]=some (.tup [iZ p2,iZ e2],[]))(w15r:K.call 15 [tyW t,ilV (q.map q1P)]=some (.tup [iZ p2,iZ e2],[]))(w17:K.call 17 [tyW t,iZ a,iZ b]=some (.bool true,[]))(mv:List Nat) :
  q4l (exec K z0X ⟨[(2,iZ a),(3,iZ b),(4,ilV q),(5,.ptr 0 0 0),(17,iZ p1),(18,iZ e1),(19,.bsl 2 0 (q.length+2)),(20,iZ p1),(21,iZ e1),(22,iZ p1),(23,iZ e1)],[(3,.dat true 1 [[.int .i64 77],[.int .i64 78]]),(2,.dat true 1 (List.map intD (q0F q 0))),(1,.mix 3 [tyC o]),(0,.mix 3 [tyC t])],4,mv⟩):=by
 obtain⟨H,nx,mv',w⟩:=A1_ev K t o a b q hq p1 e1 p2 e2 w14r w15r w17 mv
 have wr:=j5T K t o a b q hq p1 e1 p2 e2 w15 w16 w14r w15r w17 mv
 have wc:=A2_ev K t o a b q hq p1 e1 p2 e2 mv
 unfold z0X q4l
 refine⟨H,nx,mv',?_⟩
 rw[q2l,wr,q3k,q2l,q2l,q0z,q3k]
 have e1:q21 ⟨[(24,.bool true),(2,iZ a),(3,iZ b),(4,ilV q),(5,.ptr 0 0 0),(17,iZ p1),(18,iZ e1),(19,.bsl 2 0 (q.length+2)),(20,iZ p1),(21,iZ e1),(22,iZ p1),(23,iZ e1)],[(3,.dat true 1 [[.int .i64 77],[.int .i64 78]]),(2,.dat true 1 (List.map intD (q0F q 0))),(1,.mix 3 [tyC o]),(0,.mix 3 [tyC t])],4,mv⟩ [2,3,4,5,17,18,19,20,21,22,23,24]=⟨[(2,iZ a),(3,iZ b),(4,ilV q),(5,.ptr 0 0 0),(17,iZ p1),(18,iZ e1),(19,.bsl 2 0 (q.length+2)),(20,iZ p1),(21,iZ e1),(22,iZ p1),(23,iZ e1),(24,.bool true)],[(3,.dat true 1 [[.int .i64 77],[.int .i64 78]]),(2,.dat true 1 (List.map intD (q0F q 0))),(1,.mix 3 [tyC o]),(0,.mix 3 [tyC t])],4,mv⟩:=rfl
 have e2:q21 ⟨[(143,.bool false),(2,iZ a),(3,iZ b),(4,ilV q),(5,.ptr 0 0 0),(19,.bsl 2 0 (q.length+2))],[(3,.dat true 1 [[.int .i64 77],[.int .i64 78]]),(2,.dat true 1 (List.map intD (q0F q 0))),(1,.mix 3 [tyC o]),(0,.mix 3 [tyC t])],4,mv⟩ [2,3,4,5,19]=⟨[(2,iZ a),(3,iZ b),(4,ilV q),(5,.ptr 0 0 0),(19,.bsl 2 0 (q.length+2))],[(3,.dat true 1 [[.int .i64 77],[.int .i64 78]]),(2,.dat true 1 (List.map intD (q0F q 0))),(1,.mix 3 [tyC o]),(0,.mix 3 [tyC t])],4,mv⟩:=rfl
 rw[e1,wc,q3k,q2l,q0z,q3k,e2]
 exact w
set_option maxHeartbeats 4000000 in
theorem j5V(K:Cx)(t o:Ty)(a b:Int)(q:List Int)(hq:q.length≤1048576)(p1 e1 p2 e2:Int)(w15:K.call 15 [tyW t,ilV q]=some (.tup [iZ p1,iZ e1],[]))(w16:K.call 16 [ilV q,ilV q]=some (.bool true,[]))(w14r:K.call 14 [tyW t,ilV (q.map q1P)]=some (.tup [iZ p2,iZ e2],[]))(w15r:K.call 15 [tyW t,ilV (q.map q1P)]=some (.tup [iZ p2,iZ e2],[]))(w17:K.call 17 [tyW t,iZ a,iZ b]=some (.bool true,[]))(mv:List Nat) :
  q4l (exec K z0W ⟨[(2,iZ a),(3,iZ b),(4,ilV q),(5,.ptr 0 0 0),(17,iZ p1),(18,iZ e1),(19,.bsl 2 0 (q.length+2)),(20,iZ p1),(21,iZ e1)],[(3,.dat true 1 [[.int .i64 77],[.int .i64 78]]),(2,.dat true 1 (List.map intD (q0F q 0))),(1,.mix 3 [tyC o]),(0,.mix 3 [tyC t])],4,mv⟩):=by
 obtain⟨H,nx,mv',w⟩:=j5U K t o a b q hq p1 e1 p2 e2 w15 w16 w14r w15r w17 mv
 obtain⟨m1,m2,m3,m4,m5,m6,m0,i2,i3,fI,f0⟩:=rowF q
 obtain⟨tk,tn,tl⟩:=t
 obtain⟨ok,on,ol⟩:=o
 unfold z0W q4l
 simp only[tyW,tyC,iZ,ilV] at w15 w16 w ⊢
 generalize hM:List.map intD (q0F q 0)=M at *
 clear hM m2 m6
 refine⟨H,nx,mv',?_⟩
 simp(disch:=first|decide|omega|(simp only[LN];first|done|omega)) only[SX,SW,Nat.reduceBEq,Nat.reduceAdd,z98,q50,Blk.k,q0a,m5,m1,w15,q0z,q0P,w]
set_option maxHeartbeats 4000000 in
theorem A3_ev(K:Cx)(t o:Ty)(a b:Int)(q:List Int)(hq:q.length≤1048576)(p1 e1 p2 e2:Int)(w15:K.call 15 [tyW t,ilV q]=some (.tup [iZ p1,iZ e1],[]))(w16:K.call 16 [ilV q,ilV q]=some (.bool true,[]))(w14r:K.call 14 [tyW t,ilV (q.map q1P)]=some (.tup [iZ p2,iZ e2],[]))(w15r:K.call 15 [tyW t,ilV (q.map q1P)]=some (.tup [iZ p2,iZ e2],[]))(w17:K.call 17 [tyW t,iZ a,iZ b]=some (.bool true,[]))(mv:List Nat) :
  q4l (exec K z0V ⟨[(2,iZ a),(3,iZ b),(4,ilV q),(5,.ptr 0 0 0),(17,iZ p1),(18,iZ e1),(19,.bsl 2 0 (q.length+2))],[(3,.dat true 1 [[.int .i64 77],[.int .i64 78]]),(2,.dat true 1 (List.map intD (q0F q 0))),(1,.mix 3 [tyC o]),(0,.mix 3 [tyC t])],4,mv⟩):=by
 obtain⟨H,nx,mv',w⟩:=j5V K t o a b q hq p1 e1 p2 e2 w15 w16 w14r w15r w17 mv
 obtain⟨m1,m2,m3,m4,m5,m6,m0,i2,i3,fI,f0⟩:=rowF q
 obtain⟨tk,tn,tl⟩:=t
 obtain⟨ok,on,ol⟩:=o
 unfold z0V q4l
 simp only[tyW,tyC,iZ,ilV] at w15 w16 w ⊢
 generalize hM:List.map intD (q0F q 0)=M at *
 clear hM m2 m6
 refine⟨H,nx,mv',?_⟩
 simp(disch:=first|decide|omega|(simp only[LN];first|done|omega)) only[SX,SW,Nat.reduceBEq,Nat.reduceAdd,z98,q50,Blk.k,q0a,m5,m1,w15,q0z,q0P,w]
set_option maxHeartbeats 4000000 in
theorem A4_ev(K:Cx)(t o:Ty)(a b:Int)(q:List Int)(hq:q.length≤1048576)(p1 e1 p2 e2:Int)(w15:K.call 15 [tyW t,ilV q]=some (.tup [iZ p1,iZ e1],[]))(w16:K.call 16 [ilV q,ilV q]=some (.bool true,[]))(w14r:K.call 14 [tyW t,ilV (q.map q1P)]=some (.tup [iZ p2,iZ e2],[]))(w15r:K.call 15 [tyW t,ilV (q.map q1P)]=some (.tup [iZ p2,iZ e2],[]))(w17:K.call 17 [tyW t,iZ a,iZ b]=some (.bool true,[])) :
  q4l (exec K z0U ⟨[(2,iZ a),(3,iZ b),(4,ilV q),(5,.ptr 0 0 0),(17,iZ p1),(18,iZ e1)],[(1,.mix 3 [tyC o]),(0,.mix 3 [tyC t])],2,[]⟩):=by
 obtain⟨H,nx,mv',w⟩:=A3_ev K t o a b q hq p1 e1 p2 e2 w15 w16 w14r w15r w17 [2,2]
 obtain⟨m1,m2,m3,m4,m5,m6,m0,i2,i3,fI,f0⟩:=rowF q
 obtain⟨tk,tn,tl⟩:=t
 obtain⟨ok,on,ol⟩:=o
 unfold z0U q4l
 simp only[tyC,iZ,ilV] at w ⊢
 generalize hM:List.map intD (q0F q 0)=M at *
 clear hM m2 m6
 refine⟨H,nx,mv',?_⟩
 simp(disch:=first|decide|omega|(simp only[LN];first|done|omega)) only[SX,SW,Nat.reduceBEq,q1m,q3q,Int.toNat_zero,List.replicate_zero,Nat.reduceAdd,fI,lose,V.forget,V.drop1,V.ref0,reduceCtorEq,forgetH,Blk.forget,mkBlk,m0,q0z,q0P,w]
theorem j5m(K:Cx)(t o:Ty)(a b:Int)(q:List Int)(hq:q.length≤1048576)(p1 e1 p2 e2:Int)(w6:K.call 6 [tyW t]=some (.bool false,[]))(w6':K.call 6 [tyW o]=some (.bool false,[]))(w7:K.call 7 []=some (.bool true,[]))
  (w13:K.call 13 [tyW t,iZ a,iZ b]=some (.bool true,[])) (w13':K.call 13 [tyW o,iZ a,iZ b]=some (.bool true,[])) (w14:K.call 14 [tyW t,ilV q]=some (.tup [iZ p1,iZ e1],[])) (w15:K.call 15 [tyW t,ilV q]=some (.tup [iZ p1,iZ e1],[])) (w16:K.call 16 [ilV q,ilV q]=some (.bool true,[])) (w14r:K.call 14 [tyW t,ilV (q.map q1P)]=some (.tup [iZ p2,iZ e2],[])) (w15r:K.call 15 [tyW t,ilV (q.map q1P)]=some (.tup [iZ p2,iZ e2],[])) (w17:K.call 17 [tyW t,iZ a,iZ b]=some (.bool true,[])) :
  ∃ mv,q0c K f904 [tyW t,tyW o,iZ a,iZ b,ilV q] []=some (.bool true,[],mv):=by
 obtain⟨H,nx,mv,w⟩:=A4_ev K t o a b q hq p1 e1 p2 e2 w15 w16 w14r w15r w17
 obtain⟨tk,tn,tl⟩:=t
 obtain⟨ok,on,ol⟩:=o
 unfold f904
 simp only[tyW,tyC,iZ,ilV] at w6 w6' w7 w13 w13' w14 w ⊢
 refine⟨[],?_⟩
 simp(disch:=first|decide|omega|(simp only[LN];first|done|omega)) only[SV,SW,Nat.reduceAdd,Nat.reduceBEq,q0a,w6,w6',w7,w13,w13',w14,q0z,q0P,w,q0b]
end Go.Vm
end

section
namespace Go.Vm
set_option maxRecDepth 20000
open Go.Proofs Go.RowKit
section
variable {G:Nat→Option (List D)}
theorem j2d{m:Int}(hG:GZ G m)(t o:Ty)(hf:t.fit)(ho:o.fit)(a b:Int)(q:List Int)(hq:q.length≤1048576):q1V Tryz.prog G 4 [tyW t,tyW o,iZ a,iZ b,ilV q] (.bool true) []:=by
 obtain⟨n,hn,hn'⟩:∃ n,SizeOf.sizeOf t<n∧SizeOf.sizeOf o<n:=⟨SizeOf.sizeOf t+SizeOf.sizeOf o+1,by omega,by omega⟩
 have h6:=z6h (G:=G) n
 by_cases hg:(t.great||o.great)=true
 ·have w6:(cx G [zT 6 n fun t=>.bool t.great] []).call 6 [tyW t]=some (.bool t.great,[]):=cx1 (zT 6 n fun t=>.bool t.great) t ⟨hf,hn⟩
  have w6':(cx G [zT 6 n fun t=>.bool t.great] []).call 6 [tyW o]=some (.bool o.great,[]):=cx1 (zT 6 n fun t=>.bool t.great) o ⟨ho,hn'⟩
  exact(q2o q0e ((Known.nil (G:=G)).put h6).sound z6l (j2M _ t o a b q _ _ hg w6 w6')).2
 ·simp only[Bool.or_eq_true,not_or,Bool.not_eq_true] at hg
  obtain⟨g1,g2⟩:=hg
  have b1:=j0G g1
  have b2:=j0G g2
  have S:=((Known.nil (G:=G)).put h6 |>.put (z7h hG) |>.put (z13h hG n) |>.put (z14h n) |>.put (z15i hG n) |>.put z16h |>.put (z17h hG n)).sound
  obtain⟨p1,e1,E1⟩:=z5x t.ofL q
  obtain⟨p2,e2,E2⟩:=z5x t.ofL (q.map q1P)
  have hq':(q.map q1P).length≤1099511627776:=by rw[List.length_map];omega
  obtain⟨mv,hev⟩:=j5m (cx G [zJ 17 n fun _ _ _=>.bool true,z16,zO 15 n fun _=>True,zO 14 n Few,zJ 13 n fun _ _ _=>.bool true,z7,zT 6 n fun t=>.bool t.great] []) t o a b q hq p1 e1 p2 e2
   (by rw[←g1];exact cxa (E:=[]) 6 (zT 6 n fun t=>.bool t.great) rfl rfl t ⟨hf,hn⟩)
   (by rw[←g2];exact cxa (E:=[]) 6 (zT 6 n fun t=>.bool t.great) rfl rfl o ⟨ho,hn'⟩)
   (cxa (E:=[]) 5 z7 rfl rfl () trivial)
   (cxa (E:=[]) 4 (zJ 13 n fun _ _ _=>.bool true) rfl rfl (t,a,b) ⟨hf,hn,b1⟩)
   (cxa (E:=[]) 4 (zJ 13 n fun _ _ _=>.bool true) rfl rfl (o,a,b) ⟨ho,hn',b2⟩)
   (by rw[←E1];exact cxa (E:=[]) 3 (zO 14 n Few) rfl rfl (t,q) ⟨hf,hn,b1,by omega⟩)
   (by rw[←E1];exact cxa (E:=[]) 2 (zO 15 n fun _=>True) rfl rfl (t,q) ⟨hf,hn,trivial,by omega⟩)
   (by
    have:=cxa (L:=[zJ 17 n fun _ _ _=>.bool true,z16,zO 15 n fun _=>True,zO 14 n Few,zJ 13 n fun _ _ _=>.bool true,z7,zT 6 n fun t=>.bool t.great]) (E:=[]) 1 z16 rfl rfl (q,q) ⟨by omega,by omega⟩
    have e:z16.res (q,q)=(.bool true,[]):=by simp [z16]
    rw[e] at this
    exact this)
   (by rw[←E2];exact cxa (E:=[]) 3 (zO 14 n Few) rfl rfl (t,q.map q1P) ⟨hf,hn,b1,hq'⟩)
   (by rw[←E2];exact cxa (E:=[]) 2 (zO 15 n fun _=>True) rfl rfl (t,q.map q1P) ⟨hf,hn,trivial,hq'⟩)
   (cxa (E:=[]) 0 (zJ 17 n fun _ _ _=>.bool true) rfl rfl (t,a,b) ⟨hf,hn,b1⟩)
  exact(q2o q0e S z6l hev).2
end
end Go.Vm
end

section
namespace Go.Proofs.YtlabpphbiglofaaGreatDoor.latticeAnswers
open Go.ChangeShapes Go.WideShapes Go.ChangeAt Go.RowKit Go.Vm Go.ChangeMaps
set_option linter.unusedVariables false
theorem bulk5{H:Type}{a b c d e:DataW H}(h:Rows.uptoSmall H ([a,b,c,d,e]++[])=true):Rows.uptoBulk a≤1048576∧Rows.uptoBulk b≤1048576∧Rows.uptoBulk e≤1048576:=by
 have h:=of_decide_eq_true h
 simp only[List.append_nil,Rows.uptoBulkAll,Nat.add_zero] at h
 omega
def isI(t:TypeId):Bool:=t==3||t==35
theorem j33:∀ t,isI t=true→q7Q Tryz.prog isI t=true:=by
 intro t h
 simp only[isI,Bool.or_eq_true,beq_iff_eq] at h
 rcases h with rfl|rfl <;> kernel_rfl
theorem j5H:Tryz.prog.cellsOf 3=1:=by kernel_rfl
theorem z2H{n:Nat}{ds:List D}(h:q08 Tryz.prog 1048576 n 35 ds):∃ q:List Int,ds=[.sl 1 (q.map intD)]∧q.length≤1048576:=by
 cases n with
 |zero=>exact absurd h (by simp [q08])
 |succ n=>
  rw[q08] at h
  simp only[Tryz.underlying35,j5H] at h
  obtain⟨rows,rfl,hl,hr⟩:=h
  obtain⟨l,rfl,h2⟩:=q6o (e:=intD) (Q:=fun _=>True) rows (fun r h=>by
   obtain⟨m,hm,_⟩:=q7A (hr r h).2
   exact⟨m,hm,trivial⟩)
  rw[List.length_map] at hl
  exact⟨l,rfl,by omega⟩
set_option maxRecDepth 100000 in
theorem contract(H:Type)(enc:TypeId×Value→H)(W:World)(base:Nat)(args:Array Value)(ds gs:List (DataW H))(before:List MemPlace)
  (hval:∀(j:Nat) t v,Tryz.f4.params[j]? = some t→args[j]? = some v→Value.okWide Tryz.prog W .any base t v)
  (hW:DataW.Whole enc Tryz.prog Tryz.f4.params.toList Rows.latticeAnswersSpec.vars false W args.toList ds gs before) (hk:Rows.uptoSmall H (ds++gs)=true) (hL:laidMetH Tryz.prog q9x W) (hS:W.ShapedOpen Tryz.prog) :
  Calls Tryz.prog 4 args W fun e W'=>∃ v,e=.returned v∧Rows.latticeAnswersSpec.post enc Tryz.prog Tryz.f4 false true false false W args v W':=by
 have hW':=hW
 obtain⟨p,q,hA0,hV,rfl,hfz,hnd⟩:=hW
 have hA:DataW.TrodAll enc Tryz.prog W 0 (fun _=>true) true Tryz.f4.params.toList args.toList ds p:=hA0
 rw[Tryz.params4] at hA hval
 obtain⟨v0,vs0,d0,ds0,p0,q0,hargs,rfl,rfl,h0,r0⟩:=trodAll_cons hA
 obtain⟨v1,vs1,d1,ds1,p1,q1,rfl,rfl,rfl,h1,r1⟩:=trodAll_cons r0
 obtain⟨v2,vs2,d2,ds2,p2,q2,rfl,rfl,rfl,h2,r2⟩:=trodAll_cons r1
 obtain⟨v3,vs3,d3,ds3,p3,q3,rfl,rfl,rfl,h3,r3⟩:=trodAll_cons r2
 obtain⟨v4,vs4,d4,ds4,p4,q4,rfl,rfl,rfl,h4,r4⟩:=trodAll_cons r3
 obtain⟨rfl,rfl,rfl⟩:=trodAll_nil r4
 obtain rfl:args = #[v0,v1,v2,v3,v4]:=by cases args;simp_all
 obtain⟨rfl,rfl⟩:=trodVars_none hV
 obtain⟨n2,rfl,rfl,rfl,g2⟩:=open_int Tryz.underlying3 (hval 2 3 v2 rfl rfl) h2
 obtain⟨n3,rfl,rfl,rfl,g3⟩:=open_int Tryz.underlying3 (hval 3 3 v3 rfl rfl) h3
 clear hA0
 simp only[List.append_nil] at hW'
 obtain⟨hb,hb1,hb4⟩:=bulk5 hk
 obtain⟨nn,dl,hty,hr0⟩:=q8S j0F z1e hb (by decide) (hval 0 24 v0 rfl rfl) h0 (base:=W.heap.size)
 obtain⟨t,rfl,ht⟩:=q8h nn _ hty
 have ha:argV (q8W Tryz.prog 24) t.d=tyW t:=by
  have:q8W Tryz.prog 24=true:=by kernel_rfl
  rw[this]
  obtain⟨k,nm,l⟩:=t
  simp [argV,Ty.d,tyW,q09]
 rw[ha] at hr0
 obtain⟨nn1,dl1,hty1,hr1⟩:=q8S j0F z1e hb1 (by decide) (hval 1 24 v1 rfl rfl) h1 (base:=W.heap.size)
 obtain⟨o,rfl,ho⟩:=q8h nn1 _ hty1
 have ha1:argV (q8W Tryz.prog 24) o.d=tyW o:=by
  have:q8W Tryz.prog 24=true:=by kernel_rfl
  rw[this]
  obtain⟨k,nm,l⟩:=o
  simp [argV,Ty.d,tyW,q09]
 rw[ha1] at hr1
 obtain⟨nn4,dl4,hty4,hr4⟩:=q8S j33 z1e hb4 (by decide) (hval 4 35 v4 rfl rfl) h4 (base:=W.heap.size)
 obtain⟨q,rfl,hq⟩:=z2H hty4
 have ha4:argV (q8W Tryz.prog 35) [.sl 1 (q.map intD)]=ilV q:=by
  have:q8W Tryz.prog 35=false:=by kernel_rfl
  rw[this];rfl
 rw[ha4] at hr4
 obtain⟨m,hG⟩:=q8C hL hS
 have hcall:=j2d (gz_ok m) t o ht ho n2 n3 q hq W (q97 W) #[v0,v1,.int .i64 n2,.int .i64 n3,v4] (fun b h=>h) hG ⟨rfl,fun j v x hv hx=>by
  match j,hv,hx with
  |0,hv,hx=>simp at hv hx;subst hv;subst hx;exact hr0
  |1,hv,hx=>simp at hv hx;subst hv;subst hx;exact hr1
  |2,hv,hx=>simp at hv hx;subst hv;subst hx;exact .d _ _ _ (.int _ _)
  |3,hv,hx=>simp at hv hx;subst hv;subst hx;exact .d _ _ _ (.int _ _)
  |4,hv,hx=>simp at hv hx;subst hv;subst hx;exact hr4
  |j+5,hv,hx=>simp at hv⟩
 refine hcall.mono fun e W' ⟨v,F',σ',he,hbel,_,hR,_⟩=>?_
 have hv:=hR.bool_inv
 subst hv
 subst he
 have hlt:∀ x,(x∈p0∨x∈p1∨x∈p4)→x.block<W.heap.size:=fun x hx=>hW'.lt x (by rcases hx with h|h|h <;> simp [h])
 exact⟨_,rfl,z2U hW' hbel (fun _ _ _=>(trodAll_cons_mk (shut_bool Tryz.underlying4 _) trodAll_mk0))
  (fun sp hsp=>by
   have:=trodAll_cons_mk (WideElems.Trod_stays q8z (by kernel_rfl) (of_decide_eq_true (by kernel_rfl)) h0 (fun x hx=>hbel.same (hlt x (.inl hx))) (fun x hx=>hsp x (by simp [hx])))
    (trodAll_cons_mk (WideElems.Trod_stays q8z (by kernel_rfl) (of_decide_eq_true (by kernel_rfl)) h1 (fun x hx=>hbel.same (hlt x (.inr (.inl hx)))) (fun x hx=>hsp x (by simp [hx])))
    (trodAll_cons_mk (shut_int Tryz.underlying3 g2) (trodAll_cons_mk (shut_int Tryz.underlying3 g3)
    (trodAll_cons_mk (WideElems.Trod_stays q8z (by kernel_rfl) (of_decide_eq_true (by kernel_rfl)) h4 (fun x hx=>hbel.same (hlt x (.inr (.inr hx)))) (fun x hx=>hsp x (by simp [hx]))) trodAll_mk0))))
   have this':DataW.TrodAll enc Tryz.prog W' 0 sp true [24,24,3,3,35] [v0,v1,.int .i64 n2,.int .i64 n3,v4] [d0,d1,.lit (.int .i64 n2),.lit (.int .i64 n3),d4] (p0++(p1++p4)):=by simpa using this
   simpa [Rows.latticeAnswersSpec] using this')
  (fun _=>rfl) (ok_one (by kernel_rfl) rfl (okWide_bool_mk Tryz.underlying4 _))⟩
def wargs:Array Value:=#[.agg #[.int .i64 1,.string ⟨#[]⟩,.slice none 0 0],.agg #[.int .i64 1,.string ⟨#[]⟩,.slice none 0 0],.int .i64 0,.int .i64 0,.slice none 0 0]
theorem reads(os:Os){H:Type}(enc:TypeId×Value→H):∃ places,DataW.whole enc Tryz.prog ((q5u os).forCall (fun _ _=>0) ⟨#[],wargs,[]⟩).memory Tryz.f4.params.toList Rows.latticeAnswersSpec.vars false wargs.toList 8=some ([.agg [.lit (.int .i64 1),.lit (.string []),.nil],.agg [.lit (.int .i64 1),.lit (.string []),.nil],.lit (.int .i64 0),.lit (.int .i64 0),.nil],[],places):=
 ⟨[],by kernel_rfl⟩
set_option maxRecDepth 100000 in
theorem liftedUpto(os:Os)(started:os.Started)(H:Type)(enc:TypeId×Value→H)(F:Stop.Interp) :
  ReturnsInHanded {} Tryz.checked os 4 .any ((Rows.OpenSpec.upto Rows.latticeAnswersSpec).preRow enc Tryz.prog Tryz.f4 Rows.latticeAnswersUptoRow.domain false Rows.latticeAnswersUptoRow.laid) (((Rows.OpenSpec.upto Rows.latticeAnswersSpec).at F).post enc Tryz.prog Tryz.f4 false true false false):=by
 obtain⟨places,hx⟩:=reads os enc
 refine returnsInHanded_of_row (C:=Tryz.checked) (s:=Rows.OpenSpec.upto Rows.latticeAnswersSpec) ownZ started (by kernel_rfl) Tryz.func4
  (witness_row_at (enc:=enc) (C:=Tryz.checked) false (q5u os) wargs rfl (by kernel_rfl) (by kernel_rfl) (by kernel_rfl)
   (OpenSpec.preRow_of_cond 8 hx (by kernel_rfl) (fun k hk=>by cases hk;kernel_rfl) (by kernel_rfl) (z5T os wargs))) ?_
 intro W base args ds gs before hval hW _ hcond _ hL hS _
 exact contract H enc W base args ds gs before hval hW (hcond _ rfl) hL hS
theorem saidUpto:Rows.LatticeAnswersUptoSaid:=
 OpenClaim.holds_of_cond 4 Tryz.f4 rfl rfl rfl rfl rfl rfl rfl ⟨rfl,rfl,rfl,rfl,rfl⟩ rfl rfl rfl rfl rfl (by kernel_rfl) Tryz.func4 (by kernel_rfl)
  (of_decide_eq_true (by kernel_rfl)) (by unfold Func.isWrapper;first|(rw[if_pos (by decide +kernel)];kernel_rfl)|(rw[if_neg (by decide +kernel)];exact⟨rfl,rfl⟩))
  (fun os started H enc _ F=>by rw[OpenClaim.pre_eq_preRow];exact liftedUpto os started H enc F)
theorem plain(f:FuncId)(fn:Func)(hf:Tryz.pinned.checked.prog.funcNamed "sloth/slothlaw14.LatticeAnswers" = some f) (hfn:Tryz.pinned.checked.prog.funcs[f]? = some fn) :
  false=Tryz.pinned.checked.prog.looks []∧∀(j:Nat) t,fn.params[j]? = some t→Tryz.pinned.checked.prog.wantsStandIn t=false:=by
 obtain rfl:f=4:=Option.some.inj ((show Tryz.prog.funcNamed "sloth/slothlaw14.LatticeAnswers" = some 4 by kernel_rfl).symm.trans hf) |>.symm
 obtain rfl:fn=Tryz.f4:=(Option.some.inj (Tryz.func4.symm.trans hfn)).symm
 refine⟨by kernel_rfl,fun j t ht=>?_⟩
 rw[Tryz.params4] at ht
 have h24:Tryz.prog.wantsStandIn 24=false:=by kernel_rfl
 have h3:Tryz.prog.wantsStandIn 3=false:=by kernel_rfl
 have h35:Tryz.prog.wantsStandIn 35=false:=by kernel_rfl
 match j,ht with
 |0,ht=>simp at ht;subst ht;exact h24
 |1,ht=>simp at ht;subst ht;exact h24
 |2,ht=>simp at ht;subst ht;exact h3
 |3,ht=>simp at ht;subst ht;exact h3
 |4,ht=>simp at ht;subst ht;exact h35
 |j+5,ht=>simp at ht
theorem cardUpto:Rows.LatticeAnswersUptoCardSaid:=
 Claim7.holds_tied_plain_at .later [] _ _ _ _ saidUpto (fun _ h=>by cases h) (by kernel_rfl) (fun _ h=>by cases h) latticeAnswersUpto_row_tie rfl ⟨rfl,rfl⟩ (by kernel_rfl) rfl plain (by kernel_rfl)
#print axioms cardUpto
end Go.Proofs.YtlabpphbiglofaaGreatDoor.latticeAnswers
end
